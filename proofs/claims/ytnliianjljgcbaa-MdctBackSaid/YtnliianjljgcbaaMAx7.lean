/- Functions of the program as plain Lean functions, and that the code comes to their answers. No condition. -/
import Derived.Test.YtnliianjljgcbaaMAx0
import Derived.Test.YtnliianjljgcbaaMAx6
namespace Go.Proofs.Ytnliianjljgcbaa.MA
open Go.RowKit Go.Proofs.YtnliianjljgcbaaW.PrintWords Go.Proofs.YtnliianjljgcbaaW.PrintLast Go.Proofs.YtnliianjljgcbaaW.PrintMore
attribute [local go_sem] max2_int min2_int max_two min_two max_three min_three max_four min_four
set_option linter.unusedVariables false
set_option linter.unusedSimpArgs false

/-! ### madrigalref1_quarter: function 45 -/
def madrigalref1_quarter.f (k : Nat) (a0 : Int) : Option (Int) := if a0 ≤ 8192 then ((madrigalref1_Mul.f k a0 1686629713 14).bind fun t244 => ((madrigalref1_Mul.f k t244 t244 30).bind fun t245 => ((madrigalref1_series.f k t245 (-296) (([26631, (-1491308), 44739243, (-536870912), 1073741824] : List Int))).bind fun t249 => ((madrigalref1_Mul.f k t249 1 15).bind fun t250 => (some t250))))) else ((madrigalref1_Mul.f k (wrap64 (16384 - a0)) 1686629713 14).bind fun t251 => ((madrigalref1_Mul.f k t251 t251 30).bind fun t252 => ((madrigalref1_series.f k t252 2959 (([(-213044), 8947849, (-178956971), 1073741824] : List Int))).bind fun t256 => ((madrigalref1_Mul.f k t251 t256 30).bind fun t257 => ((madrigalref1_Mul.f k t257 1 15).bind fun t258 => (some t258))))))
set_option maxHeartbeats 8000000 in
set_option maxRecDepth 100000 in
theorem madrigalref1_quarter.calls (k : Nat) (a0 : Int) (r : Int) (w : World) (h : madrigalref1_quarter.f k a0 = some r) :
  Calls Try.prog 45 #[.int .i64 a0] w fun e w' => e = .returned (.int .i64 r) ∧ Below w.heap.size w w' := by
 have HB := Aside0.mk (Below.refl w.heap.size w)
 have H : (if a0 ≤ 8192 then ((madrigalref1_Mul.f k a0 1686629713 14).bind fun t244 => ((madrigalref1_Mul.f k t244 t244 30).bind fun t245 => ((madrigalref1_series.f k t245 (-296) (([26631, (-1491308), 44739243, (-536870912), 1073741824] : List Int))).bind fun t249 => ((madrigalref1_Mul.f k t249 1 15).bind fun t250 => (some t250))))) else ((madrigalref1_Mul.f k (wrap64 (16384 - a0)) 1686629713 14).bind fun t251 => ((madrigalref1_Mul.f k t251 t251 30).bind fun t252 => ((madrigalref1_series.f k t252 2959 (([(-213044), 8947849, (-178956971), 1073741824] : List Int))).bind fun t256 => ((madrigalref1_Mul.f k t251 t256 30).bind fun t257 => ((madrigalref1_Mul.f k t257 1 15).bind fun t258 => (some t258))))))) = some r := h
 clear h
 by_cases c2 : a0 ≤ 8192
 ·
  rw [if_pos c2] at H; have c2b0 : decide (a0 ≤ 8192) = true := decide_eq_true c2; clear c2; replace H := Option.bind_eq_some_iff.mp H; obtain ⟨t244, A30, H⟩ := H
  replace H : ((madrigalref1_Mul.f k t244 t244 30).bind fun t245 => ((madrigalref1_series.f k t245 (-296) (([26631, (-1491308), 44739243, (-536870912), 1073741824] : List Int))).bind fun t249 => ((madrigalref1_Mul.f k t249 1 15).bind fun t250 => (some t250)))) = some r := H
  have A3 := Aside0.mk A30; clear A30; replace H := Option.bind_eq_some_iff.mp H; obtain ⟨t245, A40, H⟩ := H
  replace H : ((madrigalref1_series.f k t245 (-296) (([26631, (-1491308), 44739243, (-536870912), 1073741824] : List Int))).bind fun t249 => ((madrigalref1_Mul.f k t249 1 15).bind fun t250 => (some t250))) = some r := H
  have A4 := Aside0.mk A40; clear A40
  obtain ⟨y246, hy246⟩ : ∃ y_ : List Int, y_ = (([26631, (-1491308), 44739243, (-536870912), 1073741824] : List Int)) := ⟨_, rfl⟩
  replace H : ((madrigalref1_series.f k t245 (-296) y246).bind fun t249 => ((madrigalref1_Mul.f k t249 1 15).bind fun t250 => (some t250))) = some r := by first | (rw [hy246]; with_reducible exact H) | (have H2_ := (Option.bind_some _ _).symm.trans H; rw [hy246]; with_reducible exact H2_) | (have H2_ := (Option.bind_some _ _).symm.trans H; with_reducible exact H2_) | with_reducible exact H | (rw [hy246]; exact H) | exact H
  have Ny246 := Aside0.mk hy246; clear hy246; replace H := Option.bind_eq_some_iff.mp H; obtain ⟨t249, A50, H⟩ := H
  replace H : ((madrigalref1_Mul.f k t249 1 15).bind fun t250 => (some t250)) = some r := H
  have A5 := Aside0.mk A50; clear A50; replace H := Option.bind_eq_some_iff.mp H; obtain ⟨t250, A60, H⟩ := H
  replace H : (some t250) = some r := H
  have A6 := Aside0.mk A60; clear A60
  obtain rfl := Option.some.inj H
  go_enter Try.func45, Try.ntmps45
  go_wp2_with (first | ((with_reducible refine gate_callee (f := 33) rfl ?_); refine goesL_ (some 10) rfl rfl Try.func33 (by kernel_rfl) rfl #[.int .i64 a0, .int .i64 1686629713, .int .i64 14] rfl (by (try simp only [List.map_toArray, List.map_cons, List.map_nil]); first | done | rfl | (simp only [List.length_drop, List.length_take]; rfl)) ?_; (with_reducible refine (madrigalref1_Mul.calls k a0 1686629713 14 t244 _ A3.out).mono ?_); rintro e w' ⟨rfl, ⟨nd, rfl⟩⟩; refine ⟨_, rfl, ?_⟩) | ((with_reducible refine gate_callee (f := 33) rfl ?_); refine goesL_ (some 13) rfl rfl Try.func33 (by kernel_rfl) rfl #[.int .i64 t244, .int .i64 t244, .int .i64 30] rfl (by (try simp only [List.map_toArray, List.map_cons, List.map_nil]); first | done | rfl | (simp only [List.length_drop, List.length_take]; rfl)) ?_; (with_reducible refine (madrigalref1_Mul.calls k t244 t244 30 t245 _ A4.out).mono ?_); rintro e w' ⟨rfl, ⟨nd, rfl⟩⟩; refine ⟨_, rfl, ?_⟩) | ((with_reducible refine gate_dst (N := 15) rfl ?_); refine Kd.R_lit (Kd.int .i64) _ 2 ?hg (N := 15) ?hd (xs := ([26631, (-1491308), 44739243, (-536870912), 1073741824] : List Int)) (inner := [.int .i64 26631, .int .i64 (-1491308), .int .i64 44739243, .int .i64 (-536870912), .int .i64 1073741824]) (ok := fun _ => True) (okp := fun _ => True) ?hr ?hp (fun _ hk => hk) trivial (Below.refl _ _) (Nat.le_refl _) (by simp) ?_; (case hd => rfl); (case hg => rfl); (case hr => first | (go_simp; done) | (go_simp; rfl)); (case hp => exact (Reps.one (show Kd.M (Kd.int .i64) _ _ _ 26631 [.int .i64 26631] from rfl) (Reps.one (show Kd.M (Kd.int .i64) _ _ _ (-1491308) [.int .i64 (-1491308)] from rfl) (Reps.one (show Kd.M (Kd.int .i64) _ _ _ 44739243 [.int .i64 44739243] from rfl) (Reps.one (show Kd.M (Kd.int .i64) _ _ _ (-536870912) [.int .i64 (-536870912)] from rfl) (Reps.one (show Kd.M (Kd.int .i64) _ _ _ 1073741824 [.int .i64 1073741824] from rfl) (Reps.none _ _))))))); intro v247 w7 ho8 hb hg_ hnew_; clear hg_ hnew_; (first | rw [← Ny246.out] at ho8 | (simp only [Int.reduceToNat] at ho8; rw [← Ny246.out] at ho8)); have n0_ := Aside0.mk (Kd.R_lower ho8 (below_size (by repeat (with_reducible first | exact HB.out | apply below_alloc | apply pw_below_drewN | apply below_drew1)))); have n1_ := Aside0.mk (below_step (by repeat (with_reducible first | exact HB.out | apply below_alloc | apply pw_below_drewN | apply below_drew1)) hb); clear HB; have HO248 := n0_; have HB := n1_; clear n0_ n1_; clear hb ho8; obtain ⟨Ao9, co9, eo9⟩ := Kd.R_slice HO248.out; subst eo9) | ((with_reducible refine gate_callee (f := 46) rfl ?_); refine goesL_ (some 16) rfl rfl Try.func46 (by kernel_rfl) rfl #[.int .i64 t245, .int .i64 (-296), .slice Ao9 y246.length co9] rfl (by (try simp only [List.map_toArray, List.map_cons, List.map_nil]); first | done | rfl | (simp only [List.length_drop, List.length_take]; rfl)) ?_; (with_reducible refine (madrigalref1_series.calls k t245 (-296) _ _ y246 t249 _ ?side1 ?side2 A5.out).mono ?_); (case side1 => repeat (first | exact (Kd.R_reads' HO248.out).2.2 | (with_reducible refine Kd.C_alloc ?_ _) | (with_reducible refine Kd.C_drewN ?_ _) | (with_reducible refine Kd.C_drew ?_))); (case side2 => exact (Kd.R_reads' HO248.out).2.1); rintro e w' ⟨rfl, ⟨nd, rfl⟩⟩; refine ⟨_, rfl, ?_⟩) | ((with_reducible refine gate_callee (f := 33) rfl ?_); refine goesL_ (some 17) rfl rfl Try.func33 (by kernel_rfl) rfl #[.int .i64 t249, .int .i64 1, .int .i64 15] rfl (by (try simp only [List.map_toArray, List.map_cons, List.map_nil]); first | done | rfl | (simp only [List.length_drop, List.length_take]; rfl)) ?_; (with_reducible refine (madrigalref1_Mul.calls k t249 1 15 t250 _ A6.out).mono ?_); rintro e w' ⟨rfl, ⟨nd, rfl⟩⟩; refine ⟨_, rfl, ?_⟩))
  go_ret
  exact ⟨by first | rfl | (simp [errW_none, errW_some] <;> rfl) | (simp [*, errW_none, errW_some] <;> rfl), by repeat (with_reducible first | exact HB.out | apply below_alloc | apply pw_below_drewN | apply below_drew1)⟩
 ·
  rw [if_neg c2] at H; have c2b0 : decide (a0 ≤ 8192) = false := decide_eq_false c2; clear c2; replace H := Option.bind_eq_some_iff.mp H; obtain ⟨t251, A100, H⟩ := H
  replace H : ((madrigalref1_Mul.f k t251 t251 30).bind fun t252 => ((madrigalref1_series.f k t252 2959 (([(-213044), 8947849, (-178956971), 1073741824] : List Int))).bind fun t256 => ((madrigalref1_Mul.f k t251 t256 30).bind fun t257 => ((madrigalref1_Mul.f k t257 1 15).bind fun t258 => (some t258))))) = some r := H
  have A10 := Aside0.mk A100; clear A100; replace H := Option.bind_eq_some_iff.mp H; obtain ⟨t252, A110, H⟩ := H
  replace H : ((madrigalref1_series.f k t252 2959 (([(-213044), 8947849, (-178956971), 1073741824] : List Int))).bind fun t256 => ((madrigalref1_Mul.f k t251 t256 30).bind fun t257 => ((madrigalref1_Mul.f k t257 1 15).bind fun t258 => (some t258)))) = some r := H
  have A11 := Aside0.mk A110; clear A110
  obtain ⟨y253, hy253⟩ : ∃ y_ : List Int, y_ = (([(-213044), 8947849, (-178956971), 1073741824] : List Int)) := ⟨_, rfl⟩
  replace H : ((madrigalref1_series.f k t252 2959 y253).bind fun t256 => ((madrigalref1_Mul.f k t251 t256 30).bind fun t257 => ((madrigalref1_Mul.f k t257 1 15).bind fun t258 => (some t258)))) = some r := by first | (rw [hy253]; with_reducible exact H) | (have H2_ := (Option.bind_some _ _).symm.trans H; rw [hy253]; with_reducible exact H2_) | (have H2_ := (Option.bind_some _ _).symm.trans H; with_reducible exact H2_) | with_reducible exact H | (rw [hy253]; exact H) | exact H
  have Ny253 := Aside0.mk hy253; clear hy253; replace H := Option.bind_eq_some_iff.mp H; obtain ⟨t256, A120, H⟩ := H
  replace H : ((madrigalref1_Mul.f k t251 t256 30).bind fun t257 => ((madrigalref1_Mul.f k t257 1 15).bind fun t258 => (some t258))) = some r := H
  have A12 := Aside0.mk A120; clear A120; replace H := Option.bind_eq_some_iff.mp H; obtain ⟨t257, A130, H⟩ := H
  replace H : ((madrigalref1_Mul.f k t257 1 15).bind fun t258 => (some t258)) = some r := H
  have A13 := Aside0.mk A130; clear A130; replace H := Option.bind_eq_some_iff.mp H; obtain ⟨t258, A140, H⟩ := H
  replace H : (some t258) = some r := H
  have A14 := Aside0.mk A140; clear A140
  obtain rfl := Option.some.inj H
  go_enter Try.func45, Try.ntmps45
  go_wp2_with (first | ((with_reducible refine gate_callee (f := 33) rfl ?_); refine goesL_ (some 20) rfl rfl Try.func33 (by kernel_rfl) rfl #[.int .i64 (wrap64 (16384 - a0)), .int .i64 1686629713, .int .i64 14] rfl (by (try simp only [List.map_toArray, List.map_cons, List.map_nil]); first | done | rfl | (simp only [List.length_drop, List.length_take]; rfl)) ?_; (with_reducible refine (madrigalref1_Mul.calls k (wrap64 (16384 - a0)) 1686629713 14 t251 _ A10.out).mono ?_); rintro e w' ⟨rfl, ⟨nd, rfl⟩⟩; refine ⟨_, rfl, ?_⟩) | ((with_reducible refine gate_callee (f := 33) rfl ?_); refine goesL_ (some 23) rfl rfl Try.func33 (by kernel_rfl) rfl #[.int .i64 t251, .int .i64 t251, .int .i64 30] rfl (by (try simp only [List.map_toArray, List.map_cons, List.map_nil]); first | done | rfl | (simp only [List.length_drop, List.length_take]; rfl)) ?_; (with_reducible refine (madrigalref1_Mul.calls k t251 t251 30 t252 _ A11.out).mono ?_); rintro e w' ⟨rfl, ⟨nd, rfl⟩⟩; refine ⟨_, rfl, ?_⟩) | ((with_reducible refine gate_dst (N := 26) rfl ?_); refine Kd.R_lit (Kd.int .i64) _ 2 ?hg (N := 26) ?hd (xs := ([(-213044), 8947849, (-178956971), 1073741824] : List Int)) (inner := [.int .i64 (-213044), .int .i64 8947849, .int .i64 (-178956971), .int .i64 1073741824]) (ok := fun _ => True) (okp := fun _ => True) ?hr ?hp (fun _ hk => hk) trivial (Below.refl _ _) (Nat.le_refl _) (by simp) ?_; (case hd => rfl); (case hg => rfl); (case hr => first | (go_simp; done) | (go_simp; rfl)); (case hp => exact (Reps.one (show Kd.M (Kd.int .i64) _ _ _ (-213044) [.int .i64 (-213044)] from rfl) (Reps.one (show Kd.M (Kd.int .i64) _ _ _ 8947849 [.int .i64 8947849] from rfl) (Reps.one (show Kd.M (Kd.int .i64) _ _ _ (-178956971) [.int .i64 (-178956971)] from rfl) (Reps.one (show Kd.M (Kd.int .i64) _ _ _ 1073741824 [.int .i64 1073741824] from rfl) (Reps.none _ _)))))); intro v254 w15 ho16 hb hg_ hnew_; clear hg_ hnew_; (first | rw [← Ny253.out] at ho16 | (simp only [Int.reduceToNat] at ho16; rw [← Ny253.out] at ho16)); have n0_ := Aside0.mk (Kd.R_lower ho16 (below_size (by repeat (with_reducible first | exact HB.out | apply below_alloc | apply pw_below_drewN | apply below_drew1)))); have n1_ := Aside0.mk (below_step (by repeat (with_reducible first | exact HB.out | apply below_alloc | apply pw_below_drewN | apply below_drew1)) hb); clear HB; have HO255 := n0_; have HB := n1_; clear n0_ n1_; clear hb ho16; obtain ⟨Ao17, co17, eo17⟩ := Kd.R_slice HO255.out; subst eo17) | ((with_reducible refine gate_callee (f := 46) rfl ?_); refine goesL_ (some 27) rfl rfl Try.func46 (by kernel_rfl) rfl #[.int .i64 t252, .int .i64 2959, .slice Ao17 y253.length co17] rfl (by (try simp only [List.map_toArray, List.map_cons, List.map_nil]); first | done | rfl | (simp only [List.length_drop, List.length_take]; rfl)) ?_; (with_reducible refine (madrigalref1_series.calls k t252 2959 _ _ y253 t256 _ ?side1 ?side2 A12.out).mono ?_); (case side1 => repeat (first | exact (Kd.R_reads' HO255.out).2.2 | (with_reducible refine Kd.C_alloc ?_ _) | (with_reducible refine Kd.C_drewN ?_ _) | (with_reducible refine Kd.C_drew ?_))); (case side2 => exact (Kd.R_reads' HO255.out).2.1); rintro e w' ⟨rfl, ⟨nd, rfl⟩⟩; refine ⟨_, rfl, ?_⟩) | ((with_reducible refine gate_callee (f := 33) rfl ?_); refine goesL_ (some 28) rfl rfl Try.func33 (by kernel_rfl) rfl #[.int .i64 t251, .int .i64 t256, .int .i64 30] rfl (by (try simp only [List.map_toArray, List.map_cons, List.map_nil]); first | done | rfl | (simp only [List.length_drop, List.length_take]; rfl)) ?_; (with_reducible refine (madrigalref1_Mul.calls k t251 t256 30 t257 _ A13.out).mono ?_); rintro e w' ⟨rfl, ⟨nd, rfl⟩⟩; refine ⟨_, rfl, ?_⟩) | ((with_reducible refine gate_callee (f := 33) rfl ?_); refine goesL_ (some 29) rfl rfl Try.func33 (by kernel_rfl) rfl #[.int .i64 t257, .int .i64 1, .int .i64 15] rfl (by (try simp only [List.map_toArray, List.map_cons, List.map_nil]); first | done | rfl | (simp only [List.length_drop, List.length_take]; rfl)) ?_; (with_reducible refine (madrigalref1_Mul.calls k t257 1 15 t258 _ A14.out).mono ?_); rintro e w' ⟨rfl, ⟨nd, rfl⟩⟩; refine ⟨_, rfl, ?_⟩))
  go_ret
  exact ⟨by first | rfl | (simp [errW_none, errW_some] <;> rfl) | (simp [*, errW_none, errW_some] <;> rfl), by repeat (with_reducible first | exact HB.out | apply below_alloc | apply pw_below_drewN | apply below_drew1)⟩

/-! ### madrigalref1_Cos: function 43 -/
def madrigalref1_Cos.j0 : Nat → Int → Option (Int)
 | 0, _ => none
 | k + 1, x0 => if x0 > 16384 then ((madrigalref1_quarter.f k (wrap64 (32768 - x0))).bind fun t259 => (some (wrap64 (-t259)))) else ((madrigalref1_quarter.f k x0).bind fun t260 => (some t260))
def madrigalref1_Cos.f (k : Nat) (a0 : Int) : Option (Int) := if (Go.bits .and .i64 a0 65535) > 32768 then (madrigalref1_Cos.j0 k (wrap64 (65536 - (Go.bits .and .i64 a0 65535)))) else (madrigalref1_Cos.j0 k (Go.bits .and .i64 a0 65535))
set_option maxHeartbeats 8000000 in
set_option maxRecDepth 100000 in
theorem madrigalref1_Cos.calls (k : Nat) (a0 : Int) (r : Int) (w : World) (h : madrigalref1_Cos.f k a0 = some r) :
  Calls Try.prog 43 #[.int .i64 a0] w fun e w' => e = .returned (.int .i64 r) ∧ Below w.heap.size w w' := by
 have HB := Aside0.mk (Below.refl w.heap.size w)
 have H : (if (Go.bits .and .i64 a0 65535) > 32768 then (madrigalref1_Cos.j0 k (wrap64 (65536 - (Go.bits .and .i64 a0 65535)))) else (madrigalref1_Cos.j0 k (Go.bits .and .i64 a0 65535))) = some r := h
 clear h; have HC2 := Aside0.mk H; clear H
 go_enter Try.func43, Try.ntmps43
 go_upto_if 6 with (fail)
 go_cut [0] (fun v0 wc => ∃ (kq : Nat) (x0_1 : Int), v0 = .int .i64 x0_1 ∧ Aside0 (madrigalref1_Cos.j0 kq x0_1 = some r) ∧ Aside0 (kq ≤ k) ∧ Aside0 (Below w.heap.size w wc))
 case first =>
  have H := HC2.out; clear HC2
  by_cases c3 : (Go.bits .and .i64 a0 65535) > 32768
  ·
   rw [if_pos c3] at H; have c3b0 : decide (32768 < (Go.bits .and .i64 a0 65535)) = true := decide_eq_true c3; clear c3
   (first | rw [c3b0] | (simp only [i64_w, i32_w]; rw [c3b0]) | skip)
   have H' := Aside0.mk H; clear H
   go_wp2
   go_meet
   case rel => exact ⟨_, (wrap64 (65536 - (Go.bits .and .i64 a0 65535))), (by first | rfl | (simp; done) | (simp [*]; done)), H', ⟨by first | omega | exact Nat.le_refl _⟩, ⟨by repeat (with_reducible first | exact HB.out | apply below_alloc | apply pw_below_drewN | apply below_drew1)⟩⟩
  ·
   rw [if_neg c3] at H; have c3b0 : decide (32768 < (Go.bits .and .i64 a0 65535)) = false := decide_eq_false c3; clear c3
   (first | rw [c3b0] | (simp only [i64_w, i32_w]; rw [c3b0]) | skip)
   have H' := Aside0.mk H; clear H
   go_wp2
   go_meet
   case rel => exact ⟨_, (Go.bits .and .i64 a0 65535), (by first | rfl | (simp; done) | (simp [*]; done)), H', ⟨by first | omega | exact Nat.le_refl _⟩, ⟨by repeat (with_reducible first | exact HB.out | apply below_alloc | apply pw_below_drewN | apply below_drew1)⟩⟩
 case rest =>
  clear HC2; (try clear p2); (try clear c3); (try clear c3b0); (try clear c3b0z0)
  obtain ⟨kq, x0_1, rfl, HA, HJ1, HB⟩ := hcut
  cases kq with
  | zero => exact absurd HA.out (by simp [madrigalref1_Cos.j0])
  | succ kj1 =>
   have H := HA.out; clear HA
   simp only [madrigalref1_Cos.j0] at H
   by_cases c4 : x0_1 > 16384
   ·
    rw [if_pos c4] at H; have c4b0 : decide (16384 < x0_1) = true := decide_eq_true c4; clear c4; replace H := Option.bind_eq_some_iff.mp H; obtain ⟨t259, A50, H⟩ := H
    replace H : (some (wrap64 (-t259))) = some r := H
    have A5 := Aside0.mk A50; clear A50
    obtain rfl := Option.some.inj H
    go_wp2_with (first | ((with_reducible refine gate_callee (f := 45) rfl ?_); refine goesL_ (some 13) rfl rfl Try.func45 (by kernel_rfl) rfl #[.int .i64 (wrap64 (32768 - x0_1))] rfl (by (try simp only [List.map_toArray, List.map_cons, List.map_nil]); first | done | rfl | (simp only [List.length_drop, List.length_take]; rfl)) ?_; (with_reducible refine (madrigalref1_quarter.calls kj1 (wrap64 (32768 - x0_1)) t259 _ A5.out).mono ?_); rintro e w6 ⟨rfl, hb⟩; refine ⟨_, rfl, ?_⟩; have n0_ := Aside0.mk (below_step (by repeat (with_reducible first | exact HB.out | apply below_alloc | apply pw_below_drewN | apply below_drew1)) hb); clear HB; have HB := n0_; clear n0_; (try clear hb); (try clear hb2); (try clear hk); (try clear hi)))
    go_ret
    exact ⟨by first | rfl | (simp [errW_none, errW_some] <;> rfl) | (simp [*, errW_none, errW_some] <;> rfl), by repeat (with_reducible first | exact HB.out | apply below_alloc | apply pw_below_drewN | apply below_drew1)⟩
   ·
    rw [if_neg c4] at H; have c4b0 : decide (16384 < x0_1) = false := decide_eq_false c4; clear c4; replace H := Option.bind_eq_some_iff.mp H; obtain ⟨t260, A70, H⟩ := H
    replace H : (some t260) = some r := H
    have A7 := Aside0.mk A70; clear A70
    obtain rfl := Option.some.inj H
    go_wp2_with (first | ((with_reducible refine gate_callee (f := 45) rfl ?_); refine goesL_ (some 16) rfl rfl Try.func45 (by kernel_rfl) rfl #[.int .i64 x0_1] rfl (by (try simp only [List.map_toArray, List.map_cons, List.map_nil]); first | done | rfl | (simp only [List.length_drop, List.length_take]; rfl)) ?_; (with_reducible refine (madrigalref1_quarter.calls kj1 x0_1 t260 _ A7.out).mono ?_); rintro e w8 ⟨rfl, hb⟩; refine ⟨_, rfl, ?_⟩; have n0_ := Aside0.mk (below_step (by repeat (with_reducible first | exact HB.out | apply below_alloc | apply pw_below_drewN | apply below_drew1)) hb); clear HB; have HB := n0_; clear n0_; (try clear hb); (try clear hb2); (try clear hk); (try clear hi)))
    go_ret
    exact ⟨by first | rfl | (simp [errW_none, errW_some] <;> rfl) | (simp [*, errW_none, errW_some] <;> rfl), by repeat (with_reducible first | exact HB.out | apply below_alloc | apply pw_below_drewN | apply below_drew1)⟩

/-! ### madrigalref1_Sin: function 42 -/
def madrigalref1_Sin.f (k : Nat) (a0 : Int) : Option (Int) := (madrigalref1_Cos.f k (wrap64 ((Go.bits .and .i64 a0 65535) - 16384))).bind fun t261 => (some t261)
set_option maxHeartbeats 8000000 in
set_option maxRecDepth 100000 in
theorem madrigalref1_Sin.calls (k : Nat) (a0 : Int) (r : Int) (w : World) (h : madrigalref1_Sin.f k a0 = some r) :
  Calls Try.prog 42 #[.int .i64 a0] w fun e w' => e = .returned (.int .i64 r) ∧ Below w.heap.size w w' := by
 have HB := Aside0.mk (Below.refl w.heap.size w)
 have H : ((madrigalref1_Cos.f k (wrap64 ((Go.bits .and .i64 a0 65535) - 16384))).bind fun t261 => (some t261)) = some r := h
 clear h; replace H := Option.bind_eq_some_iff.mp H; obtain ⟨t261, A20, H⟩ := H
 replace H : (some t261) = some r := H
 have A2 := Aside0.mk A20; clear A20
 obtain rfl := Option.some.inj H
 go_enter Try.func42, Try.ntmps42
 go_wp2_with (first | ((with_reducible refine gate_callee (f := 43) rfl ?_); refine goesL_ (some 6) rfl rfl Try.func43 (by kernel_rfl) rfl #[.int .i64 (wrap64 ((Go.bits .and .i64 a0 65535) - 16384))] rfl (by (try simp only [List.map_toArray, List.map_cons, List.map_nil]); first | done | rfl | (simp only [List.length_drop, List.length_take]; rfl)) ?_; (with_reducible refine (madrigalref1_Cos.calls k (wrap64 ((Go.bits .and .i64 a0 65535) - 16384)) t261 _ A2.out).mono ?_); rintro e w3 ⟨rfl, hb⟩; refine ⟨_, rfl, ?_⟩; have n0_ := Aside0.mk (below_step (by repeat (with_reducible first | exact HB.out | apply below_alloc | apply pw_below_drewN | apply below_drew1)) hb); clear HB; have HB := n0_; clear n0_; (try clear hb); (try clear hb2); (try clear hk); (try clear hi)))
 go_ret
 exact ⟨by first | rfl | (simp [errW_none, errW_some] <;> rfl) | (simp [*, errW_none, errW_some] <;> rfl), by repeat (with_reducible first | exact HB.out | apply below_alloc | apply pw_below_drewN | apply below_drew1)⟩

/-! ### madrigalref1_Window: function 31 -/
mutual
def madrigalref1_Window.l0 : Nat → Int → List Int → Int → Option (List Int)
 | 0, _, _, _ => none
 | k + 1, x0, x3, x4 => if x4 < x0 then (madrigalref1_Window.j1 k x0 x3 x4 (decide (x0 ≤ 480))) else (madrigalref1_Window.j1 k x0 x3 x4 false)
def madrigalref1_Window.j1 : Nat → Int → List Int → Int → Bool → Option (List Int)
 | 0, _, _, _, _ => none
 | k + 1, x0, x3, x4, x12 => if x12 = true then (if x0 = 0 then (none) else ((madrigalref1_Sin.f k (wrap64 (Int.tdiv (wrap64 ((wrap64 (Int.tdiv (wrap64 ((wrap64 ((wrap64 (2 * x4)) + 1)) * 16384)) x0)) + 1)) 2))).bind fun t262 => ((madrigalref1_Mul.f k t262 t262 15).bind fun t263 => ((madrigalref1_Sin.f k (wrap64 (Int.tdiv (wrap64 (t263 + 1)) 2))).bind fun t264 => (if x3.length < 17592186044416 then (madrigalref1_Window.l0 k x0 (x3 ++ [t264]) (wrap64 (x4 + 1))) else (none)))))) else (some x3)
end
def madrigalref1_Window.f (k : Nat) (a0 : Int) : Option (List Int) := madrigalref1_Window.l0 k a0 ([] : List Int) 0
set_option maxHeartbeats 8000000 in
set_option maxRecDepth 100000 in
theorem madrigalref1_Window.calls (k : Nat) (a0 : Int) (r : List Int) (w : World) (h : madrigalref1_Window.f k a0 = some r) :
  Calls Try.prog 31 #[.int .i64 a0] w fun e w' => ∃ v0_ : Value, e = .returned (v0_) ∧ Kd.R (Kd.int .i64) 2 w' w.heap.size (fun _ => True) v0_ r ∧ Below w.heap.size w w' := by
 have HB := Aside0.mk (Below.refl w.heap.size w)
 have H : (madrigalref1_Window.l0 k a0 ([] : List Int) 0) = some r := h
 clear h; have H' := Aside0.mk H; clear H
 go_enter Try.func31, Try.ntmps31
 go_wp2
 go_loopg [3, 4] k (fun kq v3 v4 w' => ∃ (x3_1 : List Int) (x4_1 : Int), v4 = .int .i64 x4_1 ∧ Aside0 (madrigalref1_Window.l0 kq a0 x3_1 x4_1 = some r) ∧ Aside0 (kq ≤ k) ∧ Aside0 (Kd.R (Kd.int .i64) 2 w' w.heap.size (fun _ => True) v3 x3_1) ∧ Aside0 (Below w.heap.size w w'))
 case atStart => exact ⟨(([] : List Int)), (0), (by first | rfl | (simp; done) | (simp [*]; done)), H', ⟨Nat.le_refl _⟩, ⟨by first | exact Kd.R_nil _ _ _ _ _ | exact Kd.N_nil _ _ _ _ _ | exact Kd.V_nil _ _ _ _ _ | exact Kd.Q_nil _ _ _ _ _ | exact Kd.S_nil _ _ _ _ _⟩, ⟨by repeat (with_reducible first | exact HB.out | apply below_alloc | apply pw_below_drewN | apply below_drew1)⟩⟩
 case round =>
  clear H'
  obtain ⟨x3_1, x4_1, rfl, HA, HK1, HO_3, HB⟩ := hrel
  cases gk with
  | zero => exact absurd HA.out (by simp [madrigalref1_Window.l0])
  | succ k1 =>
   have H := HA.out; clear HA
   simp only [madrigalref1_Window.l0] at H
   have HC2 := Aside0.mk H; clear H
   go_upto_region 3 with (fail)
   go_cut [12] (fun v12 wc => ∃ (kq : Nat) (x12_1 : Bool), v12 = .bool x12_1 ∧ Aside0 (madrigalref1_Window.j1 kq a0 x3_1 x4_1 x12_1 = some r) ∧ Aside0 (kq ≤ k1) ∧ Aside0 (Kd.R (Kd.int .i64) 2 wc w.heap.size (fun _ => True) u3 x3_1) ∧ Aside0 (Below w.heap.size w wc))
   case first =>
    have H := HC2.out; clear HC2
    by_cases c3 : x4_1 < a0
    ·
     rw [if_pos c3] at H; have c3b0 : decide (x4_1 < a0) = true := decide_eq_true c3; clear c3
     (first | rw [c3b0] | (simp only [i64_w, i32_w]; rw [c3b0]) | skip)
     have H' := Aside0.mk H; clear H
     go_wp2
     go_meet
     case rel => exact ⟨_, (decide (a0 ≤ 480)), (by first | rfl | (simp; done) | (simp [*]; done)), H', ⟨by have := HK1.out; first | omega | exact Nat.le_refl _⟩, ⟨by (with_reducible repeat first | apply Kd.R_alloc | apply Kd.R_drewN | apply Kd.R_drew); exact HO_3.out⟩, ⟨by repeat (with_reducible first | exact HB.out | apply below_alloc | apply pw_below_drewN | apply below_drew1)⟩⟩
    ·
     rw [if_neg c3] at H; have c3b0 : decide (x4_1 < a0) = false := decide_eq_false c3; clear c3
     (first | rw [c3b0] | (simp only [i64_w, i32_w]; rw [c3b0]) | skip)
     have H' := Aside0.mk H; clear H
     go_wp2
     go_meet
     case rel => exact ⟨_, (false), (by first | rfl | (simp; done) | (simp [*]; done)), H', ⟨by have := HK1.out; first | omega | exact Nat.le_refl _⟩, ⟨by (with_reducible repeat first | apply Kd.R_alloc | apply Kd.R_drewN | apply Kd.R_drew); exact HO_3.out⟩, ⟨by repeat (with_reducible first | exact HB.out | apply below_alloc | apply pw_below_drewN | apply below_drew1)⟩⟩
   case rest =>
    clear HC2; (try clear p2); (try clear c3); (try clear c3b0); (try clear c3b0z0)
    obtain ⟨kq, x12_1, rfl, HA, HJ1, HO_3, HB⟩ := hcut
    cases kq with
    | zero => exact absurd HA.out (by simp [madrigalref1_Window.j1])
    | succ kj1 =>
     have H := HA.out; clear HA
     simp only [madrigalref1_Window.j1] at H
     by_cases c4 : x12_1 = true
     ·
      subst c4
      have H1 : (if a0 = 0 then (none) else ((madrigalref1_Sin.f kj1 (wrap64 (Int.tdiv (wrap64 ((wrap64 (Int.tdiv (wrap64 ((wrap64 ((wrap64 (2 * x4_1)) + 1)) * 16384)) a0)) + 1)) 2))).bind fun t262 => ((madrigalref1_Mul.f kj1 t262 t262 15).bind fun t263 => ((madrigalref1_Sin.f kj1 (wrap64 (Int.tdiv (wrap64 (t263 + 1)) 2))).bind fun t264 => (if x3_1.length < 17592186044416 then (madrigalref1_Window.l0 kj1 a0 (x3_1 ++ [t264]) (wrap64 (x4_1 + 1))) else (none)))))) = some r := by rw [if_pos rfl] at H; exact H
      clear H; have H := H1; clear H1
      by_cases c5 : a0 = 0
      ·
       rw [if_pos c5] at H; exact absurd H (by simp)
      ·
       rw [if_neg c5] at H; have c5b0 : (a0 == 0) = false := beq_eq_false_iff_ne.mpr c5; have c5b1 : (a0 != 0) = true := bne_iff_ne.mpr c5; replace H := Option.bind_eq_some_iff.mp H; obtain ⟨t262, A60, H⟩ := H
       replace H : ((madrigalref1_Mul.f kj1 t262 t262 15).bind fun t263 => ((madrigalref1_Sin.f kj1 (wrap64 (Int.tdiv (wrap64 (t263 + 1)) 2))).bind fun t264 => (if x3_1.length < 17592186044416 then (madrigalref1_Window.l0 kj1 a0 (x3_1 ++ [t264]) (wrap64 (x4_1 + 1))) else (none)))) = some r := H
       have A6 := Aside0.mk A60; clear A60; replace H := Option.bind_eq_some_iff.mp H; obtain ⟨t263, A70, H⟩ := H
       replace H : ((madrigalref1_Sin.f kj1 (wrap64 (Int.tdiv (wrap64 (t263 + 1)) 2))).bind fun t264 => (if x3_1.length < 17592186044416 then (madrigalref1_Window.l0 kj1 a0 (x3_1 ++ [t264]) (wrap64 (x4_1 + 1))) else (none))) = some r := H
       have A7 := Aside0.mk A70; clear A70; replace H := Option.bind_eq_some_iff.mp H; obtain ⟨t264, A80, H⟩ := H
       replace H : (if x3_1.length < 17592186044416 then (madrigalref1_Window.l0 kj1 a0 (x3_1 ++ [t264]) (wrap64 (x4_1 + 1))) else (none)) = some r := H
       have A8 := Aside0.mk A80; clear A80
       by_cases c9 : x3_1.length < 17592186044416; rotate_left
       · rw [if_neg c9] at H; exact absurd H (by simp)
       rw [if_pos c9] at H; have LMc9 := Aside0.mk c9; clear c9
       obtain ⟨y265, hy265⟩ : ∃ y_ : List Int, y_ = (x3_1 ++ [t264]) := ⟨_, rfl⟩
       replace H : (madrigalref1_Window.l0 kj1 a0 y265 (wrap64 (x4_1 + 1))) = some r := by first | (rw [hy265]; with_reducible exact H) | (have H2_ := (Option.bind_some _ _).symm.trans H; rw [hy265]; with_reducible exact H2_) | (have H2_ := (Option.bind_some _ _).symm.trans H; with_reducible exact H2_) | with_reducible exact H | (rw [hy265]; exact H) | exact H
       have Ny265 := Aside0.mk hy265; clear hy265; have H' := Aside0.mk H; clear H
       go_wp2_with (first | ((with_reducible refine gate_callee (f := 42) rfl ?_); refine goesL_ (some 23) rfl rfl Try.func42 (by kernel_rfl) rfl #[.int .i64 (wrap64 (Int.tdiv (wrap64 ((wrap64 (Int.tdiv (wrap64 ((wrap64 ((wrap64 (2 * x4_1)) + 1)) * 16384)) a0)) + 1)) 2))] rfl (by (try simp only [List.map_toArray, List.map_cons, List.map_nil]); first | done | rfl | (simp only [List.length_drop, List.length_take]; rfl)) ?_; (with_reducible refine (madrigalref1_Sin.calls kj1 (wrap64 (Int.tdiv (wrap64 ((wrap64 (Int.tdiv (wrap64 ((wrap64 ((wrap64 (2 * x4_1)) + 1)) * 16384)) a0)) + 1)) 2)) t262 _ A6.out).mono ?_); rintro e w10 ⟨rfl, hb⟩; refine ⟨_, rfl, ?_⟩; have n0_ := Aside0.mk (Kd.R_below (by (with_reducible repeat first | apply Kd.R_alloc | apply Kd.R_drewN | apply Kd.R_drew); exact HO_3.out) hb); have n1_ := Aside0.mk (below_step (by repeat (with_reducible first | exact HB.out | apply below_alloc | apply pw_below_drewN | apply below_drew1)) hb); clear HO_3; clear HB; have HO_3 := n0_; have HB := n1_; clear n0_ n1_; (try clear hb); (try clear hb2); (try clear hk); (try clear hi)) | ((with_reducible refine gate_callee (f := 33) rfl ?_); refine goesL_ (some 27) rfl rfl Try.func33 (by kernel_rfl) rfl #[.int .i64 t262, .int .i64 t262, .int .i64 15] rfl (by (try simp only [List.map_toArray, List.map_cons, List.map_nil]); first | done | rfl | (simp only [List.length_drop, List.length_take]; rfl)) ?_; (with_reducible refine (madrigalref1_Mul.calls kj1 t262 t262 15 t263 _ A7.out).mono ?_); rintro e w' ⟨rfl, ⟨nd, rfl⟩⟩; refine ⟨_, rfl, ?_⟩) | ((with_reducible refine gate_callee (f := 42) rfl ?_); refine goesL_ (some 30) rfl rfl Try.func42 (by kernel_rfl) rfl #[.int .i64 (wrap64 (Int.tdiv (wrap64 (t263 + 1)) 2))] rfl (by (try simp only [List.map_toArray, List.map_cons, List.map_nil]); first | done | rfl | (simp only [List.length_drop, List.length_take]; rfl)) ?_; (with_reducible refine (madrigalref1_Sin.calls kj1 (wrap64 (Int.tdiv (wrap64 (t263 + 1)) 2)) t264 _ A8.out).mono ?_); rintro e w11 ⟨rfl, hb⟩; refine ⟨_, rfl, ?_⟩; have n0_ := Aside0.mk (Kd.R_below (by (with_reducible repeat first | apply Kd.R_alloc | apply Kd.R_drewN | apply Kd.R_drew); exact HO_3.out) hb); have n1_ := Aside0.mk (below_step (by repeat (with_reducible first | exact HB.out | apply below_alloc | apply pw_below_drewN | apply below_drew1)) hb); clear HO_3; clear HB; have HO_3 := n0_; have HB := n1_; clear n0_ n1_; (try clear hb); (try clear hb2); (try clear hk); (try clear hi)) | ((with_reducible refine gate_builtin (b := .append) (xs := #[.tmp 24, .tmp 31]) rfl ?_); at_builtin; refine Kd.R_append (Kd.int .i64) (w0 := w) w.heap.size rfl (.tmp 24) (.tmp 31) 23 2 (.int .i64 0) 8 rfl Try.underlying23 info2 rfl (by decide) (by omega) u3 x3_1 t264 [.int .i64 t264] (fun _ => True) (fun _ => False) rfl rfl ?aP (fun _ hk => hk.elim) ?aF ?aO ?aB ?aS ?aL ?_; (case aP => exact rfl); (case aB => exact (by repeat (with_reducible first | exact HB.out | apply below_alloc | apply pw_below_drewN | apply below_drew1))); (case aF => exact (fun _ _ => trivial)); (case aO => exact (by (with_reducible repeat first | apply Kd.R_alloc | apply Kd.R_drewN | apply Kd.R_drew); exact HO_3.out)); (case aS => exact (below_size (by repeat (with_reducible first | exact HB.out | apply below_alloc | apply pw_below_drewN | apply below_drew1)))); (case aL => have := LMc9.out; omega); intro v266 w12 ho hb hg hat; rw [← Ny265.out] at ho; have n0_ := Aside0.mk (hb); have n1_ := Aside0.mk (ho); clear HB; clear HO_3; have HB := n0_; have HO267 := n1_; clear n0_ n1_; clear ho hb hg hat))
       go_roundg kj1
       case measure => have := HK1.out; have := HJ1.out; omega
       case rel => exact ⟨(y265), (wrap64 (x4_1 + 1)), (by first | rfl | (simp; done) | (simp [*]; done)), H', ⟨by have := HK1.out; have := HJ1.out; omega⟩, ⟨by (with_reducible repeat first | apply Kd.R_alloc | apply Kd.R_drewN | apply Kd.R_drew); exact HO267.out⟩, ⟨by repeat (with_reducible first | exact HB.out | apply below_alloc | apply pw_below_drewN | apply below_drew1)⟩⟩
     ·
      replace c4 := Bool.eq_false_iff.mpr c4
      subst c4
      have H1 : (some x3_1) = some r := by rw [if_neg (show ¬ (false = true) by decide)] at H; exact H
      clear H; have H := H1; clear H1
      obtain rfl := Option.some.inj H
      go_wp2
      go_ret
      exact ⟨_, by first | rfl | (simp [errW_none, errW_some] <;> rfl) | (simp [*, errW_none, errW_some] <;> rfl), by (with_reducible repeat first | apply Kd.R_alloc | apply Kd.R_drewN | apply Kd.R_drew); exact HO_3.out, by repeat (with_reducible first | exact HB.out | apply below_alloc | apply pw_below_drewN | apply below_drew1)⟩

/-! ### madrigalref10_Shape: function 18 -/
mutual
def madrigalref10_Shape.l0 : Nat → Int → Int → List Int → List Int → Int → Int → Option (List Int)
 | 0, _, _, _, _, _, _ => none
 | k + 1, x0, x1, x5, x6, x7, x8 => if x8 < x1 then (if 0 ≤ x8 then (if x8 < (x5.length : Int) then (if 0 ≤ (wrap64 (x7 + x8)) then (if (wrap64 (x7 + x8)) < (x6.length : Int) then (if 0 ≤ (wrap64 ((wrap64 ((wrap64 ((wrap64 (2 * x0)) - 1)) - x7)) - x8)) then (if (wrap64 ((wrap64 ((wrap64 ((wrap64 (2 * x0)) - 1)) - x7)) - x8)) < (x6.length : Int) then (madrigalref10_Shape.l0 k x0 x1 x5 ((x6.set ((wrap64 (x7 + x8)) : Int).toNat (rd x5 x8)).set ((wrap64 ((wrap64 ((wrap64 ((wrap64 (2 * x0)) - 1)) - x7)) - x8)) : Int).toNat (rd x5 x8)) x7 (wrap64 (x8 + 1))) else (none)) else (none)) else (none)) else (none)) else (none)) else (none)) else (madrigalref10_Shape.l1 k x0 x1 x6 x7 (wrap64 (x7 + x1)))
def madrigalref10_Shape.l1 : Nat → Int → Int → List Int → Int → Int → Option (List Int)
 | 0, _, _, _, _, _ => none
 | k + 1, x0, x1, x6, x7, x9 => if x9 < (wrap64 ((wrap64 ((wrap64 (2 * x0)) - x7)) - x1)) then (if 0 ≤ x9 then (if x9 < (x6.length : Int) then (madrigalref10_Shape.l1 k x0 x1 (x6.set (x9 : Int).toNat 32768) x7 (wrap64 (x9 + 1))) else (none)) else (none)) else (some x6)
end
def madrigalref10_Shape.f (k : Nat) (a0 : Int) (a1 : Int) : Option (List Int) := (madrigalref1_Window.f k a1).bind fun t268 => (if 0 ≤ (wrap64 (2 * a0)) then (if (wrap64 (2 * a0) : Int).toNat ≤ 35184372088832 then (madrigalref10_Shape.l0 k a0 a1 t268 (List.replicate (wrap64 (2 * a0) : Int).toNat 0) (wrap64 (Int.tdiv (wrap64 (a0 - a1)) 2)) 0) else (none)) else (none))
set_option maxHeartbeats 8000000 in
set_option maxRecDepth 100000 in
theorem madrigalref10_Shape.calls (k : Nat) (a0 : Int) (a1 : Int) (r : List Int) (w : World) (h : madrigalref10_Shape.f k a0 a1 = some r) :
  Calls Try.prog 18 #[.int .i64 a0, .int .i64 a1] w fun e w' => ∃ v0_ : Value, e = .returned (v0_) ∧ Kd.R (Kd.int .i64) 2 w' w.heap.size (fun _ => True) v0_ r ∧ Below w.heap.size w w' := by
 have HB := Aside0.mk (Below.refl w.heap.size w)
 have H : ((madrigalref1_Window.f k a1).bind fun t268 => (if 0 ≤ (wrap64 (2 * a0)) then (if (wrap64 (2 * a0) : Int).toNat ≤ 35184372088832 then (madrigalref10_Shape.l0 k a0 a1 t268 (List.replicate (wrap64 (2 * a0) : Int).toNat 0) (wrap64 (Int.tdiv (wrap64 (a0 - a1)) 2)) 0) else (none)) else (none))) = some r := h
 clear h; replace H := Option.bind_eq_some_iff.mp H; obtain ⟨t268, A30, H⟩ := H
 replace H : (if 0 ≤ (wrap64 (2 * a0)) then (if (wrap64 (2 * a0) : Int).toNat ≤ 35184372088832 then (madrigalref10_Shape.l0 k a0 a1 t268 (List.replicate (wrap64 (2 * a0) : Int).toNat 0) (wrap64 (Int.tdiv (wrap64 (a0 - a1)) 2)) 0) else (none)) else (none)) = some r := H
 have A3 := Aside0.mk A30; clear A30
 obtain ⟨ji4, hji4⟩ : ∃ j_ : Int, (wrap64 (2 * a0)) = j_ := ⟨_, rfl⟩
 replace H : (if 0 ≤ (ji4) then (if (ji4 : Int).toNat ≤ 35184372088832 then (madrigalref10_Shape.l0 k a0 a1 t268 (List.replicate (ji4 : Int).toNat 0) (wrap64 (Int.tdiv (wrap64 (a0 - a1)) 2)) 0) else (none)) else (none)) = some r := by first | (rw [hji4] at H; exact H) | (simp only [hji4] at H ⊢; exact H)
 (try rw [hji4] at A3)
 have hji4w : (IntKind.i64.wrap (2 * a0)) = ji4 := (i64_w _).trans hji4
 by_cases c5 : 0 ≤ (ji4); rotate_left
 · rw [if_neg c5] at H; exact absurd H (by simp)
 rw [if_pos c5] at H; have c5b0 := eq_true c5; have c5b1 : decide (0 ≤ (ji4)) = true := decide_eq_true c5; clear c5
 by_cases c6 : (ji4 : Int).toNat ≤ 35184372088832; rotate_left
 · rw [if_neg c6] at H; exact absurd H (by simp)
 rw [if_pos c6] at H; have c6b0 := eq_true c6; have c6b1 : decide ((ji4 : Int).toNat ≤ 35184372088832) = true := decide_eq_true c6; clear c6
 obtain ⟨y271, hy271⟩ : ∃ y_ : List Int, y_ = (List.replicate (ji4 : Int).toNat 0) := ⟨_, rfl⟩
 replace H : (madrigalref10_Shape.l0 k a0 a1 t268 y271 (wrap64 (Int.tdiv (wrap64 (a0 - a1)) 2)) 0) = some r := by first | (rw [hy271]; with_reducible exact H) | (have H2_ := (Option.bind_some _ _).symm.trans H; rw [hy271]; with_reducible exact H2_) | (have H2_ := (Option.bind_some _ _).symm.trans H; with_reducible exact H2_) | with_reducible exact H | (rw [hy271]; exact H) | exact H
 have Ny271 := Aside0.mk hy271; clear hy271; have H' := Aside0.mk H; clear H
 go_enter Try.func18, Try.ntmps18
 go_wp2_with (first | ((with_reducible refine gate_callee (f := 31) rfl ?_); refine goesL_ (some 11) rfl rfl Try.func31 (by kernel_rfl) rfl #[.int .i64 a1] rfl (by (try simp only [List.map_toArray, List.map_cons, List.map_nil]); first | done | rfl | (simp only [List.length_drop, List.length_take]; rfl)) ?_; (with_reducible refine (madrigalref1_Window.calls k a1 t268 _ A3.out).mono ?_); rintro e w7 ⟨v269, rfl, ho0, hb⟩; refine ⟨_, rfl, ?_⟩; have n0_ := Aside0.mk (Kd.R_lower ho0 (below_size (by repeat (with_reducible first | exact HB.out | apply below_alloc | apply pw_below_drewN | apply below_drew1)))); have n1_ := Aside0.mk (below_step (by repeat (with_reducible first | exact HB.out | apply below_alloc | apply pw_below_drewN | apply below_drew1)) hb); clear HB; have HO270 := n0_; have HB := n1_; clear n0_ n1_; (try clear hb); (try clear hb2); (try clear hk); (try clear hi); (try clear ho0)) | ((with_reducible refine gate_dst (N := 14) rfl ?_); refine Kd.R_make (Kd.int .i64) _ 2 rfl (N := 14) rfl 23 _ _ rfl ji4 rfl rfl Try.underlying23 (.int .i64 0) 8 info2 rfl (by decide) (by omega) 0 (ok := fun _ => True) (okp := fun _ => True) rfl (fun _ hk => hk) trivial (of_decide_eq_true (by first | (with_reducible assumption) | assumption)) (Nat.le_trans (Nat.mul_le_mul_right _ (of_decide_eq_true (by first | (with_reducible assumption) | assumption) : ji4.toNat ≤ 35184372088832)) (by omega)) (Below.refl _ _) (Nat.le_refl _) ?_; intro v272 w8 ho9 hb hg_ hnew_; clear hg_ hnew_; (first | rw [← Ny271.out] at ho9 | (simp only [Int.reduceToNat] at ho9; rw [← Ny271.out] at ho9)); have n0_ := Aside0.mk (Kd.R_elder' (by (with_reducible repeat first | apply Kd.R_alloc | apply Kd.R_drewN | apply Kd.R_drew); exact HO270.out) (Kd.R_base ho9) hb); have n1_ := Aside0.mk (Kd.R_lower (Kd.R_new' ho9 (Kd.R_lt (by (with_reducible repeat first | apply Kd.R_alloc | apply Kd.R_drewN | apply Kd.R_drew); exact HO270.out))) (below_size (by repeat (with_reducible first | exact HB.out | apply below_alloc | apply pw_below_drewN | apply below_drew1)))); have n2_ := Aside0.mk (below_step (by repeat (with_reducible first | exact HB.out | apply below_alloc | apply pw_below_drewN | apply below_drew1)) hb); clear HO270; clear HB; have HO270 := n0_; have HO273 := n1_; have HB := n2_; clear n0_ n1_ n2_; clear hb ho9))
 go_loopg [8] k (fun kq v8 w' => ∃ (x6_1 : List Int) (x8_1 : Int), v8 = .int .i64 x8_1 ∧ Aside0 (madrigalref10_Shape.l0 kq a0 a1 t268 x6_1 (wrap64 (Int.tdiv (wrap64 (a0 - a1)) 2)) x8_1 = some r) ∧ Aside0 (kq ≤ k) ∧ Aside0 (Kd.R (Kd.int .i64) 2 w' w.heap.size (fun k_ => some k_ ≠ (v272 : Value).ownBlock) v269 t268) ∧ Aside0 (Kd.R (Kd.int .i64) 2 w' w.heap.size (fun k_ => some k_ ≠ (v269 : Value).ownBlock) v272 x6_1) ∧ Aside0 (Below w.heap.size w w'))
 case atStart => exact ⟨(y271), (0), (by first | rfl | (simp; done) | (simp [*]; done)), H', ⟨Nat.le_refl _⟩, ⟨by (with_reducible repeat first | apply Kd.R_alloc | apply Kd.R_drewN | apply Kd.R_drew); exact Kd.R_mono HO270.out (fun _ hk => hk.2)⟩, ⟨by (with_reducible repeat first | apply Kd.R_alloc | apply Kd.R_drewN | apply Kd.R_drew); exact Kd.R_mono HO273.out (fun _ hk => hk.2)⟩, ⟨by repeat (with_reducible first | exact HB.out | apply below_alloc | apply pw_below_drewN | apply below_drew1)⟩⟩
 case round =>
  clear H'
  (try clear c1); (try clear p2); (try clear c3); (try clear c5); (try clear c5b0); (try clear c5b0z0); (try clear c5b1); (try clear c5b1z0); (try clear c6); (try clear c6b0); (try clear c6b0z0); (try clear c6b1); (try clear c6b1z0); (try clear p6)
  obtain ⟨x6_1, x8_1, rfl, HA, HK1, HO_5, HO_6, HB⟩ := hrel
  cases gk with
  | zero => exact absurd HA.out (by simp [madrigalref10_Shape.l0])
  | succ k1 =>
   have H := HA.out; clear HA
   simp only [madrigalref10_Shape.l0] at H
   by_cases c10 : x8_1 < a1
   ·
    rw [if_pos c10] at H; have c10b0 : decide (x8_1 < a1) = true := decide_eq_true c10; clear c10
    by_cases c11 : 0 ≤ x8_1; rotate_left
    · rw [if_neg c11] at H; exact absurd H (by simp)
    rw [if_pos c11] at H; have c11b0 : decide (0 ≤ x8_1) = true := decide_eq_true c11; clear c11
    by_cases c12 : x8_1 < (t268.length : Int); rotate_left
    · rw [if_neg c12] at H; exact absurd H (by simp)
    rw [if_pos c12] at H; have c12b0 : decide (x8_1 < (t268.length : Int)) = true := decide_eq_true c12; clear c12
    obtain ⟨ji13, hji13⟩ : ∃ j_ : Int, (wrap64 ((wrap64 (Int.tdiv (wrap64 (a0 - a1)) 2)) + x8_1)) = j_ := ⟨_, rfl⟩
    replace H : (if 0 ≤ (ji13) then (if (ji13) < (x6_1.length : Int) then (if 0 ≤ (wrap64 ((wrap64 ((wrap64 ((wrap64 (2 * a0)) - 1)) - (wrap64 (Int.tdiv (wrap64 (a0 - a1)) 2)))) - x8_1)) then (if (wrap64 ((wrap64 ((wrap64 ((wrap64 (2 * a0)) - 1)) - (wrap64 (Int.tdiv (wrap64 (a0 - a1)) 2)))) - x8_1)) < (x6_1.length : Int) then (madrigalref10_Shape.l0 k1 a0 a1 t268 ((x6_1.set ((ji13) : Int).toNat (rd t268 x8_1)).set ((wrap64 ((wrap64 ((wrap64 ((wrap64 (2 * a0)) - 1)) - (wrap64 (Int.tdiv (wrap64 (a0 - a1)) 2)))) - x8_1)) : Int).toNat (rd t268 x8_1)) (wrap64 (Int.tdiv (wrap64 (a0 - a1)) 2)) (wrap64 (x8_1 + 1))) else (none)) else (none)) else (none)) else (none)) = some r := by first | (rw [hji13] at H; exact H) | (simp only [hji13] at H ⊢; exact H)
    have hji13w : (IntKind.i64.wrap ((wrap64 (Int.tdiv (wrap64 (a0 - a1)) 2)) + x8_1)) = ji13 := (i64_w _).trans hji13
    by_cases c14 : 0 ≤ (ji13); rotate_left
    · rw [if_neg c14] at H; exact absurd H (by simp)
    rw [if_pos c14] at H; have c14b0 : decide (0 ≤ (ji13)) = true := decide_eq_true c14; clear c14
    by_cases c15 : (ji13) < (x6_1.length : Int); rotate_left
    · rw [if_neg c15] at H; exact absurd H (by simp)
    rw [if_pos c15] at H; have c15b0 : decide ((ji13) < (x6_1.length : Int)) = true := decide_eq_true c15; clear c15
    obtain ⟨y275, hy275⟩ : ∃ y_ : List Int, y_ = (x6_1.set ((ji13) : Int).toNat (rd t268 x8_1)) := ⟨_, rfl⟩
    replace H : (if 0 ≤ (wrap64 ((wrap64 ((wrap64 ((wrap64 (2 * a0)) - 1)) - (wrap64 (Int.tdiv (wrap64 (a0 - a1)) 2)))) - x8_1)) then (if (wrap64 ((wrap64 ((wrap64 ((wrap64 (2 * a0)) - 1)) - (wrap64 (Int.tdiv (wrap64 (a0 - a1)) 2)))) - x8_1)) < (x6_1.length : Int) then (madrigalref10_Shape.l0 k1 a0 a1 t268 (y275.set ((wrap64 ((wrap64 ((wrap64 ((wrap64 (2 * a0)) - 1)) - (wrap64 (Int.tdiv (wrap64 (a0 - a1)) 2)))) - x8_1)) : Int).toNat (rd t268 x8_1)) (wrap64 (Int.tdiv (wrap64 (a0 - a1)) 2)) (wrap64 (x8_1 + 1))) else (none)) else (none)) = some r := by first | (rw [hy275]; with_reducible exact H) | (have H2_ := (Option.bind_some _ _).symm.trans H; rw [hy275]; with_reducible exact H2_) | (have H2_ := (Option.bind_some _ _).symm.trans H; with_reducible exact H2_) | with_reducible exact H | (rw [hy275]; exact H) | exact H
    have Ny275 := Aside0.mk hy275; clear hy275
    obtain ⟨ji17, hji17⟩ : ∃ j_ : Int, (wrap64 ((wrap64 ((wrap64 ((wrap64 (2 * a0)) - 1)) - (wrap64 (Int.tdiv (wrap64 (a0 - a1)) 2)))) - x8_1)) = j_ := ⟨_, rfl⟩
    replace H : (if 0 ≤ (ji17) then (if (ji17) < (x6_1.length : Int) then (madrigalref10_Shape.l0 k1 a0 a1 t268 (y275.set ((ji17) : Int).toNat (rd t268 x8_1)) (wrap64 (Int.tdiv (wrap64 (a0 - a1)) 2)) (wrap64 (x8_1 + 1))) else (none)) else (none)) = some r := by first | (rw [hji17] at H; exact H) | (simp only [hji17] at H ⊢; exact H)
    have hji17w : (IntKind.i64.wrap ((wrap64 ((wrap64 ((wrap64 (2 * a0)) - 1)) - (wrap64 (Int.tdiv (wrap64 (a0 - a1)) 2)))) - x8_1)) = ji17 := (i64_w _).trans hji17
    (try (have hji17wz := hji17w; simp only [hji4] at hji17wz))
    by_cases c18 : 0 ≤ (ji17); rotate_left
    · rw [if_neg c18] at H; exact absurd H (by simp)
    rw [if_pos c18] at H; have c18b0 : decide (0 ≤ (ji17)) = true := decide_eq_true c18; clear c18
    by_cases c19 : (ji17) < (x6_1.length : Int); rotate_left
    · rw [if_neg c19] at H; exact absurd H (by simp)
    rw [if_pos c19] at H; have c19b0 : decide ((ji17) < (x6_1.length : Int)) = true := decide_eq_true c19; clear c19
    obtain ⟨y277, hy277⟩ : ∃ y_ : List Int, y_ = (y275.set ((ji17) : Int).toNat (rd t268 x8_1)) := ⟨_, rfl⟩
    replace H : (madrigalref10_Shape.l0 k1 a0 a1 t268 y277 (wrap64 (Int.tdiv (wrap64 (a0 - a1)) 2)) (wrap64 (x8_1 + 1))) = some r := by first | (rw [hy277]; with_reducible exact H) | (have H2_ := (Option.bind_some _ _).symm.trans H; rw [hy277]; with_reducible exact H2_) | (have H2_ := (Option.bind_some _ _).symm.trans H; with_reducible exact H2_) | with_reducible exact H | (rw [hy277]; exact H) | exact H
    have Ny277 := Aside0.mk hy277; clear hy277; have H' := Aside0.mk H; clear H
    obtain ⟨Ao21, co21, eo21⟩ := Kd.R_slice HO_5.out
    subst eo21; have p274 : 0 ≤ (x8_1 : Int) := of_decide_eq_true (by first | (with_reducible assumption) | assumption); have q274 : x8_1 < (t268.length : Int) := of_decide_eq_true (by first | (with_reducible assumption) | assumption)
    obtain ⟨ad274, e274, hx274_0⟩ := Kd.at_int (Kd.R_reads' HO_5.out).2.2 x8_1 p274 q274
    cases e274; replace p274 := eq_true p274; replace q274 := eq_true q274; have p16 : 0 ≤ ((ji13) : Int) := of_decide_eq_true (by first | (with_reducible assumption) | assumption); have q16 : ((ji13) : Int) < ((x6_1.length : Int) : Int) := of_decide_eq_true (by first | (with_reducible assumption) | assumption)
    obtain ⟨go16, co16, eo16, gb16, gl16, cl16, HG16⟩ := Kd.R_form HO_6.out (by omega)
    (first | cases eo16 | (injection eo16 with ea_ en_ ec_; (first | subst ea_ | (injection ea_ with ea_; subst ea_)); subst ec_; clear en_))
    have GB16 := Aside0.mk gb16; have GG16 := Aside0.mk HG16; clear gb16 gl16 HG16
    obtain ⟨hx16_0, hf16_0⟩ := Kd.R_celln 0 HO_6.out ((ji13) : Int) p16 q16
    replace p16 := eq_true p16; replace q16 := eq_true q16
    have HP22 := Kd.R_putg HO_6.out ((ji13) : Int) (rd t268 x8_1)
    go_wp2_with (first | ((with_reducible refine gate_store (t := 2) (p := 32) rfl ?_); refine store_event (t := 2) (p := 32) (v := ?vo_w23) (w1 := (wr.setCell ⟨go16, ((ji13) : Int).toNat, none⟩ (.int .i64 (rd t268 x8_1)))) ?hg ?ho ?hn ?hr ?_; (case ho => rfl); (case hg => rfl); (case hn => rfl); (case hr => first | (go_simp; done) | (go_simp; rfl)); intro w23 hw; have hg : wr.grownBy w23 (some go16) := (by rw [hw]; exact HP22.2); have hp_ : Kd.R (Kd.int .i64) 2 w23 w.heap.size (fun k_ => some k_ ≠ (.slice (some ad274) t268.length co21 : Value).ownBlock) (.slice (some ⟨go16, 0, none⟩) x6_1.length co16) y275 := (by rw [hw, Ny275.out]; exact HP22.1); clear HP22; have n0_ := Aside0.mk (Kd.R_after (v := (.slice (some ⟨go16, 0, none⟩) x6_1.length co16)) (v1 := (.slice (some ⟨go16, 0, none⟩) x6_1.length co16)) (ok := (fun _ => True)) (by (with_reducible repeat first | apply Kd.R_alloc | apply Kd.R_drewN | apply Kd.R_drew); exact Kd.R_mono HO_5.out (fun _ hk => ⟨trivial, hk⟩)) hg (.inl rfl)); have n1_ := Aside0.mk (hp_); have n2_ := Aside0.mk ((by rw [hw]; exact below_set (HB.out) GB16.out : Below w.heap.size w w23)); clear HO_5; clear HO_6; clear HB; have HO_5 := n0_; have HO_6 := n1_; have HB := n2_; clear n0_ n1_ n2_; clear hg hw hp_; have p276 : 0 ≤ (x8_1 : Int) := of_decide_eq_true (by first | (with_reducible assumption) | assumption); have q276 : x8_1 < (t268.length : Int) := of_decide_eq_true (by first | (with_reducible assumption) | assumption); obtain ⟨ad276, e276, hx276_0⟩ := Kd.at_int (Kd.R_reads' HO_5.out).2.2 x8_1 p276 q276; obtain rfl : ad274 = ad276 := (by injection e276); replace p276 := eq_true p276; replace q276 := eq_true q276; have p20 : 0 ≤ ((ji17) : Int) := of_decide_eq_true (by first | (with_reducible assumption) | assumption); have q20 : ((ji17) : Int) < ((x6_1.length : Int) : Int) := of_decide_eq_true (by first | (with_reducible assumption) | assumption); obtain ⟨hx20_0, hf20_0⟩ := Kd.R_celln 0 HO_6.out ((ji17) : Int) p20 q20; replace p20 := eq_true p20; replace q20 := eq_true q20; obtain ⟨hy24_, hz24_⟩ := Kd.R_celln 0 HO_6.out ((ji17) : Int) (of_decide_eq_true (by first | (with_reducible assumption) | assumption)) (of_decide_eq_true (by first | (with_reducible assumption) | assumption)); have HP24 := Kd.R_putg HO_6.out ((ji17) : Int) (rd t268 x8_1)) | ((with_reducible refine gate_store (t := 2) (p := 45) rfl ?_); refine store_event (t := 2) (p := 45) (v := ?vo_w25) (w1 := (w23.setCell ⟨go16, ((ji17) : Int).toNat, none⟩ (.int .i64 (rd t268 x8_1)))) ?hg ?ho ?hn ?hr ?_; (case ho => rfl); (case hg => rfl); (case hn => rfl); (case hr => first | (go_simp; done) | (go_simp; rfl)); intro w25 hw; have hg : w23.grownBy w25 (some go16) := (by rw [hw]; exact HP24.2); have hp_ : Kd.R (Kd.int .i64) 2 w25 w.heap.size (fun k_ => some k_ ≠ (.slice (some ad274) t268.length co21 : Value).ownBlock) (.slice (some ⟨go16, 0, none⟩) x6_1.length co16) y277 := (by rw [hw, Ny277.out]; exact HP24.1); clear HP24; have n0_ := Aside0.mk (Kd.R_after (v := (.slice (some ⟨go16, 0, none⟩) x6_1.length co16)) (v1 := (.slice (some ⟨go16, 0, none⟩) x6_1.length co16)) (ok := (fun _ => True)) (by (with_reducible repeat first | apply Kd.R_alloc | apply Kd.R_drewN | apply Kd.R_drew); exact HO_5.out) hg (.inl rfl)); have n1_ := Aside0.mk (hp_); have n2_ := Aside0.mk ((by rw [hw]; exact below_set (HB.out) GB16.out : Below w.heap.size w w25)); clear HO_5; clear HO_6; clear HB; have HO_5 := n0_; have HO_6 := n1_; have HB := n2_; clear n0_ n1_ n2_; clear hg hw hp_))
    go_roundg k1
    case measure => have := HK1.out; omega
    case rel => exact ⟨(y277), (wrap64 (x8_1 + 1)), (by first | rfl | (simp; done) | (simp [*]; done)), H', ⟨by have := HK1.out; omega⟩, ⟨by (with_reducible repeat first | apply Kd.R_alloc | apply Kd.R_drewN | apply Kd.R_drew); exact Kd.R_mono HO_5.out (fun _ hk => hk.2)⟩, ⟨by (with_reducible repeat first | apply Kd.R_alloc | apply Kd.R_drewN | apply Kd.R_drew); exact HO_6.out⟩, ⟨by repeat (with_reducible first | exact HB.out | apply below_alloc | apply pw_below_drewN | apply below_drew1)⟩⟩
   ·
    rw [if_neg c10] at H; have c10b0 : decide (x8_1 < a1) = false := decide_eq_false c10; clear c10; have H' := Aside0.mk H; clear H
    go_wp2
    go_loopg [9] k1 (fun kq v9 w' => ∃ (x6_2 : List Int) (x9_2 : Int), v9 = .int .i64 x9_2 ∧ Aside0 (madrigalref10_Shape.l1 kq a0 a1 x6_2 (wrap64 (Int.tdiv (wrap64 (a0 - a1)) 2)) x9_2 = some r) ∧ Aside0 (kq ≤ k1) ∧ Aside0 (Kd.R (Kd.int .i64) 2 w' w.heap.size (fun _ => True) v272 x6_2) ∧ Aside0 (Below w.heap.size w w'))
    case atStart => exact ⟨(x6_1), (wrap64 ((wrap64 (Int.tdiv (wrap64 (a0 - a1)) 2)) + a1)), (by first | rfl | (simp; done) | (simp [*]; done)), H', ⟨Nat.le_refl _⟩, ⟨by (with_reducible repeat first | apply Kd.R_alloc | apply Kd.R_drewN | apply Kd.R_drew); exact Kd.R_mono HO_6.out (fun _ hk => trivial)⟩, ⟨by repeat (with_reducible first | exact HB.out | apply below_alloc | apply pw_below_drewN | apply below_drew1)⟩⟩
    case round =>
     clear H'
     (try clear c1); (try clear p1); (try clear q1); (try clear hx1); (try clear p2); (try clear q2); (try clear hx2); (try clear hf2); (try clear c3); (try clear c5); (try clear c5b0); (try clear c5b0z0); (try clear c5b1); (try clear c5b1z0); (try clear c6); (try clear c6b0); (try clear c6b0z0); (try clear c6b1); (try clear c6b1z0); (try clear p6); (try clear c10); (try clear c10b0); (try clear c10b0z0); (try clear c11); (try clear c11b0); (try clear c11b0z0); (try clear c12); (try clear c12b0); (try clear c12b0z0); (try clear c14); (try clear c14b0); (try clear c14b0z0); (try clear c15); (try clear c15b0); (try clear c15b0z0); (try clear p16); (try clear q16); (try clear hx16); (try clear hf16); (try clear c18); (try clear c18b0); (try clear c18b0z0); (try clear c19); (try clear c19b0); (try clear c19b0z0); (try clear p20); (try clear q20); (try clear hx20); (try clear hf20); (try clear hx16_0); (try clear hx20_0); (try clear hx274_0); (try clear hx276_0); (try clear p16); (try clear p2); (try clear p20); (try clear p274); (try clear p276); (try clear p6); (try clear q16); (try clear q20); (try clear q274); (try clear q276)
     obtain ⟨x6_2, x9_2, rfl, HA, HK2, HO_6, HB⟩ := hrel
     cases gk with
     | zero => exact absurd HA.out (by simp [madrigalref10_Shape.l1])
     | succ k2 =>
      have H := HA.out; clear HA
      simp only [madrigalref10_Shape.l1] at H
      by_cases c26 : x9_2 < (wrap64 ((wrap64 ((wrap64 (2 * a0)) - (wrap64 (Int.tdiv (wrap64 (a0 - a1)) 2)))) - a1))
      ·
       rw [if_pos c26] at H; have c26b0 : decide (x9_2 < (wrap64 ((wrap64 ((wrap64 (2 * a0)) - (wrap64 (Int.tdiv (wrap64 (a0 - a1)) 2)))) - a1))) = true := decide_eq_true c26
       (try (have c26b0j := c26b0; simp only [hji4] at c26b0j))
       clear c26
       by_cases c27 : 0 ≤ x9_2; rotate_left
       · rw [if_neg c27] at H; exact absurd H (by simp)
       rw [if_pos c27] at H; have c27b0 : decide (0 ≤ x9_2) = true := decide_eq_true c27; clear c27
       by_cases c28 : x9_2 < (x6_2.length : Int); rotate_left
       · rw [if_neg c28] at H; exact absurd H (by simp)
       rw [if_pos c28] at H; have c28b0 : decide (x9_2 < (x6_2.length : Int)) = true := decide_eq_true c28; clear c28
       obtain ⟨y278, hy278⟩ : ∃ y_ : List Int, y_ = (x6_2.set (x9_2 : Int).toNat 32768) := ⟨_, rfl⟩
       replace H : (madrigalref10_Shape.l1 k2 a0 a1 y278 (wrap64 (Int.tdiv (wrap64 (a0 - a1)) 2)) (wrap64 (x9_2 + 1))) = some r := by first | (rw [hy278]; with_reducible exact H) | (have H2_ := (Option.bind_some _ _).symm.trans H; rw [hy278]; with_reducible exact H2_) | (have H2_ := (Option.bind_some _ _).symm.trans H; with_reducible exact H2_) | with_reducible exact H | (rw [hy278]; exact H) | exact H
       have Ny278 := Aside0.mk hy278; clear hy278; have H' := Aside0.mk H; clear H; have p29 : 0 ≤ (x9_2 : Int) := of_decide_eq_true (by first | (with_reducible assumption) | assumption); have q29 : (x9_2 : Int) < ((x6_2.length : Int) : Int) := of_decide_eq_true (by first | (with_reducible assumption) | assumption)
       obtain ⟨go29, co29, eo29, gb29, gl29, cl29, HG29⟩ := Kd.R_form HO_6.out (by omega)
       (first | cases eo29 | (injection eo29 with ea_ en_ ec_; (first | subst ea_ | (injection ea_ with ea_; subst ea_)); subst ec_; clear en_))
       have GB29 := Aside0.mk gb29; have GG29 := Aside0.mk HG29; clear gb29 gl29 HG29
       obtain ⟨hx29_0, hf29_0⟩ := Kd.R_celln 0 HO_6.out (x9_2 : Int) p29 q29
       replace p29 := eq_true p29; replace q29 := eq_true q29
       have HP30 := Kd.R_putg HO_6.out (x9_2 : Int) 32768
       go_wp2_with (first | ((with_reducible refine gate_store (t := 2) (p := 61) rfl ?_); refine store_event (t := 2) (p := 61) (v := ?vo_w31) (w1 := (wr.setCell ⟨go29, (x9_2 : Int).toNat, none⟩ (.int .i64 32768))) ?hg ?ho ?hn ?hr ?_; (case ho => rfl); (case hg => rfl); (case hn => rfl); (case hr => first | (go_simp; done) | (go_simp; rfl)); intro w31 hw; have hg : wr.grownBy w31 (some go29) := (by rw [hw]; exact HP30.2); have hp_ : Kd.R (Kd.int .i64) 2 w31 w.heap.size (fun _ => True) (.slice (some ⟨go29, 0, none⟩) x6_2.length co29) y278 := (by rw [hw, Ny278.out]; exact HP30.1); clear HP30; have n0_ := Aside0.mk (hp_); have n1_ := Aside0.mk ((by rw [hw]; exact below_set (HB.out) GB29.out : Below w.heap.size w w31)); clear HO_6; clear HB; have HO_6 := n0_; have HB := n1_; clear n0_ n1_; clear hg hw hp_))
       go_roundg k2
       case measure => have := HK1.out; have := HK2.out; omega
       case rel => exact ⟨(y278), (wrap64 (x9_2 + 1)), (by first | rfl | (simp; done) | (simp [*]; done)), H', ⟨by have := HK1.out; have := HK2.out; omega⟩, ⟨by (with_reducible repeat first | apply Kd.R_alloc | apply Kd.R_drewN | apply Kd.R_drew); exact HO_6.out⟩, ⟨by repeat (with_reducible first | exact HB.out | apply below_alloc | apply pw_below_drewN | apply below_drew1)⟩⟩
      ·
       rw [if_neg c26] at H; have c26b0 : decide (x9_2 < (wrap64 ((wrap64 ((wrap64 (2 * a0)) - (wrap64 (Int.tdiv (wrap64 (a0 - a1)) 2)))) - a1))) = false := decide_eq_false c26
       (try (have c26b0j := c26b0; simp only [hji4] at c26b0j))
       clear c26
       obtain rfl := Option.some.inj H
       go_wp2
       go_ret
       exact ⟨_, by first | rfl | (simp [errW_none, errW_some] <;> rfl) | (simp only [← hji4]; first | rfl | (simp [errW_none, errW_some] <;> rfl)) | (simp [*, errW_none, errW_some] <;> rfl), by (with_reducible repeat first | apply Kd.R_alloc | apply Kd.R_drewN | apply Kd.R_drew); exact HO_6.out, by repeat (with_reducible first | exact HB.out | apply below_alloc | apply pw_below_drewN | apply below_drew1)⟩

/-! ### madrigalref10_table: function 32 -/
def madrigalref10_table.l0 : Nat → Int → List Int → Int → Option (List Int)
 | 0, _, _, _ => none
 | k + 1, x0, x3, x4 => if x4 < (wrap64 (8 * x0)) then (if x0 = 0 then (none) else ((madrigalref1_Cos.f k (wrap64 (Int.tdiv (wrap64 ((wrap64 (Int.tdiv (wrap64 (x4 * 16384)) x0)) + 1)) 2))).bind fun t282 => (if 0 ≤ x4 then (if x4 < (x3.length : Int) then (madrigalref10_table.l0 k x0 (x3.set (x4 : Int).toNat t282) (wrap64 (x4 + 1))) else (none)) else (none)))) else (some x3)
def madrigalref10_table.f (k : Nat) (a0 : Int) : Option (List Int) := if 0 ≤ (wrap64 (8 * a0)) then (if (wrap64 (8 * a0) : Int).toNat ≤ 35184372088832 then (madrigalref10_table.l0 k a0 (List.replicate (wrap64 (8 * a0) : Int).toNat 0) 0) else (none)) else (none)
set_option maxHeartbeats 8000000 in
set_option maxRecDepth 100000 in
theorem madrigalref10_table.calls (k : Nat) (a0 : Int) (r : List Int) (w : World) (h : madrigalref10_table.f k a0 = some r) :
  Calls Try.prog 32 #[.int .i64 a0] w fun e w' => ∃ v0_ : Value, e = .returned (v0_) ∧ Kd.R (Kd.int .i64) 2 w' w.heap.size (fun _ => True) v0_ r ∧ Below w.heap.size w w' := by
 have HB := Aside0.mk (Below.refl w.heap.size w)
 have H : (if 0 ≤ (wrap64 (8 * a0)) then (if (wrap64 (8 * a0) : Int).toNat ≤ 35184372088832 then (madrigalref10_table.l0 k a0 (List.replicate (wrap64 (8 * a0) : Int).toNat 0) 0) else (none)) else (none)) = some r := h
 clear h
 obtain ⟨ji2, hji2⟩ : ∃ j_ : Int, (wrap64 (8 * a0)) = j_ := ⟨_, rfl⟩
 replace H : (if 0 ≤ (ji2) then (if (ji2 : Int).toNat ≤ 35184372088832 then (madrigalref10_table.l0 k a0 (List.replicate (ji2 : Int).toNat 0) 0) else (none)) else (none)) = some r := by first | (rw [hji2] at H; exact H) | (simp only [hji2] at H ⊢; exact H)
 have hji2w : (IntKind.i64.wrap (8 * a0)) = ji2 := (i64_w _).trans hji2
 by_cases c3 : 0 ≤ (ji2); rotate_left
 · rw [if_neg c3] at H; exact absurd H (by simp)
 rw [if_pos c3] at H; have c3b0 := eq_true c3; have c3b1 : decide (0 ≤ (ji2)) = true := decide_eq_true c3; clear c3
 by_cases c4 : (ji2 : Int).toNat ≤ 35184372088832; rotate_left
 · rw [if_neg c4] at H; exact absurd H (by simp)
 rw [if_pos c4] at H; have c4b0 := eq_true c4; have c4b1 : decide ((ji2 : Int).toNat ≤ 35184372088832) = true := decide_eq_true c4; clear c4
 obtain ⟨y279, hy279⟩ : ∃ y_ : List Int, y_ = (List.replicate (ji2 : Int).toNat 0) := ⟨_, rfl⟩
 replace H : (madrigalref10_table.l0 k a0 y279 0) = some r := by first | (rw [hy279]; with_reducible exact H) | (have H2_ := (Option.bind_some _ _).symm.trans H; rw [hy279]; with_reducible exact H2_) | (have H2_ := (Option.bind_some _ _).symm.trans H; with_reducible exact H2_) | with_reducible exact H | (rw [hy279]; exact H) | exact H
 have Ny279 := Aside0.mk hy279; clear hy279; have H' := Aside0.mk H; clear H
 go_enter Try.func32, Try.ntmps32
 go_wp2_with (first | ((with_reducible refine gate_dst (N := 7) rfl ?_); refine Kd.R_make (Kd.int .i64) _ 2 rfl (N := 7) rfl 23 _ _ rfl ji2 rfl rfl Try.underlying23 (.int .i64 0) 8 info2 rfl (by decide) (by omega) 0 (ok := fun _ => True) (okp := fun _ => True) rfl (fun _ hk => hk) trivial (of_decide_eq_true (by first | (with_reducible assumption) | assumption)) (Nat.le_trans (Nat.mul_le_mul_right _ (of_decide_eq_true (by first | (with_reducible assumption) | assumption) : ji2.toNat ≤ 35184372088832)) (by omega)) (Below.refl _ _) (Nat.le_refl _) ?_; intro v280 w5 ho6 hb hg_ hnew_; clear hg_ hnew_; (first | rw [← Ny279.out] at ho6 | (simp only [Int.reduceToNat] at ho6; rw [← Ny279.out] at ho6)); have n0_ := Aside0.mk (Kd.R_lower ho6 (below_size (by repeat (with_reducible first | exact HB.out | apply below_alloc | apply pw_below_drewN | apply below_drew1)))); have n1_ := Aside0.mk (below_step (by repeat (with_reducible first | exact HB.out | apply below_alloc | apply pw_below_drewN | apply below_drew1)) hb); clear HB; have HO281 := n0_; have HB := n1_; clear n0_ n1_; clear hb ho6))
 go_loopg [4] k (fun kq v4 w' => ∃ (x3_1 : List Int) (x4_1 : Int), v4 = .int .i64 x4_1 ∧ Aside0 (madrigalref10_table.l0 kq a0 x3_1 x4_1 = some r) ∧ Aside0 (kq ≤ k) ∧ Aside0 (Kd.R (Kd.int .i64) 2 w' w.heap.size (fun _ => True) v280 x3_1) ∧ Aside0 (Below w.heap.size w w'))
 case atStart => exact ⟨(y279), (0), (by first | rfl | (simp; done) | (simp [*]; done)), H', ⟨Nat.le_refl _⟩, ⟨by (with_reducible repeat first | apply Kd.R_alloc | apply Kd.R_drewN | apply Kd.R_drew); exact HO281.out⟩, ⟨by repeat (with_reducible first | exact HB.out | apply below_alloc | apply pw_below_drewN | apply below_drew1)⟩⟩
 case round =>
  clear H'
  (try clear p2); (try clear c3); (try clear c3b0); (try clear c3b0z0); (try clear c3b1); (try clear c3b1z0); (try clear c4); (try clear c4b0); (try clear c4b0z0); (try clear c4b1); (try clear c4b1z0); (try clear p6)
  obtain ⟨x3_1, x4_1, rfl, HA, HK1, HO_3, HB⟩ := hrel
  cases gk with
  | zero => exact absurd HA.out (by simp [madrigalref10_table.l0])
  | succ k1 =>
   have H := HA.out; clear HA
   simp only [madrigalref10_table.l0] at H
   by_cases c7 : x4_1 < (wrap64 (8 * a0))
   ·
    rw [if_pos c7] at H; have c7b0 : decide (x4_1 < (wrap64 (8 * a0))) = true := decide_eq_true c7
    (try (have c7b0j := c7b0; simp only [hji2] at c7b0j))
    clear c7
    by_cases c8 : a0 = 0
    ·
     rw [if_pos c8] at H; exact absurd H (by simp)
    ·
     rw [if_neg c8] at H; have c8b0 : (a0 == 0) = false := beq_eq_false_iff_ne.mpr c8; have c8b1 : (a0 != 0) = true := bne_iff_ne.mpr c8; replace H := Option.bind_eq_some_iff.mp H; obtain ⟨t282, A90, H⟩ := H
     replace H : (if 0 ≤ x4_1 then (if x4_1 < (x3_1.length : Int) then (madrigalref10_table.l0 k1 a0 (x3_1.set (x4_1 : Int).toNat t282) (wrap64 (x4_1 + 1))) else (none)) else (none)) = some r := H
     have A9 := Aside0.mk A90; clear A90
     by_cases c10 : 0 ≤ x4_1; rotate_left
     · rw [if_neg c10] at H; exact absurd H (by simp)
     rw [if_pos c10] at H; have c10b0 : decide (0 ≤ x4_1) = true := decide_eq_true c10; clear c10
     by_cases c11 : x4_1 < (x3_1.length : Int); rotate_left
     · rw [if_neg c11] at H; exact absurd H (by simp)
     rw [if_pos c11] at H; have c11b0 : decide (x4_1 < (x3_1.length : Int)) = true := decide_eq_true c11; clear c11
     obtain ⟨y283, hy283⟩ : ∃ y_ : List Int, y_ = (x3_1.set (x4_1 : Int).toNat t282) := ⟨_, rfl⟩
     replace H : (madrigalref10_table.l0 k1 a0 y283 (wrap64 (x4_1 + 1))) = some r := by first | (rw [hy283]; with_reducible exact H) | (have H2_ := (Option.bind_some _ _).symm.trans H; rw [hy283]; with_reducible exact H2_) | (have H2_ := (Option.bind_some _ _).symm.trans H; with_reducible exact H2_) | with_reducible exact H | (rw [hy283]; exact H) | exact H
     have Ny283 := Aside0.mk hy283; clear hy283; have H' := Aside0.mk H; clear H
     go_wp2_with (first | ((with_reducible refine gate_callee (f := 43) rfl ?_); refine goesL_ (some 22) rfl rfl Try.func43 (by kernel_rfl) rfl #[.int .i64 (wrap64 (Int.tdiv (wrap64 ((wrap64 (Int.tdiv (wrap64 (x4_1 * 16384)) a0)) + 1)) 2))] rfl (by (try simp only [List.map_toArray, List.map_cons, List.map_nil]); first | done | rfl | (simp only [List.length_drop, List.length_take]; rfl)) ?_; (with_reducible refine (madrigalref1_Cos.calls k1 (wrap64 (Int.tdiv (wrap64 ((wrap64 (Int.tdiv (wrap64 (x4_1 * 16384)) a0)) + 1)) 2)) t282 _ A9.out).mono ?_); rintro e w13 ⟨rfl, hb⟩; refine ⟨_, rfl, ?_⟩; have n0_ := Aside0.mk (Kd.R_below (by (with_reducible repeat first | apply Kd.R_alloc | apply Kd.R_drewN | apply Kd.R_drew); exact HO_3.out) hb); have n1_ := Aside0.mk (below_step (by repeat (with_reducible first | exact HB.out | apply below_alloc | apply pw_below_drewN | apply below_drew1)) hb); clear HO_3; clear HB; have HO_3 := n0_; have HB := n1_; clear n0_ n1_; (try clear hb); (try clear hb2); (try clear hk); (try clear hi); have p12 : 0 ≤ (x4_1 : Int) := of_decide_eq_true (by first | (with_reducible assumption) | assumption); have q12 : (x4_1 : Int) < ((x3_1.length : Int) : Int) := of_decide_eq_true (by first | (with_reducible assumption) | assumption); obtain ⟨go12, co12, eo12, gb12, gl12, cl12, HG12⟩ := Kd.R_form HO_3.out (by omega); (first | cases eo12 | (injection eo12 with ea_ en_ ec_; (first | subst ea_ | (injection ea_ with ea_; subst ea_)); subst ec_; clear en_)); have GB12 := Aside0.mk gb12; have GG12 := Aside0.mk HG12; clear gb12 gl12 HG12; obtain ⟨hx12_0, hf12_0⟩ := Kd.R_celln 0 HO_3.out (x4_1 : Int) p12 q12; replace p12 := eq_true p12; replace q12 := eq_true q12; obtain ⟨hy14_, hz14_⟩ := Kd.R_celln 0 HO_3.out (x4_1 : Int) (of_decide_eq_true (by first | (with_reducible assumption) | assumption)) (of_decide_eq_true (by first | (with_reducible assumption) | assumption)); have HP14 := Kd.R_putg HO_3.out (x4_1 : Int) t282) | ((with_reducible refine gate_store (t := 2) (p := 23) rfl ?_); refine store_event (t := 2) (p := 23) (v := ?vo_w15) (w1 := (w13.setCell ⟨go12, (x4_1 : Int).toNat, none⟩ (.int .i64 t282))) ?hg ?ho ?hn ?hr ?_; (case ho => rfl); (case hg => rfl); (case hn => rfl); (case hr => first | (go_simp; done) | (go_simp; rfl)); intro w15 hw; have hg : w13.grownBy w15 (some go12) := (by rw [hw]; exact HP14.2); have hp_ : Kd.R (Kd.int .i64) 2 w15 w.heap.size (fun _ => True) (.slice (some ⟨go12, 0, none⟩) x3_1.length co12) y283 := (by rw [hw, Ny283.out]; exact HP14.1); clear HP14; have n0_ := Aside0.mk (hp_); have n1_ := Aside0.mk ((by rw [hw]; exact below_set (HB.out) GB12.out : Below w.heap.size w w15)); clear HO_3; clear HB; have HO_3 := n0_; have HB := n1_; clear n0_ n1_; clear hg hw hp_))
     go_roundg k1
     case measure => have := HK1.out; omega
     case rel => exact ⟨(y283), (wrap64 (x4_1 + 1)), (by first | rfl | (simp; done) | (simp [*]; done)), H', ⟨by have := HK1.out; omega⟩, ⟨by (with_reducible repeat first | apply Kd.R_alloc | apply Kd.R_drewN | apply Kd.R_drew); exact HO_3.out⟩, ⟨by repeat (with_reducible first | exact HB.out | apply below_alloc | apply pw_below_drewN | apply below_drew1)⟩⟩
   ·
    rw [if_neg c7] at H; have c7b0 : decide (x4_1 < (wrap64 (8 * a0))) = false := decide_eq_false c7
    (try (have c7b0j := c7b0; simp only [hji2] at c7b0j))
    clear c7
    obtain rfl := Option.some.inj H
    go_wp2
    go_ret
    exact ⟨_, by first | rfl | (simp [errW_none, errW_some] <;> rfl) | (simp only [← hji2]; first | rfl | (simp [errW_none, errW_some] <;> rfl)) | (simp [*, errW_none, errW_some] <;> rfl), by (with_reducible repeat first | apply Kd.R_alloc | apply Kd.R_drewN | apply Kd.R_drew); exact HO_3.out, by repeat (with_reducible first | exact HB.out | apply below_alloc | apply pw_below_drewN | apply below_drew1)⟩

/-! ### madrigalref10_keep: function 34 -/
def madrigalref10_keep.f (k : Nat) (a0 : Int) : Option (Int) := (madrigalref1_Clamp.f k a0 (-16777216) 16777216).bind fun t284 => (some t284)
set_option maxHeartbeats 8000000 in
set_option maxRecDepth 100000 in
theorem madrigalref10_keep.calls (k : Nat) (a0 : Int) (r : Int) (w : World) (h : madrigalref10_keep.f k a0 = some r) :
  Calls Try.prog 34 #[.int .i64 a0] w fun e w' => e = .returned (.int .i64 r) ∧ Drawn0 w w' := by
 have H : ((madrigalref1_Clamp.f k a0 (-16777216) 16777216).bind fun t284 => (some t284)) = some r := h
 clear h; replace H := Option.bind_eq_some_iff.mp H; obtain ⟨t284, A20, H⟩ := H
 replace H : (some t284) = some r := H
 have A2 := Aside0.mk A20; clear A20
 obtain rfl := Option.some.inj H
 go_enter Try.func34, Try.ntmps34
 go_wp2_with (first | ((with_reducible refine gate_callee (f := 35) rfl ?_); refine goesL_ (some 4) rfl rfl Try.func35 (by kernel_rfl) rfl #[.int .i64 a0, .int .i64 (-16777216), .int .i64 16777216] rfl (by (try simp only [List.map_toArray, List.map_cons, List.map_nil]); first | done | rfl | (simp only [List.length_drop, List.length_take]; rfl)) ?_; (with_reducible refine (madrigalref1_Clamp.calls k a0 (-16777216) 16777216 t284 _ A2.out).mono ?_); rintro e w' ⟨rfl, ⟨nd, rfl⟩⟩; refine ⟨_, rfl, ?_⟩))
 go_ret
 exact ⟨by first | rfl | (simp; done) | (simp [*]; done), by repeat (first | exact Drawn0.refl _ | apply Drawn0.step)⟩

end Go.Proofs.Ytnliianjljgcbaa.MA
