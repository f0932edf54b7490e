/- Functions of the program as plain Lean functions, and that the code comes to their answers. No condition. -/
import Derived.Test.YtmfjmbdicjeooaaMAx0
namespace Go.Proofs.Ytmfjmbdicjeooaa.MA
open Go.RowKit Go.Proofs.YtmfjmbdicjeooaaW.PrintWords Go.Proofs.YtmfjmbdicjeooaaW.PrintLast Go.Proofs.YtmfjmbdicjeooaaW.PrintMore
attribute [local go_sem] max2_int min2_int max_two min_two max_three min_three max_four min_four
set_option linter.unusedVariables false
set_option linter.unusedSimpArgs false

/-! ### tabs_Icdf: function 5 -/
def tabs_Icdf.f (a0 : Int) : Option (List Int) := if a0 = 0 then (some (([192, 96, 0] : List Int))) else (if a0 = 1 then (some (([224, 192, 160, 128, 96, 64, 32, 0] : List Int))) else (if a0 = 2 then (some (([252, 247, 240, 230, 214, 190, 150, 106, 66, 42, 26, 16, 10, 6, 4, 2, 0] : List Int))) else (if a0 = 3 then (some (([240, 224, 208, 192, 176, 160, 144, 128, 112, 96, 80, 64, 48, 32, 16, 0] : List Int))) else (if a0 = 4 then (some (([253, 244, 222, 170, 86, 34, 12, 3, 0] : List Int))) else (if a0 = 5 then (some (([218, 180, 148, 122, 100, 82, 67, 54, 43, 34, 26, 19, 14, 10, 6, 3, 0] : List Int))) else (if a0 = 6 then (some (([205, 163, 128, 97, 70, 44, 20, 0] : List Int))) else (if a0 = 7 then (some (([231, 155, 38, 0] : List Int))) else (if a0 = 8 then (some (([192, 128, 64, 0] : List Int))) else (some ([] : List Int))))))))))
set_option maxHeartbeats 8000000 in
set_option maxRecDepth 100000 in
theorem tabs_Icdf.calls (a0 : Int) (r : List Int) (w : World) (h : tabs_Icdf.f a0 = some r) :
  Calls Try.prog 5 #[.int .i64 a0] w fun e w' => ∃ v0_ : Value, e = .returned (v0_) ∧ Kd.R (Kd.int .i64) 3 w' w.heap.size (fun _ => True) v0_ r ∧ Below w.heap.size w w' := by
 have HB := Aside0.mk (Below.refl w.heap.size w)
 have H : (if a0 = 0 then (some (([192, 96, 0] : List Int))) else (if a0 = 1 then (some (([224, 192, 160, 128, 96, 64, 32, 0] : List Int))) else (if a0 = 2 then (some (([252, 247, 240, 230, 214, 190, 150, 106, 66, 42, 26, 16, 10, 6, 4, 2, 0] : List Int))) else (if a0 = 3 then (some (([240, 224, 208, 192, 176, 160, 144, 128, 112, 96, 80, 64, 48, 32, 16, 0] : List Int))) else (if a0 = 4 then (some (([253, 244, 222, 170, 86, 34, 12, 3, 0] : List Int))) else (if a0 = 5 then (some (([218, 180, 148, 122, 100, 82, 67, 54, 43, 34, 26, 19, 14, 10, 6, 3, 0] : List Int))) else (if a0 = 6 then (some (([205, 163, 128, 97, 70, 44, 20, 0] : List Int))) else (if a0 = 7 then (some (([231, 155, 38, 0] : List Int))) else (if a0 = 8 then (some (([192, 128, 64, 0] : List Int))) else (some ([] : List Int))))))))))) = some r := h
 clear h
 by_cases c2 : a0 = 0
 ·
  rw [if_pos c2] at H; have c2b0 : (a0 == 0) = true := beq_iff_eq.mpr c2; have c2b1 : (a0 != 0) = false := bne_eq_false_iff_eq.mpr c2; clear c2
  obtain ⟨y101, hy101⟩ : ∃ y_ : List Int, y_ = (([192, 96, 0] : List Int)) := ⟨_, rfl⟩
  replace H : (some y101) = some r := by first | (rw [hy101]; with_reducible exact H) | (have H2_ := (Option.bind_some _ _).symm.trans H; rw [hy101]; with_reducible exact H2_) | (have H2_ := (Option.bind_some _ _).symm.trans H; with_reducible exact H2_) | with_reducible exact H | (rw [hy101]; exact H) | exact H
  have Ny101 := Aside0.mk hy101; clear hy101
  obtain rfl := Option.some.inj H
  go_enter Try.func5, Try.ntmps5
  go_wp2_with (first | ((with_reducible refine gate_dst (N := 6) rfl ?_); refine Kd.R_lit (Kd.int .i64) _ 3 ?hg (N := 6) ?hd (xs := ([192, 96, 0] : List Int)) (inner := [.int .i64 192, .int .i64 96, .int .i64 0]) (ok := fun _ => True) (okp := fun _ => True) ?hr ?hp (fun _ hk => hk) trivial (Below.refl _ _) (Nat.le_refl _) (by simp) ?_; (case hd => rfl); (case hg => rfl); (case hr => first | (go_simp; done) | (go_simp; rfl)); (case hp => exact (Reps.one (show Kd.M (Kd.int .i64) _ _ _ 192 [.int .i64 192] from rfl) (Reps.one (show Kd.M (Kd.int .i64) _ _ _ 96 [.int .i64 96] from rfl) (Reps.one (show Kd.M (Kd.int .i64) _ _ _ 0 [.int .i64 0] from rfl) (Reps.none _ _))))); intro v102 w3 ho4 hb hg_ hnew_; clear hg_ hnew_; (first | rw [← Ny101.out] at ho4 | (simp only [Int.reduceToNat] at ho4; rw [← Ny101.out] at ho4)); have n0_ := Aside0.mk (Kd.R_lower ho4 (below_size (by repeat (with_reducible first | exact HB.out | apply below_alloc | apply pw_below_drewN | apply below_drew1)))); have n1_ := Aside0.mk (below_step (by repeat (with_reducible first | exact HB.out | apply below_alloc | apply pw_below_drewN | apply below_drew1)) hb); clear HB; have HO103 := n0_; have HB := n1_; clear n0_ n1_; clear hb ho4))
  go_ret
  exact ⟨_, by first | rfl | (simp [errW_none, errW_some] <;> rfl) | (simp [*, errW_none, errW_some] <;> rfl), by (with_reducible repeat first | apply Kd.R_alloc | apply Kd.R_drewN | apply Kd.R_drew); exact HO103.out, by repeat (with_reducible first | exact HB.out | apply below_alloc | apply pw_below_drewN | apply below_drew1)⟩
 ·
  rw [if_neg c2] at H; have c2b0 : (a0 == 0) = false := beq_eq_false_iff_ne.mpr c2; have c2b1 : (a0 != 0) = true := bne_iff_ne.mpr c2
  by_cases c5 : a0 = 1
  ·
   rw [if_pos c5] at H; have c5b0 : (a0 == 1) = true := beq_iff_eq.mpr c5; have c5b1 : (a0 != 1) = false := bne_eq_false_iff_eq.mpr c5; clear c5
   obtain ⟨y104, hy104⟩ : ∃ y_ : List Int, y_ = (([224, 192, 160, 128, 96, 64, 32, 0] : List Int)) := ⟨_, rfl⟩
   replace H : (some y104) = some r := by first | (rw [hy104]; with_reducible exact H) | (have H2_ := (Option.bind_some _ _).symm.trans H; rw [hy104]; with_reducible exact H2_) | (have H2_ := (Option.bind_some _ _).symm.trans H; with_reducible exact H2_) | with_reducible exact H | (rw [hy104]; exact H) | exact H
   have Ny104 := Aside0.mk hy104; clear hy104
   obtain rfl := Option.some.inj H
   go_enter Try.func5, Try.ntmps5
   go_wp2_with (first | ((with_reducible refine gate_dst (N := 9) rfl ?_); refine Kd.R_lit (Kd.int .i64) _ 3 ?hg (N := 9) ?hd (xs := ([224, 192, 160, 128, 96, 64, 32, 0] : List Int)) (inner := [.int .i64 224, .int .i64 192, .int .i64 160, .int .i64 128, .int .i64 96, .int .i64 64, .int .i64 32, .int .i64 0]) (ok := fun _ => True) (okp := fun _ => True) ?hr ?hp (fun _ hk => hk) trivial (Below.refl _ _) (Nat.le_refl _) (by simp) ?_; (case hd => rfl); (case hg => rfl); (case hr => first | (go_simp; done) | (go_simp; rfl)); (case hp => exact (Reps.one (show Kd.M (Kd.int .i64) _ _ _ 224 [.int .i64 224] from rfl) (Reps.one (show Kd.M (Kd.int .i64) _ _ _ 192 [.int .i64 192] from rfl) (Reps.one (show Kd.M (Kd.int .i64) _ _ _ 160 [.int .i64 160] from rfl) (Reps.one (show Kd.M (Kd.int .i64) _ _ _ 128 [.int .i64 128] from rfl) (Reps.one (show Kd.M (Kd.int .i64) _ _ _ 96 [.int .i64 96] from rfl) (Reps.one (show Kd.M (Kd.int .i64) _ _ _ 64 [.int .i64 64] from rfl) (Reps.one (show Kd.M (Kd.int .i64) _ _ _ 32 [.int .i64 32] from rfl) (Reps.one (show Kd.M (Kd.int .i64) _ _ _ 0 [.int .i64 0] from rfl) (Reps.none _ _)))))))))); intro v105 w6 ho7 hb hg_ hnew_; clear hg_ hnew_; (first | rw [← Ny104.out] at ho7 | (simp only [Int.reduceToNat] at ho7; rw [← Ny104.out] at ho7)); have n0_ := Aside0.mk (Kd.R_lower ho7 (below_size (by repeat (with_reducible first | exact HB.out | apply below_alloc | apply pw_below_drewN | apply below_drew1)))); have n1_ := Aside0.mk (below_step (by repeat (with_reducible first | exact HB.out | apply below_alloc | apply pw_below_drewN | apply below_drew1)) hb); clear HB; have HO106 := n0_; have HB := n1_; clear n0_ n1_; clear hb ho7))
   go_ret
   exact ⟨_, by first | rfl | (simp [errW_none, errW_some] <;> rfl) | (simp [*, errW_none, errW_some] <;> rfl), by (with_reducible repeat first | apply Kd.R_alloc | apply Kd.R_drewN | apply Kd.R_drew); exact HO106.out, by repeat (with_reducible first | exact HB.out | apply below_alloc | apply pw_below_drewN | apply below_drew1)⟩
  ·
   rw [if_neg c5] at H; have c5b0 : (a0 == 1) = false := beq_eq_false_iff_ne.mpr c5; have c5b1 : (a0 != 1) = true := bne_iff_ne.mpr c5
   by_cases c8 : a0 = 2
   ·
    rw [if_pos c8] at H; have c8b0 : (a0 == 2) = true := beq_iff_eq.mpr c8; have c8b1 : (a0 != 2) = false := bne_eq_false_iff_eq.mpr c8; clear c8
    obtain ⟨y107, hy107⟩ : ∃ y_ : List Int, y_ = (([252, 247, 240, 230, 214, 190, 150, 106, 66, 42, 26, 16, 10, 6, 4, 2, 0] : List Int)) := ⟨_, rfl⟩
    replace H : (some y107) = some r := by first | (rw [hy107]; with_reducible exact H) | (have H2_ := (Option.bind_some _ _).symm.trans H; rw [hy107]; with_reducible exact H2_) | (have H2_ := (Option.bind_some _ _).symm.trans H; with_reducible exact H2_) | with_reducible exact H | (rw [hy107]; exact H) | exact H
    have Ny107 := Aside0.mk hy107; clear hy107
    obtain rfl := Option.some.inj H
    go_enter Try.func5, Try.ntmps5
    go_wp2_with (first | ((with_reducible refine gate_dst (N := 12) rfl ?_); refine Kd.R_lit (Kd.int .i64) _ 3 ?hg (N := 12) ?hd (xs := ([252, 247, 240, 230, 214, 190, 150, 106, 66, 42, 26, 16, 10, 6, 4, 2, 0] : List Int)) (inner := [.int .i64 252, .int .i64 247, .int .i64 240, .int .i64 230, .int .i64 214, .int .i64 190, .int .i64 150, .int .i64 106, .int .i64 66, .int .i64 42, .int .i64 26, .int .i64 16, .int .i64 10, .int .i64 6, .int .i64 4, .int .i64 2, .int .i64 0]) (ok := fun _ => True) (okp := fun _ => True) ?hr ?hp (fun _ hk => hk) trivial (Below.refl _ _) (Nat.le_refl _) (by simp) ?_; (case hd => rfl); (case hg => rfl); (case hr => first | (go_simp; done) | (go_simp; rfl)); (case hp => exact (Reps.one (show Kd.M (Kd.int .i64) _ _ _ 252 [.int .i64 252] from rfl) (Reps.one (show Kd.M (Kd.int .i64) _ _ _ 247 [.int .i64 247] from rfl) (Reps.one (show Kd.M (Kd.int .i64) _ _ _ 240 [.int .i64 240] from rfl) (Reps.one (show Kd.M (Kd.int .i64) _ _ _ 230 [.int .i64 230] from rfl) (Reps.one (show Kd.M (Kd.int .i64) _ _ _ 214 [.int .i64 214] from rfl) (Reps.one (show Kd.M (Kd.int .i64) _ _ _ 190 [.int .i64 190] from rfl) (Reps.one (show Kd.M (Kd.int .i64) _ _ _ 150 [.int .i64 150] from rfl) (Reps.one (show Kd.M (Kd.int .i64) _ _ _ 106 [.int .i64 106] from rfl) (Reps.one (show Kd.M (Kd.int .i64) _ _ _ 66 [.int .i64 66] from rfl) (Reps.one (show Kd.M (Kd.int .i64) _ _ _ 42 [.int .i64 42] from rfl) (Reps.one (show Kd.M (Kd.int .i64) _ _ _ 26 [.int .i64 26] from rfl) (Reps.one (show Kd.M (Kd.int .i64) _ _ _ 16 [.int .i64 16] from rfl) (Reps.one (show Kd.M (Kd.int .i64) _ _ _ 10 [.int .i64 10] from rfl) (Reps.one (show Kd.M (Kd.int .i64) _ _ _ 6 [.int .i64 6] from rfl) (Reps.one (show Kd.M (Kd.int .i64) _ _ _ 4 [.int .i64 4] from rfl) (Reps.one (show Kd.M (Kd.int .i64) _ _ _ 2 [.int .i64 2] from rfl) (Reps.one (show Kd.M (Kd.int .i64) _ _ _ 0 [.int .i64 0] from rfl) (Reps.none _ _))))))))))))))))))); intro v108 w9 ho10 hb hg_ hnew_; clear hg_ hnew_; (first | rw [← Ny107.out] at ho10 | (simp only [Int.reduceToNat] at ho10; rw [← Ny107.out] at ho10)); have n0_ := Aside0.mk (Kd.R_lower ho10 (below_size (by repeat (with_reducible first | exact HB.out | apply below_alloc | apply pw_below_drewN | apply below_drew1)))); have n1_ := Aside0.mk (below_step (by repeat (with_reducible first | exact HB.out | apply below_alloc | apply pw_below_drewN | apply below_drew1)) hb); clear HB; have HO109 := n0_; have HB := n1_; clear n0_ n1_; clear hb ho10))
    go_ret
    exact ⟨_, by first | rfl | (simp [errW_none, errW_some] <;> rfl) | (simp [*, errW_none, errW_some] <;> rfl), by (with_reducible repeat first | apply Kd.R_alloc | apply Kd.R_drewN | apply Kd.R_drew); exact HO109.out, by repeat (with_reducible first | exact HB.out | apply below_alloc | apply pw_below_drewN | apply below_drew1)⟩
   ·
    rw [if_neg c8] at H; have c8b0 : (a0 == 2) = false := beq_eq_false_iff_ne.mpr c8; have c8b1 : (a0 != 2) = true := bne_iff_ne.mpr c8
    by_cases c11 : a0 = 3
    ·
     rw [if_pos c11] at H; have c11b0 : (a0 == 3) = true := beq_iff_eq.mpr c11; have c11b1 : (a0 != 3) = false := bne_eq_false_iff_eq.mpr c11; clear c11
     obtain ⟨y110, hy110⟩ : ∃ y_ : List Int, y_ = (([240, 224, 208, 192, 176, 160, 144, 128, 112, 96, 80, 64, 48, 32, 16, 0] : List Int)) := ⟨_, rfl⟩
     replace H : (some y110) = some r := by first | (rw [hy110]; with_reducible exact H) | (have H2_ := (Option.bind_some _ _).symm.trans H; rw [hy110]; with_reducible exact H2_) | (have H2_ := (Option.bind_some _ _).symm.trans H; with_reducible exact H2_) | with_reducible exact H | (rw [hy110]; exact H) | exact H
     have Ny110 := Aside0.mk hy110; clear hy110
     obtain rfl := Option.some.inj H
     go_enter Try.func5, Try.ntmps5
     go_wp2_with (first | ((with_reducible refine gate_dst (N := 15) rfl ?_); refine Kd.R_lit (Kd.int .i64) _ 3 ?hg (N := 15) ?hd (xs := ([240, 224, 208, 192, 176, 160, 144, 128, 112, 96, 80, 64, 48, 32, 16, 0] : List Int)) (inner := [.int .i64 240, .int .i64 224, .int .i64 208, .int .i64 192, .int .i64 176, .int .i64 160, .int .i64 144, .int .i64 128, .int .i64 112, .int .i64 96, .int .i64 80, .int .i64 64, .int .i64 48, .int .i64 32, .int .i64 16, .int .i64 0]) (ok := fun _ => True) (okp := fun _ => True) ?hr ?hp (fun _ hk => hk) trivial (Below.refl _ _) (Nat.le_refl _) (by simp) ?_; (case hd => rfl); (case hg => rfl); (case hr => first | (go_simp; done) | (go_simp; rfl)); (case hp => exact (Reps.one (show Kd.M (Kd.int .i64) _ _ _ 240 [.int .i64 240] from rfl) (Reps.one (show Kd.M (Kd.int .i64) _ _ _ 224 [.int .i64 224] from rfl) (Reps.one (show Kd.M (Kd.int .i64) _ _ _ 208 [.int .i64 208] from rfl) (Reps.one (show Kd.M (Kd.int .i64) _ _ _ 192 [.int .i64 192] from rfl) (Reps.one (show Kd.M (Kd.int .i64) _ _ _ 176 [.int .i64 176] from rfl) (Reps.one (show Kd.M (Kd.int .i64) _ _ _ 160 [.int .i64 160] from rfl) (Reps.one (show Kd.M (Kd.int .i64) _ _ _ 144 [.int .i64 144] from rfl) (Reps.one (show Kd.M (Kd.int .i64) _ _ _ 128 [.int .i64 128] from rfl) (Reps.one (show Kd.M (Kd.int .i64) _ _ _ 112 [.int .i64 112] from rfl) (Reps.one (show Kd.M (Kd.int .i64) _ _ _ 96 [.int .i64 96] from rfl) (Reps.one (show Kd.M (Kd.int .i64) _ _ _ 80 [.int .i64 80] from rfl) (Reps.one (show Kd.M (Kd.int .i64) _ _ _ 64 [.int .i64 64] from rfl) (Reps.one (show Kd.M (Kd.int .i64) _ _ _ 48 [.int .i64 48] from rfl) (Reps.one (show Kd.M (Kd.int .i64) _ _ _ 32 [.int .i64 32] from rfl) (Reps.one (show Kd.M (Kd.int .i64) _ _ _ 16 [.int .i64 16] from rfl) (Reps.one (show Kd.M (Kd.int .i64) _ _ _ 0 [.int .i64 0] from rfl) (Reps.none _ _)))))))))))))))))); intro v111 w12 ho13 hb hg_ hnew_; clear hg_ hnew_; (first | rw [← Ny110.out] at ho13 | (simp only [Int.reduceToNat] at ho13; rw [← Ny110.out] at ho13)); have n0_ := Aside0.mk (Kd.R_lower ho13 (below_size (by repeat (with_reducible first | exact HB.out | apply below_alloc | apply pw_below_drewN | apply below_drew1)))); have n1_ := Aside0.mk (below_step (by repeat (with_reducible first | exact HB.out | apply below_alloc | apply pw_below_drewN | apply below_drew1)) hb); clear HB; have HO112 := n0_; have HB := n1_; clear n0_ n1_; clear hb ho13))
     go_ret
     exact ⟨_, by first | rfl | (simp [errW_none, errW_some] <;> rfl) | (simp [*, errW_none, errW_some] <;> rfl), by (with_reducible repeat first | apply Kd.R_alloc | apply Kd.R_drewN | apply Kd.R_drew); exact HO112.out, by repeat (with_reducible first | exact HB.out | apply below_alloc | apply pw_below_drewN | apply below_drew1)⟩
    ·
     rw [if_neg c11] at H; have c11b0 : (a0 == 3) = false := beq_eq_false_iff_ne.mpr c11; have c11b1 : (a0 != 3) = true := bne_iff_ne.mpr c11
     by_cases c14 : a0 = 4
     ·
      rw [if_pos c14] at H; have c14b0 : (a0 == 4) = true := beq_iff_eq.mpr c14; have c14b1 : (a0 != 4) = false := bne_eq_false_iff_eq.mpr c14; clear c14
      obtain ⟨y113, hy113⟩ : ∃ y_ : List Int, y_ = (([253, 244, 222, 170, 86, 34, 12, 3, 0] : List Int)) := ⟨_, rfl⟩
      replace H : (some y113) = some r := by first | (rw [hy113]; with_reducible exact H) | (have H2_ := (Option.bind_some _ _).symm.trans H; rw [hy113]; with_reducible exact H2_) | (have H2_ := (Option.bind_some _ _).symm.trans H; with_reducible exact H2_) | with_reducible exact H | (rw [hy113]; exact H) | exact H
      have Ny113 := Aside0.mk hy113; clear hy113
      obtain rfl := Option.some.inj H
      go_enter Try.func5, Try.ntmps5
      go_wp2_with (first | ((with_reducible refine gate_dst (N := 18) rfl ?_); refine Kd.R_lit (Kd.int .i64) _ 3 ?hg (N := 18) ?hd (xs := ([253, 244, 222, 170, 86, 34, 12, 3, 0] : List Int)) (inner := [.int .i64 253, .int .i64 244, .int .i64 222, .int .i64 170, .int .i64 86, .int .i64 34, .int .i64 12, .int .i64 3, .int .i64 0]) (ok := fun _ => True) (okp := fun _ => True) ?hr ?hp (fun _ hk => hk) trivial (Below.refl _ _) (Nat.le_refl _) (by simp) ?_; (case hd => rfl); (case hg => rfl); (case hr => first | (go_simp; done) | (go_simp; rfl)); (case hp => exact (Reps.one (show Kd.M (Kd.int .i64) _ _ _ 253 [.int .i64 253] from rfl) (Reps.one (show Kd.M (Kd.int .i64) _ _ _ 244 [.int .i64 244] from rfl) (Reps.one (show Kd.M (Kd.int .i64) _ _ _ 222 [.int .i64 222] from rfl) (Reps.one (show Kd.M (Kd.int .i64) _ _ _ 170 [.int .i64 170] from rfl) (Reps.one (show Kd.M (Kd.int .i64) _ _ _ 86 [.int .i64 86] from rfl) (Reps.one (show Kd.M (Kd.int .i64) _ _ _ 34 [.int .i64 34] from rfl) (Reps.one (show Kd.M (Kd.int .i64) _ _ _ 12 [.int .i64 12] from rfl) (Reps.one (show Kd.M (Kd.int .i64) _ _ _ 3 [.int .i64 3] from rfl) (Reps.one (show Kd.M (Kd.int .i64) _ _ _ 0 [.int .i64 0] from rfl) (Reps.none _ _))))))))))); intro v114 w15 ho16 hb hg_ hnew_; clear hg_ hnew_; (first | rw [← Ny113.out] at ho16 | (simp only [Int.reduceToNat] at ho16; rw [← Ny113.out] at ho16)); have n0_ := Aside0.mk (Kd.R_lower ho16 (below_size (by repeat (with_reducible first | exact HB.out | apply below_alloc | apply pw_below_drewN | apply below_drew1)))); have n1_ := Aside0.mk (below_step (by repeat (with_reducible first | exact HB.out | apply below_alloc | apply pw_below_drewN | apply below_drew1)) hb); clear HB; have HO115 := n0_; have HB := n1_; clear n0_ n1_; clear hb ho16))
      go_ret
      exact ⟨_, by first | rfl | (simp [errW_none, errW_some] <;> rfl) | (simp [*, errW_none, errW_some] <;> rfl), by (with_reducible repeat first | apply Kd.R_alloc | apply Kd.R_drewN | apply Kd.R_drew); exact HO115.out, by repeat (with_reducible first | exact HB.out | apply below_alloc | apply pw_below_drewN | apply below_drew1)⟩
     ·
      rw [if_neg c14] at H; have c14b0 : (a0 == 4) = false := beq_eq_false_iff_ne.mpr c14; have c14b1 : (a0 != 4) = true := bne_iff_ne.mpr c14
      by_cases c17 : a0 = 5
      ·
       rw [if_pos c17] at H; have c17b0 : (a0 == 5) = true := beq_iff_eq.mpr c17; have c17b1 : (a0 != 5) = false := bne_eq_false_iff_eq.mpr c17; clear c17
       obtain ⟨y116, hy116⟩ : ∃ y_ : List Int, y_ = (([218, 180, 148, 122, 100, 82, 67, 54, 43, 34, 26, 19, 14, 10, 6, 3, 0] : List Int)) := ⟨_, rfl⟩
       replace H : (some y116) = some r := by first | (rw [hy116]; with_reducible exact H) | (have H2_ := (Option.bind_some _ _).symm.trans H; rw [hy116]; with_reducible exact H2_) | (have H2_ := (Option.bind_some _ _).symm.trans H; with_reducible exact H2_) | with_reducible exact H | (rw [hy116]; exact H) | exact H
       have Ny116 := Aside0.mk hy116; clear hy116
       obtain rfl := Option.some.inj H
       go_enter Try.func5, Try.ntmps5
       go_wp2_with (first | ((with_reducible refine gate_dst (N := 21) rfl ?_); refine Kd.R_lit (Kd.int .i64) _ 3 ?hg (N := 21) ?hd (xs := ([218, 180, 148, 122, 100, 82, 67, 54, 43, 34, 26, 19, 14, 10, 6, 3, 0] : List Int)) (inner := [.int .i64 218, .int .i64 180, .int .i64 148, .int .i64 122, .int .i64 100, .int .i64 82, .int .i64 67, .int .i64 54, .int .i64 43, .int .i64 34, .int .i64 26, .int .i64 19, .int .i64 14, .int .i64 10, .int .i64 6, .int .i64 3, .int .i64 0]) (ok := fun _ => True) (okp := fun _ => True) ?hr ?hp (fun _ hk => hk) trivial (Below.refl _ _) (Nat.le_refl _) (by simp) ?_; (case hd => rfl); (case hg => rfl); (case hr => first | (go_simp; done) | (go_simp; rfl)); (case hp => exact (Reps.one (show Kd.M (Kd.int .i64) _ _ _ 218 [.int .i64 218] from rfl) (Reps.one (show Kd.M (Kd.int .i64) _ _ _ 180 [.int .i64 180] from rfl) (Reps.one (show Kd.M (Kd.int .i64) _ _ _ 148 [.int .i64 148] from rfl) (Reps.one (show Kd.M (Kd.int .i64) _ _ _ 122 [.int .i64 122] from rfl) (Reps.one (show Kd.M (Kd.int .i64) _ _ _ 100 [.int .i64 100] from rfl) (Reps.one (show Kd.M (Kd.int .i64) _ _ _ 82 [.int .i64 82] from rfl) (Reps.one (show Kd.M (Kd.int .i64) _ _ _ 67 [.int .i64 67] from rfl) (Reps.one (show Kd.M (Kd.int .i64) _ _ _ 54 [.int .i64 54] from rfl) (Reps.one (show Kd.M (Kd.int .i64) _ _ _ 43 [.int .i64 43] from rfl) (Reps.one (show Kd.M (Kd.int .i64) _ _ _ 34 [.int .i64 34] from rfl) (Reps.one (show Kd.M (Kd.int .i64) _ _ _ 26 [.int .i64 26] from rfl) (Reps.one (show Kd.M (Kd.int .i64) _ _ _ 19 [.int .i64 19] from rfl) (Reps.one (show Kd.M (Kd.int .i64) _ _ _ 14 [.int .i64 14] from rfl) (Reps.one (show Kd.M (Kd.int .i64) _ _ _ 10 [.int .i64 10] from rfl) (Reps.one (show Kd.M (Kd.int .i64) _ _ _ 6 [.int .i64 6] from rfl) (Reps.one (show Kd.M (Kd.int .i64) _ _ _ 3 [.int .i64 3] from rfl) (Reps.one (show Kd.M (Kd.int .i64) _ _ _ 0 [.int .i64 0] from rfl) (Reps.none _ _))))))))))))))))))); intro v117 w18 ho19 hb hg_ hnew_; clear hg_ hnew_; (first | rw [← Ny116.out] at ho19 | (simp only [Int.reduceToNat] at ho19; rw [← Ny116.out] at ho19)); have n0_ := Aside0.mk (Kd.R_lower ho19 (below_size (by repeat (with_reducible first | exact HB.out | apply below_alloc | apply pw_below_drewN | apply below_drew1)))); have n1_ := Aside0.mk (below_step (by repeat (with_reducible first | exact HB.out | apply below_alloc | apply pw_below_drewN | apply below_drew1)) hb); clear HB; have HO118 := n0_; have HB := n1_; clear n0_ n1_; clear hb ho19))
       go_ret
       exact ⟨_, by first | rfl | (simp [errW_none, errW_some] <;> rfl) | (simp [*, errW_none, errW_some] <;> rfl), by (with_reducible repeat first | apply Kd.R_alloc | apply Kd.R_drewN | apply Kd.R_drew); exact HO118.out, by repeat (with_reducible first | exact HB.out | apply below_alloc | apply pw_below_drewN | apply below_drew1)⟩
      ·
       rw [if_neg c17] at H; have c17b0 : (a0 == 5) = false := beq_eq_false_iff_ne.mpr c17; have c17b1 : (a0 != 5) = true := bne_iff_ne.mpr c17
       by_cases c20 : a0 = 6
       ·
        rw [if_pos c20] at H; have c20b0 : (a0 == 6) = true := beq_iff_eq.mpr c20; have c20b1 : (a0 != 6) = false := bne_eq_false_iff_eq.mpr c20; clear c20
        obtain ⟨y119, hy119⟩ : ∃ y_ : List Int, y_ = (([205, 163, 128, 97, 70, 44, 20, 0] : List Int)) := ⟨_, rfl⟩
        replace H : (some y119) = some r := by first | (rw [hy119]; with_reducible exact H) | (have H2_ := (Option.bind_some _ _).symm.trans H; rw [hy119]; with_reducible exact H2_) | (have H2_ := (Option.bind_some _ _).symm.trans H; with_reducible exact H2_) | with_reducible exact H | (rw [hy119]; exact H) | exact H
        have Ny119 := Aside0.mk hy119; clear hy119
        obtain rfl := Option.some.inj H
        go_enter Try.func5, Try.ntmps5
        go_wp2_with (first | ((with_reducible refine gate_dst (N := 24) rfl ?_); refine Kd.R_lit (Kd.int .i64) _ 3 ?hg (N := 24) ?hd (xs := ([205, 163, 128, 97, 70, 44, 20, 0] : List Int)) (inner := [.int .i64 205, .int .i64 163, .int .i64 128, .int .i64 97, .int .i64 70, .int .i64 44, .int .i64 20, .int .i64 0]) (ok := fun _ => True) (okp := fun _ => True) ?hr ?hp (fun _ hk => hk) trivial (Below.refl _ _) (Nat.le_refl _) (by simp) ?_; (case hd => rfl); (case hg => rfl); (case hr => first | (go_simp; done) | (go_simp; rfl)); (case hp => exact (Reps.one (show Kd.M (Kd.int .i64) _ _ _ 205 [.int .i64 205] from rfl) (Reps.one (show Kd.M (Kd.int .i64) _ _ _ 163 [.int .i64 163] from rfl) (Reps.one (show Kd.M (Kd.int .i64) _ _ _ 128 [.int .i64 128] from rfl) (Reps.one (show Kd.M (Kd.int .i64) _ _ _ 97 [.int .i64 97] from rfl) (Reps.one (show Kd.M (Kd.int .i64) _ _ _ 70 [.int .i64 70] from rfl) (Reps.one (show Kd.M (Kd.int .i64) _ _ _ 44 [.int .i64 44] from rfl) (Reps.one (show Kd.M (Kd.int .i64) _ _ _ 20 [.int .i64 20] from rfl) (Reps.one (show Kd.M (Kd.int .i64) _ _ _ 0 [.int .i64 0] from rfl) (Reps.none _ _)))))))))); intro v120 w21 ho22 hb hg_ hnew_; clear hg_ hnew_; (first | rw [← Ny119.out] at ho22 | (simp only [Int.reduceToNat] at ho22; rw [← Ny119.out] at ho22)); have n0_ := Aside0.mk (Kd.R_lower ho22 (below_size (by repeat (with_reducible first | exact HB.out | apply below_alloc | apply pw_below_drewN | apply below_drew1)))); have n1_ := Aside0.mk (below_step (by repeat (with_reducible first | exact HB.out | apply below_alloc | apply pw_below_drewN | apply below_drew1)) hb); clear HB; have HO121 := n0_; have HB := n1_; clear n0_ n1_; clear hb ho22))
        go_ret
        exact ⟨_, by first | rfl | (simp [errW_none, errW_some] <;> rfl) | (simp [*, errW_none, errW_some] <;> rfl), by (with_reducible repeat first | apply Kd.R_alloc | apply Kd.R_drewN | apply Kd.R_drew); exact HO121.out, by repeat (with_reducible first | exact HB.out | apply below_alloc | apply pw_below_drewN | apply below_drew1)⟩
       ·
        rw [if_neg c20] at H; have c20b0 : (a0 == 6) = false := beq_eq_false_iff_ne.mpr c20; have c20b1 : (a0 != 6) = true := bne_iff_ne.mpr c20
        by_cases c23 : a0 = 7
        ·
         rw [if_pos c23] at H; have c23b0 : (a0 == 7) = true := beq_iff_eq.mpr c23; have c23b1 : (a0 != 7) = false := bne_eq_false_iff_eq.mpr c23; clear c23
         obtain ⟨y122, hy122⟩ : ∃ y_ : List Int, y_ = (([231, 155, 38, 0] : List Int)) := ⟨_, rfl⟩
         replace H : (some y122) = some r := by first | (rw [hy122]; with_reducible exact H) | (have H2_ := (Option.bind_some _ _).symm.trans H; rw [hy122]; with_reducible exact H2_) | (have H2_ := (Option.bind_some _ _).symm.trans H; with_reducible exact H2_) | with_reducible exact H | (rw [hy122]; exact H) | exact H
         have Ny122 := Aside0.mk hy122; clear hy122
         obtain rfl := Option.some.inj H
         go_enter Try.func5, Try.ntmps5
         go_wp2_with (first | ((with_reducible refine gate_dst (N := 27) rfl ?_); refine Kd.R_lit (Kd.int .i64) _ 3 ?hg (N := 27) ?hd (xs := ([231, 155, 38, 0] : List Int)) (inner := [.int .i64 231, .int .i64 155, .int .i64 38, .int .i64 0]) (ok := fun _ => True) (okp := fun _ => True) ?hr ?hp (fun _ hk => hk) trivial (Below.refl _ _) (Nat.le_refl _) (by simp) ?_; (case hd => rfl); (case hg => rfl); (case hr => first | (go_simp; done) | (go_simp; rfl)); (case hp => exact (Reps.one (show Kd.M (Kd.int .i64) _ _ _ 231 [.int .i64 231] from rfl) (Reps.one (show Kd.M (Kd.int .i64) _ _ _ 155 [.int .i64 155] from rfl) (Reps.one (show Kd.M (Kd.int .i64) _ _ _ 38 [.int .i64 38] from rfl) (Reps.one (show Kd.M (Kd.int .i64) _ _ _ 0 [.int .i64 0] from rfl) (Reps.none _ _)))))); intro v123 w24 ho25 hb hg_ hnew_; clear hg_ hnew_; (first | rw [← Ny122.out] at ho25 | (simp only [Int.reduceToNat] at ho25; rw [← Ny122.out] at ho25)); have n0_ := Aside0.mk (Kd.R_lower ho25 (below_size (by repeat (with_reducible first | exact HB.out | apply below_alloc | apply pw_below_drewN | apply below_drew1)))); have n1_ := Aside0.mk (below_step (by repeat (with_reducible first | exact HB.out | apply below_alloc | apply pw_below_drewN | apply below_drew1)) hb); clear HB; have HO124 := n0_; have HB := n1_; clear n0_ n1_; clear hb ho25))
         go_ret
         exact ⟨_, by first | rfl | (simp [errW_none, errW_some] <;> rfl) | (simp [*, errW_none, errW_some] <;> rfl), by (with_reducible repeat first | apply Kd.R_alloc | apply Kd.R_drewN | apply Kd.R_drew); exact HO124.out, by repeat (with_reducible first | exact HB.out | apply below_alloc | apply pw_below_drewN | apply below_drew1)⟩
        ·
         rw [if_neg c23] at H; have c23b0 : (a0 == 7) = false := beq_eq_false_iff_ne.mpr c23; have c23b1 : (a0 != 7) = true := bne_iff_ne.mpr c23
         by_cases c26 : a0 = 8
         ·
          rw [if_pos c26] at H; have c26b0 : (a0 == 8) = true := beq_iff_eq.mpr c26; have c26b1 : (a0 != 8) = false := bne_eq_false_iff_eq.mpr c26; clear c26
          obtain ⟨y125, hy125⟩ : ∃ y_ : List Int, y_ = (([192, 128, 64, 0] : List Int)) := ⟨_, rfl⟩
          replace H : (some y125) = some r := by first | (rw [hy125]; with_reducible exact H) | (have H2_ := (Option.bind_some _ _).symm.trans H; rw [hy125]; with_reducible exact H2_) | (have H2_ := (Option.bind_some _ _).symm.trans H; with_reducible exact H2_) | with_reducible exact H | (rw [hy125]; exact H) | exact H
          have Ny125 := Aside0.mk hy125; clear hy125
          obtain rfl := Option.some.inj H
          go_enter Try.func5, Try.ntmps5
          go_wp2_with (first | ((with_reducible refine gate_dst (N := 30) rfl ?_); refine Kd.R_lit (Kd.int .i64) _ 3 ?hg (N := 30) ?hd (xs := ([192, 128, 64, 0] : List Int)) (inner := [.int .i64 192, .int .i64 128, .int .i64 64, .int .i64 0]) (ok := fun _ => True) (okp := fun _ => True) ?hr ?hp (fun _ hk => hk) trivial (Below.refl _ _) (Nat.le_refl _) (by simp) ?_; (case hd => rfl); (case hg => rfl); (case hr => first | (go_simp; done) | (go_simp; rfl)); (case hp => exact (Reps.one (show Kd.M (Kd.int .i64) _ _ _ 192 [.int .i64 192] from rfl) (Reps.one (show Kd.M (Kd.int .i64) _ _ _ 128 [.int .i64 128] from rfl) (Reps.one (show Kd.M (Kd.int .i64) _ _ _ 64 [.int .i64 64] from rfl) (Reps.one (show Kd.M (Kd.int .i64) _ _ _ 0 [.int .i64 0] from rfl) (Reps.none _ _)))))); intro v126 w27 ho28 hb hg_ hnew_; clear hg_ hnew_; (first | rw [← Ny125.out] at ho28 | (simp only [Int.reduceToNat] at ho28; rw [← Ny125.out] at ho28)); have n0_ := Aside0.mk (Kd.R_lower ho28 (below_size (by repeat (with_reducible first | exact HB.out | apply below_alloc | apply pw_below_drewN | apply below_drew1)))); have n1_ := Aside0.mk (below_step (by repeat (with_reducible first | exact HB.out | apply below_alloc | apply pw_below_drewN | apply below_drew1)) hb); clear HB; have HO127 := n0_; have HB := n1_; clear n0_ n1_; clear hb ho28))
          go_ret
          exact ⟨_, by first | rfl | (simp [errW_none, errW_some] <;> rfl) | (simp [*, errW_none, errW_some] <;> rfl), by (with_reducible repeat first | apply Kd.R_alloc | apply Kd.R_drewN | apply Kd.R_drew); exact HO127.out, by repeat (with_reducible first | exact HB.out | apply below_alloc | apply pw_below_drewN | apply below_drew1)⟩
         ·
          rw [if_neg c26] at H; have c26b0 : (a0 == 8) = false := beq_eq_false_iff_ne.mpr c26; have c26b1 : (a0 != 8) = true := bne_iff_ne.mpr c26
          obtain rfl := Option.some.inj H
          go_enter Try.func5, Try.ntmps5
          go_wp2
          go_ret
          exact ⟨_, by first | rfl | (simp [errW_none, errW_some] <;> rfl) | (simp [*, errW_none, errW_some] <;> rfl), by first | exact Kd.R_nil _ _ _ _ _ | exact Kd.N_nil _ _ _ _ _ | exact Kd.V_nil _ _ _ _ _ | exact Kd.Q_nil _ _ _ _ _ | exact Kd.S_nil _ _ _ _ _, by repeat (with_reducible first | exact HB.out | apply below_alloc | apply pw_below_drewN | apply below_drew1)⟩

/-! ### tabs_Edges: function 7 -/
def tabs_Edges.f (a0 : Int) : Option (List Int) := (some (([0, 1, 2, 3, 4, 5, 6, 7, 8, 10, 12, 14, 16, 20, 24, 28, 34, 40, 48, 60] : List Int) : List Int)).bind fun y128 => (if a0 = 8000 then (if 14 ≤ (y128.length : Int) then (some (y128.take (14 : Int).toNat)) else (none)) else (if a0 = 16000 then (if 18 ≤ (y128.length : Int) then (some (y128.take (18 : Int).toNat)) else (none)) else (if a0 = 24000 then (some y128) else (some ([] : List Int)))))
set_option maxHeartbeats 8000000 in
set_option maxRecDepth 100000 in
theorem tabs_Edges.calls (a0 : Int) (r : List Int) (w : World) (h : tabs_Edges.f a0 = some r) :
  Calls Try.prog 7 #[.int .i64 a0] w fun e w' => ∃ v0_ : Value, e = .returned (v0_) ∧ Kd.R (Kd.int .i64) 3 w' w.heap.size (fun _ => True) v0_ r ∧ Below w.heap.size w w' := by
 have HB := Aside0.mk (Below.refl w.heap.size w)
 have H : ((some (([0, 1, 2, 3, 4, 5, 6, 7, 8, 10, 12, 14, 16, 20, 24, 28, 34, 40, 48, 60] : List Int) : List Int)).bind fun y128 => (if a0 = 8000 then (if 14 ≤ (y128.length : Int) then (some (y128.take (14 : Int).toNat)) else (none)) else (if a0 = 16000 then (if 18 ≤ (y128.length : Int) then (some (y128.take (18 : Int).toNat)) else (none)) else (if a0 = 24000 then (some y128) else (some ([] : List Int)))))) = some r := h
 clear h
 obtain ⟨y128, hy128⟩ : ∃ y_ : List Int, y_ = (([0, 1, 2, 3, 4, 5, 6, 7, 8, 10, 12, 14, 16, 20, 24, 28, 34, 40, 48, 60] : List Int)) := ⟨_, rfl⟩
 replace H : (if a0 = 8000 then (if 14 ≤ (y128.length : Int) then (some (y128.take (14 : Int).toNat)) else (none)) else (if a0 = 16000 then (if 18 ≤ (y128.length : Int) then (some (y128.take (18 : Int).toNat)) else (none)) else (if a0 = 24000 then (some y128) else (some ([] : List Int))))) = some r := by first | (rw [hy128]; with_reducible exact H) | (have H2_ := (Option.bind_some _ _).symm.trans H; rw [hy128]; with_reducible exact H2_) | (have H2_ := (Option.bind_some _ _).symm.trans H; with_reducible exact H2_) | with_reducible exact H | (rw [hy128]; exact H) | exact H
 have Ny128 := Aside0.mk hy128; clear hy128
 by_cases c2 : a0 = 8000
 ·
  rw [if_pos c2] at H; have c2b0 : (a0 == 8000) = true := beq_iff_eq.mpr c2; have c2b1 : (a0 != 8000) = false := bne_eq_false_iff_eq.mpr c2; clear c2
  by_cases c3 : 14 ≤ (y128.length : Int); rotate_left
  · rw [if_neg c3] at H; exact absurd H (by simp)
  rw [if_pos c3] at H; have c3b0 := eq_true c3; have c3b1 : decide (14 ≤ (y128.length : Int)) = true := decide_eq_true c3; clear c3
  obtain ⟨y131, hy131⟩ : ∃ y_ : List Int, y_ = (y128.take (14 : Int).toNat) := ⟨_, rfl⟩
  replace H : (some y131) = some r := by first | (rw [hy131]; with_reducible exact H) | (have H2_ := (Option.bind_some _ _).symm.trans H; rw [hy131]; with_reducible exact H2_) | (have H2_ := (Option.bind_some _ _).symm.trans H; with_reducible exact H2_) | with_reducible exact H | (rw [hy131]; exact H) | exact H
  have Ny131 := Aside0.mk hy131; clear hy131
  obtain rfl := Option.some.inj H
  go_enter Try.func7, Try.ntmps7
  go_wp2_with (first | ((with_reducible refine gate_dst (N := 4) rfl ?_); refine Kd.R_lit (Kd.int .i64) _ 3 ?hg (N := 4) ?hd (xs := ([0, 1, 2, 3, 4, 5, 6, 7, 8, 10, 12, 14, 16, 20, 24, 28, 34, 40, 48, 60] : List Int)) (inner := [.int .i64 0, .int .i64 1, .int .i64 2, .int .i64 3, .int .i64 4, .int .i64 5, .int .i64 6, .int .i64 7, .int .i64 8, .int .i64 10, .int .i64 12, .int .i64 14, .int .i64 16, .int .i64 20, .int .i64 24, .int .i64 28, .int .i64 34, .int .i64 40, .int .i64 48, .int .i64 60]) (ok := fun _ => True) (okp := fun _ => True) ?hr ?hp (fun _ hk => hk) trivial (Below.refl _ _) (Nat.le_refl _) (by simp) ?_; (case hd => rfl); (case hg => rfl); (case hr => first | (go_simp; done) | (go_simp; rfl)); (case hp => exact (Reps.one (show Kd.M (Kd.int .i64) _ _ _ 0 [.int .i64 0] from rfl) (Reps.one (show Kd.M (Kd.int .i64) _ _ _ 1 [.int .i64 1] from rfl) (Reps.one (show Kd.M (Kd.int .i64) _ _ _ 2 [.int .i64 2] from rfl) (Reps.one (show Kd.M (Kd.int .i64) _ _ _ 3 [.int .i64 3] from rfl) (Reps.one (show Kd.M (Kd.int .i64) _ _ _ 4 [.int .i64 4] from rfl) (Reps.one (show Kd.M (Kd.int .i64) _ _ _ 5 [.int .i64 5] from rfl) (Reps.one (show Kd.M (Kd.int .i64) _ _ _ 6 [.int .i64 6] from rfl) (Reps.one (show Kd.M (Kd.int .i64) _ _ _ 7 [.int .i64 7] from rfl) (Reps.one (show Kd.M (Kd.int .i64) _ _ _ 8 [.int .i64 8] from rfl) (Reps.one (show Kd.M (Kd.int .i64) _ _ _ 10 [.int .i64 10] from rfl) (Reps.one (show Kd.M (Kd.int .i64) _ _ _ 12 [.int .i64 12] from rfl) (Reps.one (show Kd.M (Kd.int .i64) _ _ _ 14 [.int .i64 14] from rfl) (Reps.one (show Kd.M (Kd.int .i64) _ _ _ 16 [.int .i64 16] from rfl) (Reps.one (show Kd.M (Kd.int .i64) _ _ _ 20 [.int .i64 20] from rfl) (Reps.one (show Kd.M (Kd.int .i64) _ _ _ 24 [.int .i64 24] from rfl) (Reps.one (show Kd.M (Kd.int .i64) _ _ _ 28 [.int .i64 28] from rfl) (Reps.one (show Kd.M (Kd.int .i64) _ _ _ 34 [.int .i64 34] from rfl) (Reps.one (show Kd.M (Kd.int .i64) _ _ _ 40 [.int .i64 40] from rfl) (Reps.one (show Kd.M (Kd.int .i64) _ _ _ 48 [.int .i64 48] from rfl) (Reps.one (show Kd.M (Kd.int .i64) _ _ _ 60 [.int .i64 60] from rfl) (Reps.none _ _)))))))))))))))))))))); intro v129 w4 ho5 hb hg_ hnew_; clear hg_ hnew_; (first | rw [← Ny128.out] at ho5 | (simp only [Int.reduceToNat] at ho5; rw [← Ny128.out] at ho5)); have n0_ := Aside0.mk (Kd.R_lower ho5 (below_size (by repeat (with_reducible first | exact HB.out | apply below_alloc | apply pw_below_drewN | apply below_drew1)))); have n1_ := Aside0.mk (below_step (by repeat (with_reducible first | exact HB.out | apply below_alloc | apply pw_below_drewN | apply below_drew1)) hb); clear HB; have HO130 := n0_; have HB := n1_; clear n0_ n1_; clear hb ho5; obtain ⟨Ao6, co6, eo6⟩ := Kd.R_slice HO130.out; subst eo6; have q7 : (14 : Int) ≤ ((y128.length : Int) : Int) := of_decide_eq_true (by first | (with_reducible assumption) | assumption); obtain ⟨i07, hi07, _, hsz7, _⟩ := info_parts info3; have hcut7 := cut_to (P := Try.prog) 23 3 .i64 Try.underlying23 hi07 Ao6 y128.length co6 14 (by omega) q7 (Kd.R_reads' HO130.out).2.1; have hr7 := Kd.R_take (m := (14 : Int).toNat) HO130.out (by omega); have hy7 : y131.length = (14 : Int).toNat := (by rw [Ny131.out, List.length_take]; omega); rw [← Ny131.out] at hr7; rw [← hy7] at hr7 hcut7; clear hy7 hi07 hsz7 HO130; have HO133 := Aside0.mk hr7; clear hr7; replace q7 := eq_true q7))
  go_ret
  exact ⟨_, by first | rfl | (simp [errW_none, errW_some] <;> rfl) | (simp [*, errW_none, errW_some] <;> rfl), by (with_reducible repeat first | apply Kd.R_alloc | apply Kd.R_drewN | apply Kd.R_drew); exact HO133.out, by repeat (with_reducible first | exact HB.out | apply below_alloc | apply pw_below_drewN | apply below_drew1)⟩
 ·
  rw [if_neg c2] at H; have c2b0 : (a0 == 8000) = false := beq_eq_false_iff_ne.mpr c2; have c2b1 : (a0 != 8000) = true := bne_iff_ne.mpr c2
  by_cases c8 : a0 = 16000
  ·
   rw [if_pos c8] at H; have c8b0 : (a0 == 16000) = true := beq_iff_eq.mpr c8; have c8b1 : (a0 != 16000) = false := bne_eq_false_iff_eq.mpr c8; clear c8
   by_cases c9 : 18 ≤ (y128.length : Int); rotate_left
   · rw [if_neg c9] at H; exact absurd H (by simp)
   rw [if_pos c9] at H; have c9b0 := eq_true c9; have c9b1 : decide (18 ≤ (y128.length : Int)) = true := decide_eq_true c9; clear c9
   obtain ⟨y134, hy134⟩ : ∃ y_ : List Int, y_ = (y128.take (18 : Int).toNat) := ⟨_, rfl⟩
   replace H : (some y134) = some r := by first | (rw [hy134]; with_reducible exact H) | (have H2_ := (Option.bind_some _ _).symm.trans H; rw [hy134]; with_reducible exact H2_) | (have H2_ := (Option.bind_some _ _).symm.trans H; with_reducible exact H2_) | with_reducible exact H | (rw [hy134]; exact H) | exact H
   have Ny134 := Aside0.mk hy134; clear hy134
   obtain rfl := Option.some.inj H
   go_enter Try.func7, Try.ntmps7
   go_wp2_with (first | ((with_reducible refine gate_dst (N := 4) rfl ?_); refine Kd.R_lit (Kd.int .i64) _ 3 ?hg (N := 4) ?hd (xs := ([0, 1, 2, 3, 4, 5, 6, 7, 8, 10, 12, 14, 16, 20, 24, 28, 34, 40, 48, 60] : List Int)) (inner := [.int .i64 0, .int .i64 1, .int .i64 2, .int .i64 3, .int .i64 4, .int .i64 5, .int .i64 6, .int .i64 7, .int .i64 8, .int .i64 10, .int .i64 12, .int .i64 14, .int .i64 16, .int .i64 20, .int .i64 24, .int .i64 28, .int .i64 34, .int .i64 40, .int .i64 48, .int .i64 60]) (ok := fun _ => True) (okp := fun _ => True) ?hr ?hp (fun _ hk => hk) trivial (Below.refl _ _) (Nat.le_refl _) (by simp) ?_; (case hd => rfl); (case hg => rfl); (case hr => first | (go_simp; done) | (go_simp; rfl)); (case hp => exact (Reps.one (show Kd.M (Kd.int .i64) _ _ _ 0 [.int .i64 0] from rfl) (Reps.one (show Kd.M (Kd.int .i64) _ _ _ 1 [.int .i64 1] from rfl) (Reps.one (show Kd.M (Kd.int .i64) _ _ _ 2 [.int .i64 2] from rfl) (Reps.one (show Kd.M (Kd.int .i64) _ _ _ 3 [.int .i64 3] from rfl) (Reps.one (show Kd.M (Kd.int .i64) _ _ _ 4 [.int .i64 4] from rfl) (Reps.one (show Kd.M (Kd.int .i64) _ _ _ 5 [.int .i64 5] from rfl) (Reps.one (show Kd.M (Kd.int .i64) _ _ _ 6 [.int .i64 6] from rfl) (Reps.one (show Kd.M (Kd.int .i64) _ _ _ 7 [.int .i64 7] from rfl) (Reps.one (show Kd.M (Kd.int .i64) _ _ _ 8 [.int .i64 8] from rfl) (Reps.one (show Kd.M (Kd.int .i64) _ _ _ 10 [.int .i64 10] from rfl) (Reps.one (show Kd.M (Kd.int .i64) _ _ _ 12 [.int .i64 12] from rfl) (Reps.one (show Kd.M (Kd.int .i64) _ _ _ 14 [.int .i64 14] from rfl) (Reps.one (show Kd.M (Kd.int .i64) _ _ _ 16 [.int .i64 16] from rfl) (Reps.one (show Kd.M (Kd.int .i64) _ _ _ 20 [.int .i64 20] from rfl) (Reps.one (show Kd.M (Kd.int .i64) _ _ _ 24 [.int .i64 24] from rfl) (Reps.one (show Kd.M (Kd.int .i64) _ _ _ 28 [.int .i64 28] from rfl) (Reps.one (show Kd.M (Kd.int .i64) _ _ _ 34 [.int .i64 34] from rfl) (Reps.one (show Kd.M (Kd.int .i64) _ _ _ 40 [.int .i64 40] from rfl) (Reps.one (show Kd.M (Kd.int .i64) _ _ _ 48 [.int .i64 48] from rfl) (Reps.one (show Kd.M (Kd.int .i64) _ _ _ 60 [.int .i64 60] from rfl) (Reps.none _ _)))))))))))))))))))))); intro v129 w10 ho11 hb hg_ hnew_; clear hg_ hnew_; (first | rw [← Ny128.out] at ho11 | (simp only [Int.reduceToNat] at ho11; rw [← Ny128.out] at ho11)); have n0_ := Aside0.mk (Kd.R_lower ho11 (below_size (by repeat (with_reducible first | exact HB.out | apply below_alloc | apply pw_below_drewN | apply below_drew1)))); have n1_ := Aside0.mk (below_step (by repeat (with_reducible first | exact HB.out | apply below_alloc | apply pw_below_drewN | apply below_drew1)) hb); clear HB; have HO130 := n0_; have HB := n1_; clear n0_ n1_; clear hb ho11; obtain ⟨Ao12, co12, eo12⟩ := Kd.R_slice HO130.out; subst eo12; have q13 : (18 : Int) ≤ ((y128.length : Int) : Int) := of_decide_eq_true (by first | (with_reducible assumption) | assumption); obtain ⟨i013, hi013, _, hsz13, _⟩ := info_parts info3; have hcut13 := cut_to (P := Try.prog) 23 3 .i64 Try.underlying23 hi013 Ao12 y128.length co12 18 (by omega) q13 (Kd.R_reads' HO130.out).2.1; have hr13 := Kd.R_take (m := (18 : Int).toNat) HO130.out (by omega); have hy13 : y134.length = (18 : Int).toNat := (by rw [Ny134.out, List.length_take]; omega); rw [← Ny134.out] at hr13; rw [← hy13] at hr13 hcut13; clear hy13 hi013 hsz13 HO130; have HO136 := Aside0.mk hr13; clear hr13; replace q13 := eq_true q13))
   go_ret
   exact ⟨_, by first | rfl | (simp [errW_none, errW_some] <;> rfl) | (simp [*, errW_none, errW_some] <;> rfl), by (with_reducible repeat first | apply Kd.R_alloc | apply Kd.R_drewN | apply Kd.R_drew); exact HO136.out, by repeat (with_reducible first | exact HB.out | apply below_alloc | apply pw_below_drewN | apply below_drew1)⟩
  ·
   rw [if_neg c8] at H; have c8b0 : (a0 == 16000) = false := beq_eq_false_iff_ne.mpr c8; have c8b1 : (a0 != 16000) = true := bne_iff_ne.mpr c8
   by_cases c14 : a0 = 24000
   ·
    rw [if_pos c14] at H; have c14b0 : (a0 == 24000) = true := beq_iff_eq.mpr c14; have c14b1 : (a0 != 24000) = false := bne_eq_false_iff_eq.mpr c14; clear c14
    obtain rfl := Option.some.inj H
    go_enter Try.func7, Try.ntmps7
    go_wp2_with (first | ((with_reducible refine gate_dst (N := 4) rfl ?_); refine Kd.R_lit (Kd.int .i64) _ 3 ?hg (N := 4) ?hd (xs := ([0, 1, 2, 3, 4, 5, 6, 7, 8, 10, 12, 14, 16, 20, 24, 28, 34, 40, 48, 60] : List Int)) (inner := [.int .i64 0, .int .i64 1, .int .i64 2, .int .i64 3, .int .i64 4, .int .i64 5, .int .i64 6, .int .i64 7, .int .i64 8, .int .i64 10, .int .i64 12, .int .i64 14, .int .i64 16, .int .i64 20, .int .i64 24, .int .i64 28, .int .i64 34, .int .i64 40, .int .i64 48, .int .i64 60]) (ok := fun _ => True) (okp := fun _ => True) ?hr ?hp (fun _ hk => hk) trivial (Below.refl _ _) (Nat.le_refl _) (by simp) ?_; (case hd => rfl); (case hg => rfl); (case hr => first | (go_simp; done) | (go_simp; rfl)); (case hp => exact (Reps.one (show Kd.M (Kd.int .i64) _ _ _ 0 [.int .i64 0] from rfl) (Reps.one (show Kd.M (Kd.int .i64) _ _ _ 1 [.int .i64 1] from rfl) (Reps.one (show Kd.M (Kd.int .i64) _ _ _ 2 [.int .i64 2] from rfl) (Reps.one (show Kd.M (Kd.int .i64) _ _ _ 3 [.int .i64 3] from rfl) (Reps.one (show Kd.M (Kd.int .i64) _ _ _ 4 [.int .i64 4] from rfl) (Reps.one (show Kd.M (Kd.int .i64) _ _ _ 5 [.int .i64 5] from rfl) (Reps.one (show Kd.M (Kd.int .i64) _ _ _ 6 [.int .i64 6] from rfl) (Reps.one (show Kd.M (Kd.int .i64) _ _ _ 7 [.int .i64 7] from rfl) (Reps.one (show Kd.M (Kd.int .i64) _ _ _ 8 [.int .i64 8] from rfl) (Reps.one (show Kd.M (Kd.int .i64) _ _ _ 10 [.int .i64 10] from rfl) (Reps.one (show Kd.M (Kd.int .i64) _ _ _ 12 [.int .i64 12] from rfl) (Reps.one (show Kd.M (Kd.int .i64) _ _ _ 14 [.int .i64 14] from rfl) (Reps.one (show Kd.M (Kd.int .i64) _ _ _ 16 [.int .i64 16] from rfl) (Reps.one (show Kd.M (Kd.int .i64) _ _ _ 20 [.int .i64 20] from rfl) (Reps.one (show Kd.M (Kd.int .i64) _ _ _ 24 [.int .i64 24] from rfl) (Reps.one (show Kd.M (Kd.int .i64) _ _ _ 28 [.int .i64 28] from rfl) (Reps.one (show Kd.M (Kd.int .i64) _ _ _ 34 [.int .i64 34] from rfl) (Reps.one (show Kd.M (Kd.int .i64) _ _ _ 40 [.int .i64 40] from rfl) (Reps.one (show Kd.M (Kd.int .i64) _ _ _ 48 [.int .i64 48] from rfl) (Reps.one (show Kd.M (Kd.int .i64) _ _ _ 60 [.int .i64 60] from rfl) (Reps.none _ _)))))))))))))))))))))); intro v129 w15 ho16 hb hg_ hnew_; clear hg_ hnew_; (first | rw [← Ny128.out] at ho16 | (simp only [Int.reduceToNat] at ho16; rw [← Ny128.out] at ho16)); have n0_ := Aside0.mk (Kd.R_lower ho16 (below_size (by repeat (with_reducible first | exact HB.out | apply below_alloc | apply pw_below_drewN | apply below_drew1)))); have n1_ := Aside0.mk (below_step (by repeat (with_reducible first | exact HB.out | apply below_alloc | apply pw_below_drewN | apply below_drew1)) hb); clear HB; have HO130 := n0_; have HB := n1_; clear n0_ n1_; clear hb ho16))
    go_ret
    exact ⟨_, by first | rfl | (simp [errW_none, errW_some] <;> rfl) | (simp [*, errW_none, errW_some] <;> rfl), by (with_reducible repeat first | apply Kd.R_alloc | apply Kd.R_drewN | apply Kd.R_drew); exact HO130.out, by repeat (with_reducible first | exact HB.out | apply below_alloc | apply pw_below_drewN | apply below_drew1)⟩
   ·
    rw [if_neg c14] at H; have c14b0 : (a0 == 24000) = false := beq_eq_false_iff_ne.mpr c14; have c14b1 : (a0 != 24000) = true := bne_iff_ne.mpr c14
    obtain rfl := Option.some.inj H
    go_enter Try.func7, Try.ntmps7
    go_wp2_with (first | ((with_reducible refine gate_dst (N := 4) rfl ?_); refine Kd.R_lit (Kd.int .i64) _ 3 ?hg (N := 4) ?hd (xs := ([0, 1, 2, 3, 4, 5, 6, 7, 8, 10, 12, 14, 16, 20, 24, 28, 34, 40, 48, 60] : List Int)) (inner := [.int .i64 0, .int .i64 1, .int .i64 2, .int .i64 3, .int .i64 4, .int .i64 5, .int .i64 6, .int .i64 7, .int .i64 8, .int .i64 10, .int .i64 12, .int .i64 14, .int .i64 16, .int .i64 20, .int .i64 24, .int .i64 28, .int .i64 34, .int .i64 40, .int .i64 48, .int .i64 60]) (ok := fun _ => True) (okp := fun _ => True) ?hr ?hp (fun _ hk => hk) trivial (Below.refl _ _) (Nat.le_refl _) (by simp) ?_; (case hd => rfl); (case hg => rfl); (case hr => first | (go_simp; done) | (go_simp; rfl)); (case hp => exact (Reps.one (show Kd.M (Kd.int .i64) _ _ _ 0 [.int .i64 0] from rfl) (Reps.one (show Kd.M (Kd.int .i64) _ _ _ 1 [.int .i64 1] from rfl) (Reps.one (show Kd.M (Kd.int .i64) _ _ _ 2 [.int .i64 2] from rfl) (Reps.one (show Kd.M (Kd.int .i64) _ _ _ 3 [.int .i64 3] from rfl) (Reps.one (show Kd.M (Kd.int .i64) _ _ _ 4 [.int .i64 4] from rfl) (Reps.one (show Kd.M (Kd.int .i64) _ _ _ 5 [.int .i64 5] from rfl) (Reps.one (show Kd.M (Kd.int .i64) _ _ _ 6 [.int .i64 6] from rfl) (Reps.one (show Kd.M (Kd.int .i64) _ _ _ 7 [.int .i64 7] from rfl) (Reps.one (show Kd.M (Kd.int .i64) _ _ _ 8 [.int .i64 8] from rfl) (Reps.one (show Kd.M (Kd.int .i64) _ _ _ 10 [.int .i64 10] from rfl) (Reps.one (show Kd.M (Kd.int .i64) _ _ _ 12 [.int .i64 12] from rfl) (Reps.one (show Kd.M (Kd.int .i64) _ _ _ 14 [.int .i64 14] from rfl) (Reps.one (show Kd.M (Kd.int .i64) _ _ _ 16 [.int .i64 16] from rfl) (Reps.one (show Kd.M (Kd.int .i64) _ _ _ 20 [.int .i64 20] from rfl) (Reps.one (show Kd.M (Kd.int .i64) _ _ _ 24 [.int .i64 24] from rfl) (Reps.one (show Kd.M (Kd.int .i64) _ _ _ 28 [.int .i64 28] from rfl) (Reps.one (show Kd.M (Kd.int .i64) _ _ _ 34 [.int .i64 34] from rfl) (Reps.one (show Kd.M (Kd.int .i64) _ _ _ 40 [.int .i64 40] from rfl) (Reps.one (show Kd.M (Kd.int .i64) _ _ _ 48 [.int .i64 48] from rfl) (Reps.one (show Kd.M (Kd.int .i64) _ _ _ 60 [.int .i64 60] from rfl) (Reps.none _ _)))))))))))))))))))))); intro v129 w17 ho18 hb hg_ hnew_; clear hg_ hnew_; (first | rw [← Ny128.out] at ho18 | (simp only [Int.reduceToNat] at ho18; rw [← Ny128.out] at ho18)); have n0_ := Aside0.mk (Kd.R_lower ho18 (below_size (by repeat (with_reducible first | exact HB.out | apply below_alloc | apply pw_below_drewN | apply below_drew1)))); have n1_ := Aside0.mk (below_step (by repeat (with_reducible first | exact HB.out | apply below_alloc | apply pw_below_drewN | apply below_drew1)) hb); clear HB; have HO130 := n0_; have HB := n1_; clear n0_ n1_; clear hb ho18))
    go_ret
    exact ⟨_, by first | rfl | (simp [errW_none, errW_some] <;> rfl) | (simp [*, errW_none, errW_some] <;> rfl), by first | exact Kd.R_nil _ _ _ _ _ | exact Kd.N_nil _ _ _ _ _ | exact Kd.V_nil _ _ _ _ _ | exact Kd.Q_nil _ _ _ _ _ | exact Kd.S_nil _ _ _ _ _, by repeat (with_reducible first | exact HB.out | apply below_alloc | apply pw_below_drewN | apply below_drew1)⟩

/-! ### tabs_Bins: function 9 -/
def tabs_Bins.f (a0 : Int) (a1 : Int) (a2 : Int) : Option (Int × Int) := (tabs_Edges.f a0).bind fun t137 => (if a1 = 10 then (if a2 < 0 then (some (0, 0)) else (if a2 ≥ (wrap64 ((t137.length : Int) - 1)) then (some (0, 0)) else (if 0 ≤ a2 then (if a2 < (t137.length : Int) then (if 0 ≤ (wrap64 (a2 + 1)) then (if (wrap64 (a2 + 1)) < (t137.length : Int) then (some (wrap64 (Int.tdiv (wrap64 ((wrap64 ((rd t137 a2) * a1)) * 2)) 5), wrap64 (Int.tdiv (wrap64 ((wrap64 ((rd t137 (wrap64 (a2 + 1))) * a1)) * 2)) 5))) else (none)) else (none)) else (none)) else (none)))) else (if a1 = 20 then (if a2 < 0 then (some (0, 0)) else (if a2 ≥ (wrap64 ((t137.length : Int) - 1)) then (some (0, 0)) else (if 0 ≤ a2 then (if a2 < (t137.length : Int) then (if 0 ≤ (wrap64 (a2 + 1)) then (if (wrap64 (a2 + 1)) < (t137.length : Int) then (some (wrap64 (Int.tdiv (wrap64 ((wrap64 ((rd t137 a2) * a1)) * 2)) 5), wrap64 (Int.tdiv (wrap64 ((wrap64 ((rd t137 (wrap64 (a2 + 1))) * a1)) * 2)) 5))) else (none)) else (none)) else (none)) else (none)))) else (some (0, 0))))
set_option maxHeartbeats 8000000 in
set_option maxRecDepth 100000 in
theorem tabs_Bins.calls (a0 : Int) (a1 : Int) (a2 : Int) (r1 : Int) (r2 : Int) (w : World) (h : tabs_Bins.f a0 a1 a2 = some (r1, r2)) :
  Calls Try.prog 9 #[.int .i64 a0, .int .i64 a1, .int .i64 a2] w fun e w' => e = .returned (.tuple #[.int .i64 r1, .int .i64 r2]) ∧ Below w.heap.size w w' := by
 have HB := Aside0.mk (Below.refl w.heap.size w)
 have H : ((tabs_Edges.f a0).bind fun t137 => (if a1 = 10 then (if a2 < 0 then (some (0, 0)) else (if a2 ≥ (wrap64 ((t137.length : Int) - 1)) then (some (0, 0)) else (if 0 ≤ a2 then (if a2 < (t137.length : Int) then (if 0 ≤ (wrap64 (a2 + 1)) then (if (wrap64 (a2 + 1)) < (t137.length : Int) then (some (wrap64 (Int.tdiv (wrap64 ((wrap64 ((rd t137 a2) * a1)) * 2)) 5), wrap64 (Int.tdiv (wrap64 ((wrap64 ((rd t137 (wrap64 (a2 + 1))) * a1)) * 2)) 5))) else (none)) else (none)) else (none)) else (none)))) else (if a1 = 20 then (if a2 < 0 then (some (0, 0)) else (if a2 ≥ (wrap64 ((t137.length : Int) - 1)) then (some (0, 0)) else (if 0 ≤ a2 then (if a2 < (t137.length : Int) then (if 0 ≤ (wrap64 (a2 + 1)) then (if (wrap64 (a2 + 1)) < (t137.length : Int) then (some (wrap64 (Int.tdiv (wrap64 ((wrap64 ((rd t137 a2) * a1)) * 2)) 5), wrap64 (Int.tdiv (wrap64 ((wrap64 ((rd t137 (wrap64 (a2 + 1))) * a1)) * 2)) 5))) else (none)) else (none)) else (none)) else (none)))) else (some (0, 0))))) = some (r1, r2) := h
 clear h; replace H := Option.bind_eq_some_iff.mp H; obtain ⟨t137, A40, H⟩ := H
 replace H : (if a1 = 10 then (if a2 < 0 then (some (0, 0)) else (if a2 ≥ (wrap64 ((t137.length : Int) - 1)) then (some (0, 0)) else (if 0 ≤ a2 then (if a2 < (t137.length : Int) then (if 0 ≤ (wrap64 (a2 + 1)) then (if (wrap64 (a2 + 1)) < (t137.length : Int) then (some (wrap64 (Int.tdiv (wrap64 ((wrap64 ((rd t137 a2) * a1)) * 2)) 5), wrap64 (Int.tdiv (wrap64 ((wrap64 ((rd t137 (wrap64 (a2 + 1))) * a1)) * 2)) 5))) else (none)) else (none)) else (none)) else (none)))) else (if a1 = 20 then (if a2 < 0 then (some (0, 0)) else (if a2 ≥ (wrap64 ((t137.length : Int) - 1)) then (some (0, 0)) else (if 0 ≤ a2 then (if a2 < (t137.length : Int) then (if 0 ≤ (wrap64 (a2 + 1)) then (if (wrap64 (a2 + 1)) < (t137.length : Int) then (some (wrap64 (Int.tdiv (wrap64 ((wrap64 ((rd t137 a2) * a1)) * 2)) 5), wrap64 (Int.tdiv (wrap64 ((wrap64 ((rd t137 (wrap64 (a2 + 1))) * a1)) * 2)) 5))) else (none)) else (none)) else (none)) else (none)))) else (some (0, 0)))) = some (r1, r2) := H
 have A4 := Aside0.mk A40; clear A40
 by_cases c5 : a1 = 10
 ·
  rw [if_pos c5] at H; have c5b0 : (a1 == 10) = true := beq_iff_eq.mpr c5; have c5b1 : (a1 != 10) = false := bne_eq_false_iff_eq.mpr c5; clear c5
  by_cases c6 : a2 < 0
  ·
   rw [if_pos c6] at H; have c6b0 : decide (a2 < 0) = true := decide_eq_true c6; clear c6
   simp only [Option.some.injEq, Prod.mk.injEq] at H
   obtain ⟨rfl, rfl⟩ := H
   go_enter Try.func9, Try.ntmps9
   go_wp2_with (first | (go_at_call 7; (with_reducible refine (tabs_Edges.calls a0 t137 _ A4.out).mono ?_); rintro e w7 ⟨v138, rfl, ho0, hb⟩; have n0_ := Aside0.mk (Kd.R_lower ho0 (below_size (by repeat (with_reducible first | exact HB.out | apply below_alloc | apply pw_below_drewN | apply below_drew1)))); have n1_ := Aside0.mk (below_step (by repeat (with_reducible first | exact HB.out | apply below_alloc | apply pw_below_drewN | apply below_drew1)) hb); clear HB; have HO139 := n0_; have HB := n1_; clear n0_ n1_; (try clear hb); (try clear hb2); (try clear hk); (try clear hi); (try clear ho0)))
   repeat (go_quiet (first | (go_at_call 7; (with_reducible refine (tabs_Edges.calls a0 t137 _ A4.out).mono ?_); rintro e w7 ⟨v138, rfl, ho0, hb⟩; have n0_ := Aside0.mk (Kd.R_lower ho0 (below_size (by repeat (with_reducible first | exact HB.out | apply below_alloc | apply pw_below_drewN | apply below_drew1)))); have n1_ := Aside0.mk (below_step (by repeat (with_reducible first | exact HB.out | apply below_alloc | apply pw_below_drewN | apply below_drew1)) hb); clear HB; have HO139 := n0_; have HB := n1_; clear n0_ n1_; (try clear hb); (try clear hb2); (try clear hk); (try clear hi); (try clear ho0))); try go_wp2_with (first | (go_at_call 7; (with_reducible refine (tabs_Edges.calls a0 t137 _ A4.out).mono ?_); rintro e w7 ⟨v138, rfl, ho0, hb⟩; have n0_ := Aside0.mk (Kd.R_lower ho0 (below_size (by repeat (with_reducible first | exact HB.out | apply below_alloc | apply pw_below_drewN | apply below_drew1)))); have n1_ := Aside0.mk (below_step (by repeat (with_reducible first | exact HB.out | apply below_alloc | apply pw_below_drewN | apply below_drew1)) hb); clear HB; have HO139 := n0_; have HB := n1_; clear n0_ n1_; (try clear hb); (try clear hb2); (try clear hk); (try clear hi); (try clear ho0))))
   go_ret2
   exact ⟨by first | rfl | (simp [errW_none, errW_some] <;> rfl) | (simp [*, errW_none, errW_some] <;> rfl), by repeat (with_reducible first | exact HB.out | apply below_alloc | apply pw_below_drewN | apply below_drew1)⟩
  ·
   rw [if_neg c6] at H; have c6b0 : decide (a2 < 0) = false := decide_eq_false c6; clear c6
   by_cases c8 : a2 ≥ (wrap64 ((t137.length : Int) - 1))
   ·
    rw [if_pos c8] at H; have c8b0 : decide ((wrap64 ((t137.length : Int) - 1)) ≤ a2) = true := decide_eq_true c8; clear c8
    simp only [Option.some.injEq, Prod.mk.injEq] at H
    obtain ⟨rfl, rfl⟩ := H
    go_enter Try.func9, Try.ntmps9
    go_wp2_with (first | (go_at_call 7; (with_reducible refine (tabs_Edges.calls a0 t137 _ A4.out).mono ?_); rintro e w9 ⟨v138, rfl, ho0, hb⟩; have n0_ := Aside0.mk (Kd.R_lower ho0 (below_size (by repeat (with_reducible first | exact HB.out | apply below_alloc | apply pw_below_drewN | apply below_drew1)))); have n1_ := Aside0.mk (below_step (by repeat (with_reducible first | exact HB.out | apply below_alloc | apply pw_below_drewN | apply below_drew1)) hb); clear HB; have HO139 := n0_; have HB := n1_; clear n0_ n1_; (try clear hb); (try clear hb2); (try clear hk); (try clear hi); (try clear ho0); obtain ⟨Ao10, co10, eo10⟩ := Kd.R_slice HO139.out; subst eo10))
    repeat (go_quiet (first | (go_at_call 7; (with_reducible refine (tabs_Edges.calls a0 t137 _ A4.out).mono ?_); rintro e w9 ⟨v138, rfl, ho0, hb⟩; have n0_ := Aside0.mk (Kd.R_lower ho0 (below_size (by repeat (with_reducible first | exact HB.out | apply below_alloc | apply pw_below_drewN | apply below_drew1)))); have n1_ := Aside0.mk (below_step (by repeat (with_reducible first | exact HB.out | apply below_alloc | apply pw_below_drewN | apply below_drew1)) hb); clear HB; have HO139 := n0_; have HB := n1_; clear n0_ n1_; (try clear hb); (try clear hb2); (try clear hk); (try clear hi); (try clear ho0); obtain ⟨Ao10, co10, eo10⟩ := Kd.R_slice HO139.out; subst eo10)); try go_wp2_with (first | (go_at_call 7; (with_reducible refine (tabs_Edges.calls a0 t137 _ A4.out).mono ?_); rintro e w9 ⟨v138, rfl, ho0, hb⟩; have n0_ := Aside0.mk (Kd.R_lower ho0 (below_size (by repeat (with_reducible first | exact HB.out | apply below_alloc | apply pw_below_drewN | apply below_drew1)))); have n1_ := Aside0.mk (below_step (by repeat (with_reducible first | exact HB.out | apply below_alloc | apply pw_below_drewN | apply below_drew1)) hb); clear HB; have HO139 := n0_; have HB := n1_; clear n0_ n1_; (try clear hb); (try clear hb2); (try clear hk); (try clear hi); (try clear ho0); obtain ⟨Ao10, co10, eo10⟩ := Kd.R_slice HO139.out; subst eo10)))
    go_ret2
    exact ⟨by first | rfl | (simp [errW_none, errW_some] <;> rfl) | (simp [*, errW_none, errW_some] <;> rfl), by repeat (with_reducible first | exact HB.out | apply below_alloc | apply pw_below_drewN | apply below_drew1)⟩
   ·
    rw [if_neg c8] at H; have c8b0 : decide ((wrap64 ((t137.length : Int) - 1)) ≤ a2) = false := decide_eq_false c8; clear c8
    by_cases c11 : 0 ≤ a2; rotate_left
    · rw [if_neg c11] at H; exact absurd H (by simp)
    rw [if_pos c11] at H; have c11b0 : decide (0 ≤ a2) = true := decide_eq_true c11; clear c11
    by_cases c12 : a2 < (t137.length : Int); rotate_left
    · rw [if_neg c12] at H; exact absurd H (by simp)
    rw [if_pos c12] at H; have c12b0 : decide (a2 < (t137.length : Int)) = true := decide_eq_true c12; clear c12
    obtain ⟨ji13, hji13⟩ : ∃ j_ : Int, (wrap64 (a2 + 1)) = j_ := ⟨_, rfl⟩
    replace H : (if 0 ≤ (ji13) then (if (ji13) < (t137.length : Int) then (some (wrap64 (Int.tdiv (wrap64 ((wrap64 ((rd t137 a2) * a1)) * 2)) 5), wrap64 (Int.tdiv (wrap64 ((wrap64 ((rd t137 (ji13)) * a1)) * 2)) 5))) else (none)) else (none)) = some (r1, r2) := by first | (rw [hji13] at H; exact H) | (simp only [hji13] at H ⊢; exact H)
    (try rw [hji13] at A4)
    have hji13w : (IntKind.i64.wrap (a2 + 1)) = ji13 := (i64_w _).trans hji13
    by_cases c14 : 0 ≤ (ji13); rotate_left
    · rw [if_neg c14] at H; exact absurd H (by simp)
    rw [if_pos c14] at H; have c14b0 : decide (0 ≤ (ji13)) = true := decide_eq_true c14; clear c14
    by_cases c15 : (ji13) < (t137.length : Int); rotate_left
    · rw [if_neg c15] at H; exact absurd H (by simp)
    rw [if_pos c15] at H; have c15b0 : decide ((ji13) < (t137.length : Int)) = true := decide_eq_true c15; clear c15
    simp only [Option.some.injEq, Prod.mk.injEq] at H
    obtain ⟨rfl, rfl⟩ := H
    go_enter Try.func9, Try.ntmps9
    go_wp2_with (first | (go_at_call 7; (with_reducible refine (tabs_Edges.calls a0 t137 _ A4.out).mono ?_); rintro e w16 ⟨v138, rfl, ho0, hb⟩; have n0_ := Aside0.mk (Kd.R_lower ho0 (below_size (by repeat (with_reducible first | exact HB.out | apply below_alloc | apply pw_below_drewN | apply below_drew1)))); have n1_ := Aside0.mk (below_step (by repeat (with_reducible first | exact HB.out | apply below_alloc | apply pw_below_drewN | apply below_drew1)) hb); clear HB; have HO139 := n0_; have HB := n1_; clear n0_ n1_; (try clear hb); (try clear hb2); (try clear hk); (try clear hi); (try clear ho0); obtain ⟨Ao17, co17, eo17⟩ := Kd.R_slice HO139.out; subst eo17; have p140 : 0 ≤ (a2 : Int) := of_decide_eq_true (by first | (with_reducible assumption) | assumption); have q140 : a2 < (t137.length : Int) := of_decide_eq_true (by first | (with_reducible assumption) | assumption); obtain ⟨ad140, e140, hx140_0⟩ := Kd.at_int (Kd.R_reads' HO139.out).2.2 a2 p140 q140; cases e140; replace p140 := eq_true p140; replace q140 := eq_true q140; have p141 : 0 ≤ ((ji13) : Int) := of_decide_eq_true (by first | (with_reducible assumption) | assumption); have q141 : (ji13) < (t137.length : Int) := of_decide_eq_true (by first | (with_reducible assumption) | assumption); obtain ⟨ad141, e141, hx141_0⟩ := Kd.at_int (Kd.R_reads' HO139.out).2.2 (ji13) p141 q141; obtain rfl : ad140 = ad141 := (by injection e141); replace p141 := eq_true p141; replace q141 := eq_true q141))
    repeat (go_quiet (first | (go_at_call 7; (with_reducible refine (tabs_Edges.calls a0 t137 _ A4.out).mono ?_); rintro e w16 ⟨v138, rfl, ho0, hb⟩; have n0_ := Aside0.mk (Kd.R_lower ho0 (below_size (by repeat (with_reducible first | exact HB.out | apply below_alloc | apply pw_below_drewN | apply below_drew1)))); have n1_ := Aside0.mk (below_step (by repeat (with_reducible first | exact HB.out | apply below_alloc | apply pw_below_drewN | apply below_drew1)) hb); clear HB; have HO139 := n0_; have HB := n1_; clear n0_ n1_; (try clear hb); (try clear hb2); (try clear hk); (try clear hi); (try clear ho0); obtain ⟨Ao17, co17, eo17⟩ := Kd.R_slice HO139.out; subst eo17; have p140 : 0 ≤ (a2 : Int) := of_decide_eq_true (by first | (with_reducible assumption) | assumption); have q140 : a2 < (t137.length : Int) := of_decide_eq_true (by first | (with_reducible assumption) | assumption); obtain ⟨ad140, e140, hx140_0⟩ := Kd.at_int (Kd.R_reads' HO139.out).2.2 a2 p140 q140; cases e140; replace p140 := eq_true p140; replace q140 := eq_true q140; have p141 : 0 ≤ ((ji13) : Int) := of_decide_eq_true (by first | (with_reducible assumption) | assumption); have q141 : (ji13) < (t137.length : Int) := of_decide_eq_true (by first | (with_reducible assumption) | assumption); obtain ⟨ad141, e141, hx141_0⟩ := Kd.at_int (Kd.R_reads' HO139.out).2.2 (ji13) p141 q141; obtain rfl : ad140 = ad141 := (by injection e141); replace p141 := eq_true p141; replace q141 := eq_true q141)); try go_wp2_with (first | (go_at_call 7; (with_reducible refine (tabs_Edges.calls a0 t137 _ A4.out).mono ?_); rintro e w16 ⟨v138, rfl, ho0, hb⟩; have n0_ := Aside0.mk (Kd.R_lower ho0 (below_size (by repeat (with_reducible first | exact HB.out | apply below_alloc | apply pw_below_drewN | apply below_drew1)))); have n1_ := Aside0.mk (below_step (by repeat (with_reducible first | exact HB.out | apply below_alloc | apply pw_below_drewN | apply below_drew1)) hb); clear HB; have HO139 := n0_; have HB := n1_; clear n0_ n1_; (try clear hb); (try clear hb2); (try clear hk); (try clear hi); (try clear ho0); obtain ⟨Ao17, co17, eo17⟩ := Kd.R_slice HO139.out; subst eo17; have p140 : 0 ≤ (a2 : Int) := of_decide_eq_true (by first | (with_reducible assumption) | assumption); have q140 : a2 < (t137.length : Int) := of_decide_eq_true (by first | (with_reducible assumption) | assumption); obtain ⟨ad140, e140, hx140_0⟩ := Kd.at_int (Kd.R_reads' HO139.out).2.2 a2 p140 q140; cases e140; replace p140 := eq_true p140; replace q140 := eq_true q140; have p141 : 0 ≤ ((ji13) : Int) := of_decide_eq_true (by first | (with_reducible assumption) | assumption); have q141 : (ji13) < (t137.length : Int) := of_decide_eq_true (by first | (with_reducible assumption) | assumption); obtain ⟨ad141, e141, hx141_0⟩ := Kd.at_int (Kd.R_reads' HO139.out).2.2 (ji13) p141 q141; obtain rfl : ad140 = ad141 := (by injection e141); replace p141 := eq_true p141; replace q141 := eq_true q141)))
    go_ret2
    exact ⟨by first | rfl | (simp [errW_none, errW_some] <;> rfl) | (simp only [← hji13]; first | rfl | (simp [errW_none, errW_some] <;> rfl)) | (simp [*, errW_none, errW_some] <;> rfl), by repeat (with_reducible first | exact HB.out | apply below_alloc | apply pw_below_drewN | apply below_drew1)⟩
 ·
  rw [if_neg c5] at H; have c5b0 : (a1 == 10) = false := beq_eq_false_iff_ne.mpr c5; have c5b1 : (a1 != 10) = true := bne_iff_ne.mpr c5
  by_cases c18 : a1 = 20
  ·
   rw [if_pos c18] at H; have c18b0 : (a1 == 20) = true := beq_iff_eq.mpr c18; have c18b1 : (a1 != 20) = false := bne_eq_false_iff_eq.mpr c18; clear c18
   by_cases c19 : a2 < 0
   ·
    rw [if_pos c19] at H; have c19b0 : decide (a2 < 0) = true := decide_eq_true c19; clear c19
    simp only [Option.some.injEq, Prod.mk.injEq] at H
    obtain ⟨rfl, rfl⟩ := H
    go_enter Try.func9, Try.ntmps9
    go_wp2_with (first | (go_at_call 7; (with_reducible refine (tabs_Edges.calls a0 t137 _ A4.out).mono ?_); rintro e w20 ⟨v138, rfl, ho0, hb⟩; have n0_ := Aside0.mk (Kd.R_lower ho0 (below_size (by repeat (with_reducible first | exact HB.out | apply below_alloc | apply pw_below_drewN | apply below_drew1)))); have n1_ := Aside0.mk (below_step (by repeat (with_reducible first | exact HB.out | apply below_alloc | apply pw_below_drewN | apply below_drew1)) hb); clear HB; have HO139 := n0_; have HB := n1_; clear n0_ n1_; (try clear hb); (try clear hb2); (try clear hk); (try clear hi); (try clear ho0)))
    repeat (go_quiet (first | (go_at_call 7; (with_reducible refine (tabs_Edges.calls a0 t137 _ A4.out).mono ?_); rintro e w20 ⟨v138, rfl, ho0, hb⟩; have n0_ := Aside0.mk (Kd.R_lower ho0 (below_size (by repeat (with_reducible first | exact HB.out | apply below_alloc | apply pw_below_drewN | apply below_drew1)))); have n1_ := Aside0.mk (below_step (by repeat (with_reducible first | exact HB.out | apply below_alloc | apply pw_below_drewN | apply below_drew1)) hb); clear HB; have HO139 := n0_; have HB := n1_; clear n0_ n1_; (try clear hb); (try clear hb2); (try clear hk); (try clear hi); (try clear ho0))); try go_wp2_with (first | (go_at_call 7; (with_reducible refine (tabs_Edges.calls a0 t137 _ A4.out).mono ?_); rintro e w20 ⟨v138, rfl, ho0, hb⟩; have n0_ := Aside0.mk (Kd.R_lower ho0 (below_size (by repeat (with_reducible first | exact HB.out | apply below_alloc | apply pw_below_drewN | apply below_drew1)))); have n1_ := Aside0.mk (below_step (by repeat (with_reducible first | exact HB.out | apply below_alloc | apply pw_below_drewN | apply below_drew1)) hb); clear HB; have HO139 := n0_; have HB := n1_; clear n0_ n1_; (try clear hb); (try clear hb2); (try clear hk); (try clear hi); (try clear ho0))))
    go_ret2
    exact ⟨by first | rfl | (simp [errW_none, errW_some] <;> rfl) | (simp [*, errW_none, errW_some] <;> rfl), by repeat (with_reducible first | exact HB.out | apply below_alloc | apply pw_below_drewN | apply below_drew1)⟩
   ·
    rw [if_neg c19] at H; have c19b0 : decide (a2 < 0) = false := decide_eq_false c19; clear c19
    by_cases c21 : a2 ≥ (wrap64 ((t137.length : Int) - 1))
    ·
     rw [if_pos c21] at H; have c21b0 : decide ((wrap64 ((t137.length : Int) - 1)) ≤ a2) = true := decide_eq_true c21; clear c21
     simp only [Option.some.injEq, Prod.mk.injEq] at H
     obtain ⟨rfl, rfl⟩ := H
     go_enter Try.func9, Try.ntmps9
     go_wp2_with (first | (go_at_call 7; (with_reducible refine (tabs_Edges.calls a0 t137 _ A4.out).mono ?_); rintro e w22 ⟨v138, rfl, ho0, hb⟩; have n0_ := Aside0.mk (Kd.R_lower ho0 (below_size (by repeat (with_reducible first | exact HB.out | apply below_alloc | apply pw_below_drewN | apply below_drew1)))); have n1_ := Aside0.mk (below_step (by repeat (with_reducible first | exact HB.out | apply below_alloc | apply pw_below_drewN | apply below_drew1)) hb); clear HB; have HO139 := n0_; have HB := n1_; clear n0_ n1_; (try clear hb); (try clear hb2); (try clear hk); (try clear hi); (try clear ho0); obtain ⟨Ao23, co23, eo23⟩ := Kd.R_slice HO139.out; subst eo23))
     repeat (go_quiet (first | (go_at_call 7; (with_reducible refine (tabs_Edges.calls a0 t137 _ A4.out).mono ?_); rintro e w22 ⟨v138, rfl, ho0, hb⟩; have n0_ := Aside0.mk (Kd.R_lower ho0 (below_size (by repeat (with_reducible first | exact HB.out | apply below_alloc | apply pw_below_drewN | apply below_drew1)))); have n1_ := Aside0.mk (below_step (by repeat (with_reducible first | exact HB.out | apply below_alloc | apply pw_below_drewN | apply below_drew1)) hb); clear HB; have HO139 := n0_; have HB := n1_; clear n0_ n1_; (try clear hb); (try clear hb2); (try clear hk); (try clear hi); (try clear ho0); obtain ⟨Ao23, co23, eo23⟩ := Kd.R_slice HO139.out; subst eo23)); try go_wp2_with (first | (go_at_call 7; (with_reducible refine (tabs_Edges.calls a0 t137 _ A4.out).mono ?_); rintro e w22 ⟨v138, rfl, ho0, hb⟩; have n0_ := Aside0.mk (Kd.R_lower ho0 (below_size (by repeat (with_reducible first | exact HB.out | apply below_alloc | apply pw_below_drewN | apply below_drew1)))); have n1_ := Aside0.mk (below_step (by repeat (with_reducible first | exact HB.out | apply below_alloc | apply pw_below_drewN | apply below_drew1)) hb); clear HB; have HO139 := n0_; have HB := n1_; clear n0_ n1_; (try clear hb); (try clear hb2); (try clear hk); (try clear hi); (try clear ho0); obtain ⟨Ao23, co23, eo23⟩ := Kd.R_slice HO139.out; subst eo23)))
     go_ret2
     exact ⟨by first | rfl | (simp [errW_none, errW_some] <;> rfl) | (simp [*, errW_none, errW_some] <;> rfl), by repeat (with_reducible first | exact HB.out | apply below_alloc | apply pw_below_drewN | apply below_drew1)⟩
    ·
     rw [if_neg c21] at H; have c21b0 : decide ((wrap64 ((t137.length : Int) - 1)) ≤ a2) = false := decide_eq_false c21; clear c21
     by_cases c24 : 0 ≤ a2; rotate_left
     · rw [if_neg c24] at H; exact absurd H (by simp)
     rw [if_pos c24] at H; have c24b0 : decide (0 ≤ a2) = true := decide_eq_true c24; clear c24
     by_cases c25 : a2 < (t137.length : Int); rotate_left
     · rw [if_neg c25] at H; exact absurd H (by simp)
     rw [if_pos c25] at H; have c25b0 : decide (a2 < (t137.length : Int)) = true := decide_eq_true c25; clear c25
     obtain ⟨ji26, hji26⟩ : ∃ j_ : Int, (wrap64 (a2 + 1)) = j_ := ⟨_, rfl⟩
     replace H : (if 0 ≤ (ji26) then (if (ji26) < (t137.length : Int) then (some (wrap64 (Int.tdiv (wrap64 ((wrap64 ((rd t137 a2) * a1)) * 2)) 5), wrap64 (Int.tdiv (wrap64 ((wrap64 ((rd t137 (ji26)) * a1)) * 2)) 5))) else (none)) else (none)) = some (r1, r2) := by first | (rw [hji26] at H; exact H) | (simp only [hji26] at H ⊢; exact H)
     (try rw [hji26] at A4)
     have hji26w : (IntKind.i64.wrap (a2 + 1)) = ji26 := (i64_w _).trans hji26
     by_cases c27 : 0 ≤ (ji26); rotate_left
     · rw [if_neg c27] at H; exact absurd H (by simp)
     rw [if_pos c27] at H; have c27b0 : decide (0 ≤ (ji26)) = true := decide_eq_true c27; clear c27
     by_cases c28 : (ji26) < (t137.length : Int); rotate_left
     · rw [if_neg c28] at H; exact absurd H (by simp)
     rw [if_pos c28] at H; have c28b0 : decide ((ji26) < (t137.length : Int)) = true := decide_eq_true c28; clear c28
     simp only [Option.some.injEq, Prod.mk.injEq] at H
     obtain ⟨rfl, rfl⟩ := H
     go_enter Try.func9, Try.ntmps9
     go_wp2_with (first | (go_at_call 7; (with_reducible refine (tabs_Edges.calls a0 t137 _ A4.out).mono ?_); rintro e w29 ⟨v138, rfl, ho0, hb⟩; have n0_ := Aside0.mk (Kd.R_lower ho0 (below_size (by repeat (with_reducible first | exact HB.out | apply below_alloc | apply pw_below_drewN | apply below_drew1)))); have n1_ := Aside0.mk (below_step (by repeat (with_reducible first | exact HB.out | apply below_alloc | apply pw_below_drewN | apply below_drew1)) hb); clear HB; have HO139 := n0_; have HB := n1_; clear n0_ n1_; (try clear hb); (try clear hb2); (try clear hk); (try clear hi); (try clear ho0); obtain ⟨Ao30, co30, eo30⟩ := Kd.R_slice HO139.out; subst eo30; have p142 : 0 ≤ (a2 : Int) := of_decide_eq_true (by first | (with_reducible assumption) | assumption); have q142 : a2 < (t137.length : Int) := of_decide_eq_true (by first | (with_reducible assumption) | assumption); obtain ⟨ad142, e142, hx142_0⟩ := Kd.at_int (Kd.R_reads' HO139.out).2.2 a2 p142 q142; cases e142; replace p142 := eq_true p142; replace q142 := eq_true q142; have p143 : 0 ≤ ((ji26) : Int) := of_decide_eq_true (by first | (with_reducible assumption) | assumption); have q143 : (ji26) < (t137.length : Int) := of_decide_eq_true (by first | (with_reducible assumption) | assumption); obtain ⟨ad143, e143, hx143_0⟩ := Kd.at_int (Kd.R_reads' HO139.out).2.2 (ji26) p143 q143; obtain rfl : ad142 = ad143 := (by injection e143); replace p143 := eq_true p143; replace q143 := eq_true q143))
     repeat (go_quiet (first | (go_at_call 7; (with_reducible refine (tabs_Edges.calls a0 t137 _ A4.out).mono ?_); rintro e w29 ⟨v138, rfl, ho0, hb⟩; have n0_ := Aside0.mk (Kd.R_lower ho0 (below_size (by repeat (with_reducible first | exact HB.out | apply below_alloc | apply pw_below_drewN | apply below_drew1)))); have n1_ := Aside0.mk (below_step (by repeat (with_reducible first | exact HB.out | apply below_alloc | apply pw_below_drewN | apply below_drew1)) hb); clear HB; have HO139 := n0_; have HB := n1_; clear n0_ n1_; (try clear hb); (try clear hb2); (try clear hk); (try clear hi); (try clear ho0); obtain ⟨Ao30, co30, eo30⟩ := Kd.R_slice HO139.out; subst eo30; have p142 : 0 ≤ (a2 : Int) := of_decide_eq_true (by first | (with_reducible assumption) | assumption); have q142 : a2 < (t137.length : Int) := of_decide_eq_true (by first | (with_reducible assumption) | assumption); obtain ⟨ad142, e142, hx142_0⟩ := Kd.at_int (Kd.R_reads' HO139.out).2.2 a2 p142 q142; cases e142; replace p142 := eq_true p142; replace q142 := eq_true q142; have p143 : 0 ≤ ((ji26) : Int) := of_decide_eq_true (by first | (with_reducible assumption) | assumption); have q143 : (ji26) < (t137.length : Int) := of_decide_eq_true (by first | (with_reducible assumption) | assumption); obtain ⟨ad143, e143, hx143_0⟩ := Kd.at_int (Kd.R_reads' HO139.out).2.2 (ji26) p143 q143; obtain rfl : ad142 = ad143 := (by injection e143); replace p143 := eq_true p143; replace q143 := eq_true q143)); try go_wp2_with (first | (go_at_call 7; (with_reducible refine (tabs_Edges.calls a0 t137 _ A4.out).mono ?_); rintro e w29 ⟨v138, rfl, ho0, hb⟩; have n0_ := Aside0.mk (Kd.R_lower ho0 (below_size (by repeat (with_reducible first | exact HB.out | apply below_alloc | apply pw_below_drewN | apply below_drew1)))); have n1_ := Aside0.mk (below_step (by repeat (with_reducible first | exact HB.out | apply below_alloc | apply pw_below_drewN | apply below_drew1)) hb); clear HB; have HO139 := n0_; have HB := n1_; clear n0_ n1_; (try clear hb); (try clear hb2); (try clear hk); (try clear hi); (try clear ho0); obtain ⟨Ao30, co30, eo30⟩ := Kd.R_slice HO139.out; subst eo30; have p142 : 0 ≤ (a2 : Int) := of_decide_eq_true (by first | (with_reducible assumption) | assumption); have q142 : a2 < (t137.length : Int) := of_decide_eq_true (by first | (with_reducible assumption) | assumption); obtain ⟨ad142, e142, hx142_0⟩ := Kd.at_int (Kd.R_reads' HO139.out).2.2 a2 p142 q142; cases e142; replace p142 := eq_true p142; replace q142 := eq_true q142; have p143 : 0 ≤ ((ji26) : Int) := of_decide_eq_true (by first | (with_reducible assumption) | assumption); have q143 : (ji26) < (t137.length : Int) := of_decide_eq_true (by first | (with_reducible assumption) | assumption); obtain ⟨ad143, e143, hx143_0⟩ := Kd.at_int (Kd.R_reads' HO139.out).2.2 (ji26) p143 q143; obtain rfl : ad142 = ad143 := (by injection e143); replace p143 := eq_true p143; replace q143 := eq_true q143)))
     go_ret2
     exact ⟨by first | rfl | (simp [errW_none, errW_some] <;> rfl) | (simp only [← hji26]; first | rfl | (simp [errW_none, errW_some] <;> rfl)) | (simp [*, errW_none, errW_some] <;> rfl), by repeat (with_reducible first | exact HB.out | apply below_alloc | apply pw_below_drewN | apply below_drew1)⟩
  ·
   rw [if_neg c18] at H; have c18b0 : (a1 == 20) = false := beq_eq_false_iff_ne.mpr c18; have c18b1 : (a1 != 20) = true := bne_iff_ne.mpr c18
   simp only [Option.some.injEq, Prod.mk.injEq] at H
   obtain ⟨rfl, rfl⟩ := H
   go_enter Try.func9, Try.ntmps9
   go_wp2_with (first | (go_at_call 7; (with_reducible refine (tabs_Edges.calls a0 t137 _ A4.out).mono ?_); rintro e w31 ⟨v138, rfl, ho0, hb⟩; have n0_ := Aside0.mk (Kd.R_lower ho0 (below_size (by repeat (with_reducible first | exact HB.out | apply below_alloc | apply pw_below_drewN | apply below_drew1)))); have n1_ := Aside0.mk (below_step (by repeat (with_reducible first | exact HB.out | apply below_alloc | apply pw_below_drewN | apply below_drew1)) hb); clear HB; have HO139 := n0_; have HB := n1_; clear n0_ n1_; (try clear hb); (try clear hb2); (try clear hk); (try clear hi); (try clear ho0)))
   repeat (go_quiet (first | (go_at_call 7; (with_reducible refine (tabs_Edges.calls a0 t137 _ A4.out).mono ?_); rintro e w31 ⟨v138, rfl, ho0, hb⟩; have n0_ := Aside0.mk (Kd.R_lower ho0 (below_size (by repeat (with_reducible first | exact HB.out | apply below_alloc | apply pw_below_drewN | apply below_drew1)))); have n1_ := Aside0.mk (below_step (by repeat (with_reducible first | exact HB.out | apply below_alloc | apply pw_below_drewN | apply below_drew1)) hb); clear HB; have HO139 := n0_; have HB := n1_; clear n0_ n1_; (try clear hb); (try clear hb2); (try clear hk); (try clear hi); (try clear ho0))); try go_wp2_with (first | (go_at_call 7; (with_reducible refine (tabs_Edges.calls a0 t137 _ A4.out).mono ?_); rintro e w31 ⟨v138, rfl, ho0, hb⟩; have n0_ := Aside0.mk (Kd.R_lower ho0 (below_size (by repeat (with_reducible first | exact HB.out | apply below_alloc | apply pw_below_drewN | apply below_drew1)))); have n1_ := Aside0.mk (below_step (by repeat (with_reducible first | exact HB.out | apply below_alloc | apply pw_below_drewN | apply below_drew1)) hb); clear HB; have HO139 := n0_; have HB := n1_; clear n0_ n1_; (try clear hb); (try clear hb2); (try clear hk); (try clear hi); (try clear ho0))))
   go_ret2
   exact ⟨by first | rfl | (simp [errW_none, errW_some] <;> rfl) | (simp [*, errW_none, errW_some] <;> rfl), by repeat (with_reducible first | exact HB.out | apply below_alloc | apply pw_below_drewN | apply below_drew1)⟩

/-! ### tabs_Rate: function 11 -/
def tabs_Rate.f (a0 : Int) : Option (Bool) := if a0 = 8000 then (some true) else (if a0 = 16000 then (some true) else (some (a0 == 24000)))
set_option maxHeartbeats 8000000 in
set_option maxRecDepth 100000 in
theorem tabs_Rate.calls (a0 : Int) (r : Bool) (w : World) (h : tabs_Rate.f a0 = some r) :
  Calls Try.prog 11 #[.int .i64 a0] w fun e w' => e = .returned (.bool r) ∧ Drawn0 w w' := by
 have H : (if a0 = 8000 then (some true) else (if a0 = 16000 then (some true) else (some (a0 == 24000)))) = some r := h
 clear h
 by_cases c2 : a0 = 8000
 ·
  rw [if_pos c2] at H; have c2b0 : (a0 == 8000) = true := beq_iff_eq.mpr c2; have c2b1 : (a0 != 8000) = false := bne_eq_false_iff_eq.mpr c2; clear c2
  obtain rfl := Option.some.inj H
  go_enter Try.func11, Try.ntmps11
  go_wp2
  go_ret
  exact ⟨by first | rfl | (simp; done) | (simp [*]; done), by repeat (first | exact Drawn0.refl _ | apply Drawn0.step)⟩
 ·
  rw [if_neg c2] at H; have c2b0 : (a0 == 8000) = false := beq_eq_false_iff_ne.mpr c2; have c2b1 : (a0 != 8000) = true := bne_iff_ne.mpr c2
  by_cases c3 : a0 = 16000
  ·
   rw [if_pos c3] at H; have c3b0 : (a0 == 16000) = true := beq_iff_eq.mpr c3; have c3b1 : (a0 != 16000) = false := bne_eq_false_iff_eq.mpr c3; clear c3
   obtain rfl := Option.some.inj H
   go_enter Try.func11, Try.ntmps11
   go_wp2
   go_ret
   exact ⟨by first | rfl | (simp; done) | (simp [*]; done), by repeat (first | exact Drawn0.refl _ | apply Drawn0.step)⟩
  ·
   rw [if_neg c3] at H; have c3b0 : (a0 == 16000) = false := beq_eq_false_iff_ne.mpr c3; have c3b1 : (a0 != 16000) = true := bne_iff_ne.mpr c3
   obtain rfl := Option.some.inj H
   go_enter Try.func11, Try.ntmps11
   go_wp2
   go_ret
   exact ⟨by first | rfl | (simp; done) | (simp [*]; done), by repeat (first | exact Drawn0.refl _ | apply Drawn0.step)⟩

/-! ### tabs_Order: function 13 -/
def tabs_Order.f (a0 : Int) : Option (Int) := if a0 = 8000 then (some 10) else (if a0 = 16000 then (some 16) else (some 0))
set_option maxHeartbeats 8000000 in
set_option maxRecDepth 100000 in
theorem tabs_Order.calls (a0 : Int) (r : Int) (w : World) (h : tabs_Order.f a0 = some r) :
  Calls Try.prog 13 #[.int .i64 a0] w fun e w' => e = .returned (.int .i64 r) ∧ Drawn0 w w' := by
 have H : (if a0 = 8000 then (some 10) else (if a0 = 16000 then (some 16) else (some 0))) = some r := h
 clear h
 by_cases c2 : a0 = 8000
 ·
  rw [if_pos c2] at H; have c2b0 : (a0 == 8000) = true := beq_iff_eq.mpr c2; have c2b1 : (a0 != 8000) = false := bne_eq_false_iff_eq.mpr c2; clear c2
  obtain rfl := Option.some.inj H
  go_enter Try.func13, Try.ntmps13
  go_wp2
  go_ret
  exact ⟨by first | rfl | (simp; done) | (simp [*]; done), by repeat (first | exact Drawn0.refl _ | apply Drawn0.step)⟩
 ·
  rw [if_neg c2] at H; have c2b0 : (a0 == 8000) = false := beq_eq_false_iff_ne.mpr c2; have c2b1 : (a0 != 8000) = true := bne_iff_ne.mpr c2
  by_cases c3 : a0 = 16000
  ·
   rw [if_pos c3] at H; have c3b0 : (a0 == 16000) = true := beq_iff_eq.mpr c3; have c3b1 : (a0 != 16000) = false := bne_eq_false_iff_eq.mpr c3; clear c3
   obtain rfl := Option.some.inj H
   go_enter Try.func13, Try.ntmps13
   go_wp2
   go_ret
   exact ⟨by first | rfl | (simp; done) | (simp [*]; done), by repeat (first | exact Drawn0.refl _ | apply Drawn0.step)⟩
  ·
   rw [if_neg c3] at H; have c3b0 : (a0 == 16000) = false := beq_eq_false_iff_ne.mpr c3; have c3b1 : (a0 != 16000) = true := bne_iff_ne.mpr c3
   obtain rfl := Option.some.inj H
   go_enter Try.func13, Try.ntmps13
   go_wp2
   go_ret
   exact ⟨by first | rfl | (simp; done) | (simp [*]; done), by repeat (first | exact Drawn0.refl _ | apply Drawn0.step)⟩

/-! ### fix_Clamp: function 33 -/
def fix_Clamp.j0 : Nat → Int → Int → Int → Bool → Option (Int)
 | 0, _, _, _, _ => none
 | k + 1, x0, x1, x2, x7 => if x7 = true then (some x1) else (if x0 > x2 then (some x2) else (some x0))
def fix_Clamp.f (k : Nat) (a0 : Int) (a1 : Int) (a2 : Int) : Option (Int) := if a1 > a2 then (fix_Clamp.j0 k a0 a1 a2 true) else (fix_Clamp.j0 k a0 a1 a2 (decide (a0 < a1)))
set_option maxHeartbeats 8000000 in
set_option maxRecDepth 100000 in
theorem fix_Clamp.calls (k : Nat) (a0 : Int) (a1 : Int) (a2 : Int) (r : Int) (w : World) (h : fix_Clamp.f k a0 a1 a2 = some r) :
  Calls Try.prog 33 #[.int .i64 a0, .int .i64 a1, .int .i64 a2] w fun e w' => e = .returned (.int .i64 r) ∧ Drawn0 w w' := by
 have H : (if a1 > a2 then (fix_Clamp.j0 k a0 a1 a2 true) else (fix_Clamp.j0 k a0 a1 a2 (decide (a0 < a1)))) = some r := h
 clear h; have HC4 := Aside0.mk H; clear H
 go_enter Try.func33, Try.ntmps33
 go_upto_region 1 with (fail)
 go_cut [7] (fun v7 wc => ∃ (kq : Nat) (x7_3 : Bool), v7 = .bool x7_3 ∧ Aside0 (fix_Clamp.j0 kq a0 a1 a2 x7_3 = some r) ∧ Aside0 (kq ≤ k) ∧ Drawn0 w wc)
 case first =>
  have H := HC4.out; clear HC4
  by_cases c5 : a1 > a2
  ·
   rw [if_pos c5] at H; have c5b0 : decide (a2 < a1) = true := decide_eq_true c5; clear c5
   (first | rw [c5b0] | (simp only [i64_w, i32_w]; rw [c5b0]) | skip)
   have H' := Aside0.mk H; clear H
   go_wp2
   go_meet
   case rel => exact ⟨_, (true), (by first | rfl | (simp; done) | (simp [*]; done)), H', ⟨by first | omega | exact Nat.le_refl _⟩, by repeat (first | exact Drawn0.refl _ | apply Drawn0.step)⟩
  ·
   rw [if_neg c5] at H; have c5b0 : decide (a2 < a1) = false := decide_eq_false c5; clear c5
   (first | rw [c5b0] | (simp only [i64_w, i32_w]; rw [c5b0]) | skip)
   have H' := Aside0.mk H; clear H
   go_wp2
   go_meet
   case rel => exact ⟨_, (decide (a0 < a1)), (by first | rfl | (simp; done) | (simp [*]; done)), H', ⟨by first | omega | exact Nat.le_refl _⟩, by repeat (first | exact Drawn0.refl _ | apply Drawn0.step)⟩
 case rest =>
  clear HC4; (try clear p2); (try clear c3); (try clear c5); (try clear c5b0); (try clear c5b0z0)
  obtain ⟨kq, x7_3, rfl, HA, HJ3, ⟨mc3, rfl⟩⟩ := hcut
  cases kq with
  | zero => exact absurd HA.out (by simp [fix_Clamp.j0])
  | succ kj3 =>
   have H := HA.out; clear HA
   simp only [fix_Clamp.j0] at H
   by_cases c6 : x7_3 = true
   ·
    subst c6
    have H1 : (some a1) = some r := by rw [if_pos rfl] at H; exact H
    clear H; have H := H1; clear H1
    obtain rfl := Option.some.inj H
    go_wp2
    go_ret
    exact ⟨by first | rfl | (simp; done) | (simp [*]; done), by repeat (first | exact Drawn0.refl _ | apply Drawn0.step)⟩
   ·
    replace c6 := Bool.eq_false_iff.mpr c6
    subst c6
    have H1 : (if a0 > a2 then (some a2) else (some a0)) = some r := by rw [if_neg (show ¬ (false = true) by decide)] at H; exact H
    clear H; have H := H1; clear H1
    by_cases c7 : a0 > a2
    ·
     rw [if_pos c7] at H; have c7b0 : decide (a2 < a0) = true := decide_eq_true c7; clear c7
     obtain rfl := Option.some.inj H
     go_wp2
     go_ret
     exact ⟨by first | rfl | (simp; done) | (simp [*]; done), by repeat (first | exact Drawn0.refl _ | apply Drawn0.step)⟩
    ·
     rw [if_neg c7] at H; have c7b0 : decide (a2 < a0) = false := decide_eq_false c7; clear c7
     obtain rfl := Option.some.inj H
     go_wp2
     go_ret
     exact ⟨by first | rfl | (simp; done) | (simp [*]; done), by repeat (first | exact Drawn0.refl _ | apply Drawn0.step)⟩

/-! ### fix_factor: function 29 -/
def fix_factor.f (k : Nat) (a0 : Int) : Option (Int) := (fix_Clamp.f k a0 (-2147483648) 2147483648).bind fun t144 => (some t144)
set_option maxHeartbeats 8000000 in
set_option maxRecDepth 100000 in
theorem fix_factor.calls (k : Nat) (a0 : Int) (r : Int) (w : World) (h : fix_factor.f k a0 = some r) :
  Calls Try.prog 29 #[.int .i64 a0] w fun e w' => e = .returned (.int .i64 r) ∧ Drawn0 w w' := by
 have H : ((fix_Clamp.f k a0 (-2147483648) 2147483648).bind fun t144 => (some t144)) = some r := h
 clear h; replace H := Option.bind_eq_some_iff.mp H; obtain ⟨t144, A20, H⟩ := H
 replace H : (some t144) = some r := H
 have A2 := Aside0.mk A20; clear A20
 obtain rfl := Option.some.inj H
 go_enter Try.func29, Try.ntmps29
 go_wp2_with (first | ((with_reducible refine gate_callee (f := 33) rfl ?_); refine goesL_ (some 4) rfl rfl Try.func33 (by kernel_rfl) rfl #[.int .i64 a0, .int .i64 (-2147483648), .int .i64 2147483648] rfl (by (try simp only [List.map_toArray, List.map_cons, List.map_nil]); first | done | rfl | (simp only [List.length_drop, List.length_take]; rfl)) ?_; (with_reducible refine (fix_Clamp.calls k a0 (-2147483648) 2147483648 t144 _ A2.out).mono ?_); rintro e w' ⟨rfl, ⟨nd, rfl⟩⟩; refine ⟨_, rfl, ?_⟩))
 go_ret
 exact ⟨by first | rfl | (simp; done) | (simp [*]; done), by repeat (first | exact Drawn0.refl _ | apply Drawn0.step)⟩

/-! ### fix_Mul: function 25 -/
def fix_Mul.f (k : Nat) (a0 : Int) (a1 : Int) (a2 : Int) : Option (Int) := (fix_factor.f k a0).bind fun t145 => ((fix_factor.f k a1).bind fun t146 => (if a2 = 0 then (some (wrap64 (t145 * t146))) else (if a2 < 0 then (some 0) else (if a2 > 62 then (some 0) else (if 0 ≤ (wrap64 (a2 - 1)) then (if 0 ≤ a2 then (some (shr .i64 (wrap64 ((wrap64 (t145 * t146)) + (shl .i64 1 (wrap64 (a2 - 1))))) a2)) else (none)) else (none))))))
set_option maxHeartbeats 8000000 in
set_option maxRecDepth 100000 in
theorem fix_Mul.calls (k : Nat) (a0 : Int) (a1 : Int) (a2 : Int) (r : Int) (w : World) (h : fix_Mul.f k a0 a1 a2 = some r) :
  Calls Try.prog 25 #[.int .i64 a0, .int .i64 a1, .int .i64 a2] w fun e w' => e = .returned (.int .i64 r) ∧ Drawn0 w w' := by
 have H : ((fix_factor.f k a0).bind fun t145 => ((fix_factor.f k a1).bind fun t146 => (if a2 = 0 then (some (wrap64 (t145 * t146))) else (if a2 < 0 then (some 0) else (if a2 > 62 then (some 0) else (if 0 ≤ (wrap64 (a2 - 1)) then (if 0 ≤ a2 then (some (shr .i64 (wrap64 ((wrap64 (t145 * t146)) + (shl .i64 1 (wrap64 (a2 - 1))))) a2)) else (none)) else (none))))))) = some r := h
 clear h; replace H := Option.bind_eq_some_iff.mp H; obtain ⟨t145, A40, H⟩ := H
 replace H : ((fix_factor.f k a1).bind fun t146 => (if a2 = 0 then (some (wrap64 (t145 * t146))) else (if a2 < 0 then (some 0) else (if a2 > 62 then (some 0) else (if 0 ≤ (wrap64 (a2 - 1)) then (if 0 ≤ a2 then (some (shr .i64 (wrap64 ((wrap64 (t145 * t146)) + (shl .i64 1 (wrap64 (a2 - 1))))) a2)) else (none)) else (none)))))) = some r := H
 have A4 := Aside0.mk A40; clear A40; replace H := Option.bind_eq_some_iff.mp H; obtain ⟨t146, A50, H⟩ := H
 replace H : (if a2 = 0 then (some (wrap64 (t145 * t146))) else (if a2 < 0 then (some 0) else (if a2 > 62 then (some 0) else (if 0 ≤ (wrap64 (a2 - 1)) then (if 0 ≤ a2 then (some (shr .i64 (wrap64 ((wrap64 (t145 * t146)) + (shl .i64 1 (wrap64 (a2 - 1))))) a2)) else (none)) else (none))))) = some r := H
 have A5 := Aside0.mk A50; clear A50
 by_cases c6 : a2 = 0
 ·
  rw [if_pos c6] at H; have c6b0 : (a2 == 0) = true := beq_iff_eq.mpr c6; have c6b1 : (a2 != 0) = false := bne_eq_false_iff_eq.mpr c6; clear c6
  obtain rfl := Option.some.inj H
  go_enter Try.func25, Try.ntmps25
  go_wp2_with (first | ((with_reducible refine gate_callee (f := 29) rfl ?_); refine goesL_ (some 9) rfl rfl Try.func29 (by kernel_rfl) rfl #[.int .i64 a0] rfl (by (try simp only [List.map_toArray, List.map_cons, List.map_nil]); first | done | rfl | (simp only [List.length_drop, List.length_take]; rfl)) ?_; (with_reducible refine (fix_factor.calls k a0 t145 _ A4.out).mono ?_); rintro e w' ⟨rfl, ⟨nd, rfl⟩⟩; refine ⟨_, rfl, ?_⟩) | ((with_reducible refine gate_callee (f := 29) rfl ?_); refine goesL_ (some 11) rfl rfl Try.func29 (by kernel_rfl) rfl #[.int .i64 a1] rfl (by (try simp only [List.map_toArray, List.map_cons, List.map_nil]); first | done | rfl | (simp only [List.length_drop, List.length_take]; rfl)) ?_; (with_reducible refine (fix_factor.calls k a1 t146 _ A5.out).mono ?_); rintro e w' ⟨rfl, ⟨nd, rfl⟩⟩; refine ⟨_, rfl, ?_⟩))
  go_ret
  exact ⟨by first | rfl | (simp; done) | (simp [*]; done), by repeat (first | exact Drawn0.refl _ | apply Drawn0.step)⟩
 ·
  rw [if_neg c6] at H; have c6b0 : (a2 == 0) = false := beq_eq_false_iff_ne.mpr c6; have c6b1 : (a2 != 0) = true := bne_iff_ne.mpr c6
  by_cases c7 : a2 < 0
  ·
   rw [if_pos c7] at H; have c7b0 : decide (a2 < 0) = true := decide_eq_true c7; clear c7
   obtain rfl := Option.some.inj H
   go_enter Try.func25, Try.ntmps25
   go_wp2_with (first | ((with_reducible refine gate_callee (f := 29) rfl ?_); refine goesL_ (some 9) rfl rfl Try.func29 (by kernel_rfl) rfl #[.int .i64 a0] rfl (by (try simp only [List.map_toArray, List.map_cons, List.map_nil]); first | done | rfl | (simp only [List.length_drop, List.length_take]; rfl)) ?_; (with_reducible refine (fix_factor.calls k a0 t145 _ A4.out).mono ?_); rintro e w' ⟨rfl, ⟨nd, rfl⟩⟩; refine ⟨_, rfl, ?_⟩) | ((with_reducible refine gate_callee (f := 29) rfl ?_); refine goesL_ (some 11) rfl rfl Try.func29 (by kernel_rfl) rfl #[.int .i64 a1] rfl (by (try simp only [List.map_toArray, List.map_cons, List.map_nil]); first | done | rfl | (simp only [List.length_drop, List.length_take]; rfl)) ?_; (with_reducible refine (fix_factor.calls k a1 t146 _ A5.out).mono ?_); rintro e w' ⟨rfl, ⟨nd, rfl⟩⟩; refine ⟨_, rfl, ?_⟩))
   go_ret
   exact ⟨by first | rfl | (simp; done) | (simp [*]; done), by repeat (first | exact Drawn0.refl _ | apply Drawn0.step)⟩
  ·
   rw [if_neg c7] at H; have c7b0 : decide (a2 < 0) = false := decide_eq_false c7; clear c7
   by_cases c8 : a2 > 62
   ·
    rw [if_pos c8] at H; have c8b0 : decide (62 < a2) = true := decide_eq_true c8; clear c8
    obtain rfl := Option.some.inj H
    go_enter Try.func25, Try.ntmps25
    go_wp2_with (first | ((with_reducible refine gate_callee (f := 29) rfl ?_); refine goesL_ (some 9) rfl rfl Try.func29 (by kernel_rfl) rfl #[.int .i64 a0] rfl (by (try simp only [List.map_toArray, List.map_cons, List.map_nil]); first | done | rfl | (simp only [List.length_drop, List.length_take]; rfl)) ?_; (with_reducible refine (fix_factor.calls k a0 t145 _ A4.out).mono ?_); rintro e w' ⟨rfl, ⟨nd, rfl⟩⟩; refine ⟨_, rfl, ?_⟩) | ((with_reducible refine gate_callee (f := 29) rfl ?_); refine goesL_ (some 11) rfl rfl Try.func29 (by kernel_rfl) rfl #[.int .i64 a1] rfl (by (try simp only [List.map_toArray, List.map_cons, List.map_nil]); first | done | rfl | (simp only [List.length_drop, List.length_take]; rfl)) ?_; (with_reducible refine (fix_factor.calls k a1 t146 _ A5.out).mono ?_); rintro e w' ⟨rfl, ⟨nd, rfl⟩⟩; refine ⟨_, rfl, ?_⟩))
    go_ret
    exact ⟨by first | rfl | (simp; done) | (simp [*]; done), by repeat (first | exact Drawn0.refl _ | apply Drawn0.step)⟩
   ·
    rw [if_neg c8] at H; have c8b0 : decide (62 < a2) = false := decide_eq_false c8; clear c8
    obtain ⟨ji9, hji9⟩ : ∃ j_ : Int, (wrap64 (a2 - 1)) = j_ := ⟨_, rfl⟩
    replace H : (if 0 ≤ (ji9) then (if 0 ≤ a2 then (some (shr .i64 (wrap64 ((wrap64 (t145 * t146)) + (shl .i64 1 (ji9)))) a2)) else (none)) else (none)) = some r := by first | (rw [hji9] at H; exact H) | (simp only [hji9] at H ⊢; exact H)
    (try rw [hji9] at A4); (try rw [hji9] at A5)
    have hji9w : (IntKind.i64.wrap (a2 - 1)) = ji9 := (i64_w _).trans hji9
    by_cases c10 : 0 ≤ (ji9); rotate_left
    · rw [if_neg c10] at H; exact absurd H (by simp)
    rw [if_pos c10] at H; have c10b0 := eq_true c10; have c10b1 : decide (0 ≤ (ji9)) = true := decide_eq_true c10; clear c10
    obtain ⟨ji11, hji11⟩ : ∃ j_ : Int, (shl .i64 1 (ji9)) = j_ := ⟨_, rfl⟩
    replace H : (if 0 ≤ a2 then (some (shr .i64 (wrap64 ((wrap64 (t145 * t146)) + (ji11))) a2)) else (none)) = some r := by first | (rw [hji11] at H; exact H) | (simp only [hji11] at H ⊢; exact H)
    (try rw [hji11] at A4); (try rw [hji11] at A5)
    have hji11_ : (IntKind.i64.wrap (1 * 2 ^ min (ji9).toNat 64)) = ji11 := hji11
    have hji11z : (ji9) ≤ 64 → (IntKind.i64.wrap (1 * 2 ^ (ji9).toNat)) = ji11 := shl_small hji11
    have hji11u : (IntKind.i64.wrap (2 ^ min (ji9).toNat 64)) = ji11 := by have h_ := hji11_; rw [Int.one_mul] at h_; exact h_
    have hji11v : (ji9) ≤ 64 → (IntKind.i64.wrap (2 ^ (ji9).toNat)) = ji11 := fun hle_ => by have h_ := hji11z hle_; rw [Int.one_mul] at h_; exact h_
    have hji11y : (wrap64 (1 * 2 ^ min (ji9).toNat 64)) = ji11 := (i64_w _).symm.trans hji11_
    have hji11x : (ji9) ≤ 64 → (wrap64 (1 * 2 ^ (ji9).toNat)) = ji11 := fun h_ => (i64_w _).symm.trans (hji11z h_)
    by_cases c12 : 0 ≤ a2; rotate_left
    · rw [if_neg c12] at H; exact absurd H (by simp)
    rw [if_pos c12] at H; have c12b0 := eq_true c12; have c12b1 : decide (0 ≤ a2) = true := decide_eq_true c12; clear c12
    obtain ⟨ji13, hji13⟩ : ∃ j_ : Int, (shr .i64 (wrap64 ((wrap64 (t145 * t146)) + (ji11))) a2) = j_ := ⟨_, rfl⟩
    replace H : (some ji13) = some r := by first | (rw [hji13] at H; exact H) | (simp only [hji13] at H ⊢; exact H)
    (try rw [hji13] at A4); (try rw [hji13] at A5)
    have hji13_ : ((wrap64 ((wrap64 (t145 * t146)) + (ji11))) / 2 ^ min a2.toNat 64) = ji13 := hji13
    have hji13z : a2 ≤ 64 → ((wrap64 ((wrap64 (t145 * t146)) + (ji11))) / 2 ^ a2.toNat) = ji13 := shr_small hji13
    obtain rfl := Option.some.inj H
    go_enter Try.func25, Try.ntmps25
    go_wp2_with (first | ((with_reducible refine gate_callee (f := 29) rfl ?_); refine goesL_ (some 9) rfl rfl Try.func29 (by kernel_rfl) rfl #[.int .i64 a0] rfl (by (try simp only [List.map_toArray, List.map_cons, List.map_nil]); first | done | rfl | (simp only [List.length_drop, List.length_take]; rfl)) ?_; (with_reducible refine (fix_factor.calls k a0 t145 _ A4.out).mono ?_); rintro e w' ⟨rfl, ⟨nd, rfl⟩⟩; refine ⟨_, rfl, ?_⟩) | ((with_reducible refine gate_callee (f := 29) rfl ?_); refine goesL_ (some 11) rfl rfl Try.func29 (by kernel_rfl) rfl #[.int .i64 a1] rfl (by (try simp only [List.map_toArray, List.map_cons, List.map_nil]); first | done | rfl | (simp only [List.length_drop, List.length_take]; rfl)) ?_; (with_reducible refine (fix_factor.calls k a1 t146 _ A5.out).mono ?_); rintro e w' ⟨rfl, ⟨nd, rfl⟩⟩; refine ⟨_, rfl, ?_⟩))
    go_ret
    exact ⟨by first | rfl | (simp; done) | (simp only [← hji9, ← hji11, ← hji13] <;> (first | rfl | simp)) | (simp [*]; done), by repeat (first | exact Drawn0.refl _ | apply Drawn0.step)⟩

/-! ### fix_series: function 32 -/
def fix_series.l0 : Nat → Int → Int → List Int → Int → Int → Option (Int)
 | 0, _, _, _, _, _ => none
 | k + 1, x0, x5, x12, x13, x14 => if x14 < x13 then (if 0 ≤ x14 then (if x14 < (x12.length : Int) then ((fix_Mul.f k x0 x5 30).bind fun t150 => (fix_series.l0 k x0 (wrap64 ((rd x12 x14) + t150)) x12 x13 (wrap64 (x14 + 1)))) else (none)) else (none)) else (some x5)
def fix_series.f (k : Nat) (a0 : Int) (l1 : List Int) : Option (Int) := if 0 < (l1.length : Int) then (if 1 ≤ (l1.length : Int) then (fix_series.l0 k a0 (rd l1 0) (l1.drop 1) ((l1.drop 1).length : Int) 0) else (none)) else (none)
set_option maxHeartbeats 8000000 in
set_option maxRecDepth 100000 in
theorem fix_series.calls (k : Nat) (a0 : Int) (A1 : Option Addr) (c1 : Nat) (l1 : List Int) (r : Int) (w : World) (hr1 : Kd.C (Kd.int .i64) w A1 l1.length l1) (hc1 : l1.length ≤ c1) (h : fix_series.f k a0 l1 = some r) :
  Calls Try.prog 32 #[.int .i64 a0, .slice A1 l1.length c1] w fun e w' => e = .returned (.int .i64 r) ∧ Drawn0 w w' := by
 have HR1 := Aside0.mk hr1; have HC1 := Aside0.mk hc1; clear hr1 hc1
 have H : (if 0 < (l1.length : Int) then (if 1 ≤ (l1.length : Int) then (fix_series.l0 k a0 (rd l1 0) (l1.drop 1) ((l1.drop 1).length : Int) 0) else (none)) else (none)) = some r := h
 clear h
 by_cases c3 : 0 < (l1.length : Int); rotate_left
 · rw [if_neg c3] at H; exact absurd H (by simp)
 rw [if_pos c3] at H; have c3b0 : decide (0 < (l1.length : Int)) = true := decide_eq_true c3; have c3b1 : decide (0 < l1.length) = true := decide_eq_true (by omega); clear c3
 by_cases c4 : 1 ≤ (l1.length : Int); rotate_left
 · rw [if_neg c4] at H; exact absurd H (by simp)
 rw [if_pos c4] at H; have c4b0 := eq_true c4; have c4b1 : decide (1 ≤ (l1.length : Int)) = true := decide_eq_true c4; clear c4; have H' := Aside0.mk H; clear H
 have p147 : 0 ≤ (0 : Int) := (by omega)
 have q147 : 0 < (l1.length : Int) := of_decide_eq_true (by first | (with_reducible assumption) | assumption)
 obtain ⟨ad147, e147, hx147_0⟩ := Kd.at_int HR1.out 0 p147 q147
 cases e147
 have qi147 : (0 < l1.length) = True := eq_true (by omega)
 (try rw [show ((0 : Int)).toNat = 0 from rfl] at hx147_0); (try rw [Addr.add_zero'] at hx147_0); replace p147 := eq_true p147; replace q147 := eq_true q147
 obtain ⟨i05, hi05, _, hsz5, _⟩ := info_parts info2
 obtain ⟨A5, hcut5, hA5, hC5⟩ := print_drop_of (P := Try.prog) (Value.int .i64) 0 30 2 .i64 Try.underlying30 hi05 hsz5 (some ad147) c1 l1 1 (by omega) (of_decide_eq_true (by first | (with_reducible assumption) | assumption)) HC1.out
 have HR148 := Aside0.mk (Kd.C_of_reads (h1 := fun _ => rfl) (hA5 _ (Kd.reads_of_C HR1.out)))
 have HC148 := Aside0.mk hC5; clear hA5 hC5 hi05 hsz5
 go_enter Try.func32, Try.ntmps32
 go_wp2
 go_loopg [5, 14] k (fun kq v5 v14 w' => ∃ (x5_1 : Int) (x14_1 : Int), v5 = .int .i64 x5_1 ∧ v14 = .int .i64 x14_1 ∧ Aside0 (fix_series.l0 kq a0 x5_1 (l1.drop 1) ((l1.drop 1).length : Int) x14_1 = some r) ∧ Aside0 (kq ≤ k) ∧ Drawn0 w w')
 case atStart => exact ⟨(rd l1 0), (0), (by first | rfl | (simp; done) | (simp [*]; done)), (by first | rfl | (simp; done) | (simp [*]; done)), H', ⟨Nat.le_refl _⟩, by repeat (first | exact Drawn0.refl _ | apply Drawn0.step)⟩
 case round =>
  clear H'
  (try clear c1); (try clear p1); (try clear q1); (try clear hx1); (try clear qi1); (try clear p2); (try clear c3); (try clear c3b0); (try clear c3b0z0); (try clear c3b1); (try clear c3b1z0); (try clear c4); (try clear c4b0); (try clear c4b0z0); (try clear c4b1); (try clear c4b1z0); (try clear hx147_0); (try clear p147); (try clear q147)
  obtain ⟨x5_1, x14_1, rfl, rfl, HA, HK1, ⟨m1, rfl⟩⟩ := hrel
  cases gk with
  | zero => exact absurd HA.out (by simp [fix_series.l0])
  | succ k1 =>
   have H := HA.out; clear HA
   simp only [fix_series.l0] at H
   by_cases c6 : x14_1 < ((l1.drop 1).length : Int)
   ·
    rw [if_pos c6] at H; have c6b0 : decide (x14_1 < ((l1.drop 1).length : Int)) = true := decide_eq_true c6
    (try (have c6b0s := c6b0; simp only [List.length_drop] at c6b0s))
    clear c6
    by_cases c7 : 0 ≤ x14_1; rotate_left
    · rw [if_neg c7] at H; exact absurd H (by simp)
    rw [if_pos c7] at H; have c7b0 : decide (0 ≤ x14_1) = true := decide_eq_true c7; clear c7
    by_cases c8 : x14_1 < ((l1.drop 1).length : Int); rotate_left
    · rw [if_neg c8] at H; exact absurd H (by simp)
    rw [if_pos c8] at H; have c8b0 : decide (x14_1 < ((l1.drop 1).length : Int)) = true := decide_eq_true c8
    (try (have c8b0s := c8b0; simp only [List.length_drop] at c8b0s))
    clear c8; replace H := Option.bind_eq_some_iff.mp H; obtain ⟨t150, A90, H⟩ := H
    replace H : (fix_series.l0 k1 a0 (wrap64 ((rd (l1.drop 1) x14_1) + t150)) (l1.drop 1) ((l1.drop 1).length : Int) (wrap64 (x14_1 + 1))) = some r := H
    have A9 := Aside0.mk A90; clear A90; have H' := Aside0.mk H; clear H; have p149 : 0 ≤ (x14_1 : Int) := of_decide_eq_true (by first | (with_reducible assumption) | assumption); have q149 : x14_1 < ((l1.drop 1).length : Int) := of_decide_eq_true (by first | (with_reducible assumption) | assumption)
    obtain ⟨ad149, e149, hx149_0⟩ := Kd.at_int HR148.out x14_1 p149 q149
    cases e149; replace p149 := eq_true p149; replace q149 := eq_true q149
    (try (have q149s := q149; simp only [List.length_drop, eq_self_iff_true] at q149s))
    go_wp2_with (first | ((with_reducible refine gate_callee (f := 25) rfl ?_); refine goesL_ (some 21) rfl rfl Try.func25 (by kernel_rfl) rfl #[.int .i64 a0, .int .i64 x5_1, .int .i64 30] rfl (by (try simp only [List.map_toArray, List.map_cons, List.map_nil]); first | done | rfl | (simp only [List.length_drop, List.length_take]; rfl)) ?_; (with_reducible refine (fix_Mul.calls k1 a0 x5_1 30 t150 _ A9.out).mono ?_); rintro e w' ⟨rfl, ⟨nd, rfl⟩⟩; refine ⟨_, rfl, ?_⟩))
    go_roundg k1
    case measure => have := HK1.out; omega
    case rel => exact ⟨(wrap64 ((rd (l1.drop 1) x14_1) + t150)), (wrap64 (x14_1 + 1)), (by first | rfl | (simp; done) | (simp [*]; done)), (by first | rfl | (simp; done) | (simp [*]; done)), H', ⟨by have := HK1.out; omega⟩, by repeat (first | exact Drawn0.refl _ | apply Drawn0.step)⟩
   ·
    rw [if_neg c6] at H; have c6b0 : decide (x14_1 < ((l1.drop 1).length : Int)) = false := decide_eq_false c6
    (try (have c6b0s := c6b0; simp only [List.length_drop] at c6b0s))
    clear c6
    obtain rfl := Option.some.inj H
    go_wp2
    go_ret
    exact ⟨by first | rfl | (simp; done) | (simp [*]; done), by repeat (first | exact Drawn0.refl _ | apply Drawn0.step)⟩

end Go.Proofs.Ytmfjmbdicjeooaa.MA
