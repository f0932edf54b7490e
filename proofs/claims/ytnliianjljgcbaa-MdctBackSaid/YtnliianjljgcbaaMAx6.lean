/- Functions of the program as plain Lean functions, and that the code comes to their answers. No condition. -/
import Derived.Test.YtnliianjljgcbaaMAx0
import Derived.Test.YtnliianjljgcbaaMAx1
import Derived.Test.YtnliianjljgcbaaMAx2
import Derived.Test.YtnliianjljgcbaaMAx3
import Derived.Test.YtnliianjljgcbaaMAx4
import Derived.Test.YtnliianjljgcbaaMAx5
namespace Go.Proofs.Ytnliianjljgcbaa.MA
open Go.RowKit Go.Proofs.YtnliianjljgcbaaW.PrintWords Go.Proofs.YtnliianjljgcbaaW.PrintLast Go.Proofs.YtnliianjljgcbaaW.PrintMore
attribute [local go_sem] max2_int min2_int max_two min_two max_three min_three max_four min_four
set_option linter.unusedVariables false
set_option linter.unusedSimpArgs false

/-! ### mdct_Joiner_Same: function 23 -/
def mdct_Joiner_Same.f (k : Nat) (a0 : Int) (a1 : Int) (l2 : List Int) (l3 : List Int) : Option (Bool) := if a0 = a0 then (if a1 = a1 then ((slices_Equal_int64_int64.f k l2 l3).bind fun t210 => (some t210)) else (some false)) else (some false)
def mdct_Joiner_Same.T1 : Bool × List (List Nat × List Nat) := (true, [([], []), ([0], [0]), ([1], [1]), ([2], [2]), ([], []), ([4], [4]), ([5], [5]), ([6], [6]), ([3, 7], [3, 7]), ([8], [8]), ([9], [9]), ([10, 9], [9, 10]), ([11, 9], [9, 11]), ([12, 9], [9, 12]), ([9], [9]), ([14, 9], [9, 14]), ([15, 9], [9, 15]), ([16, 9], [9, 16]), ([13, 17, 9], [9, 13, 17]), ([9, 18], [9, 18]), ([19, 9], [19]), ([20], [20]), ([21, 20], [20, 21]), ([22, 20], [20, 22]), ([23, 20], [20, 23]), ([20], [20]), ([25, 20], [20, 25]), ([26, 20], [20, 26]), ([27, 20], [20, 27]), ([24, 28, 20, 20], [20, 24, 28]), ([20, 29], [20, 29]), ([30, 29, 0, 1, 2, 3, 4, 5, 6, 7, 8, 9, 10, 11, 12, 13, 14, 15, 16, 17, 18, 19, 20, 21, 22, 23, 24, 25, 26, 27, 28, 29, 30], [30])])
def mdct_Joiner_Same.B1 : List Nat := [0, 1, 3, 7, 0, 16, 48, 112, 255, 511, 1023, 2047, 4095, 8191, 1023, 17407, 50175, 115711, 262143, 524287, 1048575, 2097151, 4194303, 8388607, 16777215, 2097151, 35651583, 102760447, 236978175, 536870911, 1073741823, 2147483647]
theorem mdct_Joiner_Same.tab1 : rtab .any (opsOf Try.f23 1) = mdct_Joiner_Same.T1 := by kernel_rfl
theorem mdct_Joiner_Same.bits1 : waitsOk mdct_Joiner_Same.T1.2 mdct_Joiner_Same.B1 = true := by kernel_rfl
set_option maxHeartbeats 8000000 in
set_option maxRecDepth 100000 in
theorem mdct_Joiner_Same.walk (k : Nat) (a0 : Int) (a1 : Int) (g h2 : Nat) (base b2 : Nat) (l2 : List Int) (l3 : List Int) (r : Bool) (w : World) (hJ1 : JAt w base g a0 a1 l2) (hJ2 : JAt w b2 h2 a0 a1 l3) (h : mdct_Joiner_Same.f k a0 a1 l2 l3 = some r) :
  Calls Try.prog 23 #[.pointer (some ⟨g, 0, none⟩), .pointer (some ⟨h2, 0, none⟩)] w fun e w' => e = .returned (.bool r) ∧ Below w.heap.size w w' := by
 obtain ⟨_, A2, c2, hg, hr2, hc2, _⟩ := hJ1
 obtain ⟨_, A3, c3, hg3, hr3, hc3, _⟩ := hJ2
 have hS : w.cell? ⟨g, 0, none⟩ = some (.int .i64 a0) ∧ w.cell? ⟨h2, 0, none⟩ = some (.int .i64 a0) ∧ w.cell? ⟨g, 1, none⟩ = some (.int .i64 a1) ∧ w.cell? ⟨h2, 1, none⟩ = some (.int .i64 a1) ∧ w.cell? ⟨g, 2, none⟩ = some (.slice A2 l2.length c2) ∧ w.cell? ⟨h2, 2, none⟩ = some (.slice A3 l3.length c3) := by
  refine ⟨?_, ?_, ?_, ?_, ?_, ?_⟩ <;> simp [World.cell?, hg, hg3]
 have HS := Aside0.mk hS; clear hS hg hg3
 have HR2 := Aside0.mk hr2; have HC2 := Aside0.mk hc2; clear hr2 hc2; have HR3 := Aside0.mk hr3; have HC3 := Aside0.mk hc3; clear hr3 hc3
 have HB := Aside0.mk (Below.refl w.heap.size w)
 have H : (if a0 = a0 then (if a1 = a1 then ((slices_Equal_int64_int64.f k l2 l3).bind fun t210 => (some t210)) else (some false)) else (some false)) = some r := h
 clear h
 by_cases c5 : a0 = a0
 ·
  rw [if_pos c5] at H; have c5b0 : (a0 == a0) = true := beq_iff_eq.mpr c5; have c5b1 : (a0 != a0) = false := bne_eq_false_iff_eq.mpr c5; clear c5
  by_cases c6 : a1 = a1
  ·
   rw [if_pos c6] at H; have c6b0 : (a1 == a1) = true := beq_iff_eq.mpr c6; have c6b1 : (a1 != a1) = false := bne_eq_false_iff_eq.mpr c6; clear c6; replace H := Option.bind_eq_some_iff.mp H; obtain ⟨t210, A70, H⟩ := H
   replace H : (some t210) = some r := H
   have A7 := Aside0.mk A70; clear A70
   obtain rfl := Option.some.inj H
   go_enter Try.func23, Try.ntmps23
   try go_wp2
   have n0_ := Aside0.mk (below_drew1 HB.out)
   clear HB
   have HB := n0_
   clear n0_
   refine start_ (n := 32) (S := fun w' => w'.cell? ⟨g, 0, none⟩ = some (.int .i64 a0) ∧ w'.cell? ⟨h2, 0, none⟩ = some (.int .i64 a0) ∧ w'.cell? ⟨g, 1, none⟩ = some (.int .i64 a1) ∧ w'.cell? ⟨h2, 1, none⟩ = some (.int .i64 a1) ∧ w'.cell? ⟨g, 2, none⟩ = some (.slice A2 l2.length c2) ∧ w'.cell? ⟨h2, 2, none⟩ = some (.slice A3 l3.length c3)) (ds := []) #[false, false, false, false, false, false, false, false, false, false, false, false, false, false, false, false, false, false, false, false, false, false, false, false, false, false, false, false, false, false, false, false] (by kernel_rfl) rfl rfl HS.out (fun hHeld => ?_); refine with_tabW mdct_Joiner_Same.tab1 mdct_Joiner_Same.bits1 (fun HT_ HW_ => ?_)
   generalize w.drew = w8 at HB hHeld ⊢
   refine pure_ (i := 0) (N := some 5) (v := ?_) (a' := ?_) #[true, false, false, false, false, false, false, false, false, false, false, false, false, false, false, false, false, false, false, false, false, false, false, false, false, false, false, false, false, false, false, false] rfl rfl (any_of HT_.out (by kernel_rfl)) (fun _ _ _ h => h) (Or.inl ⟨by rfl, ?_⟩) ?_ ?_
   rotate_left
   ·
    intro w'
    go_simp
    with_reducible rfl
   rotate_left
   ·
    simp only [Act.put, List.setIfInBounds_toArray, List.set_cons_zero, List.set_cons_succ, i64_w, i32_w]
    rfl
   refine pure_ (i := 1) (N := some 6) (v := ?_) (a' := ?_) #[true, true, false, false, false, false, false, false, false, false, false, false, false, false, false, false, false, false, false, false, false, false, false, false, false, false, false, false, false, false, false, false] rfl rfl (any_of HT_.out (by kernel_rfl)) (fun _ _ _ h => h) (Or.inl ⟨by rfl, ?_⟩) ?_ ?_
   rotate_left
   ·
    intro w'
    go_simp
    with_reducible rfl
   rotate_left
   ·
    simp only [Act.put, List.setIfInBounds_toArray, List.set_cons_zero, List.set_cons_succ, i64_w, i32_w]
    rfl
   refine pure_ (i := 2) (N := some 7) (v := ?_) (a' := ?_) #[true, true, true, false, false, false, false, false, false, false, false, false, false, false, false, false, false, false, false, false, false, false, false, false, false, false, false, false, false, false, false, false] rfl rfl (any_of HT_.out (by kernel_rfl)) (fun _ _ _ h => h) (Or.inl ⟨by rfl, ?_⟩) ?_ ?_
   rotate_left
   ·
    intro w'
    go_simp
    with_reducible rfl
   rotate_left
   ·
    simp only [Act.put, List.setIfInBounds_toArray, List.set_cons_zero, List.set_cons_succ, i64_w, i32_w]
    rfl
   refine take_ (i := 3) (N := some 8) (v := ?_) (a' := ?_) #[true, true, true, true, false, false, false, false, false, false, false, false, false, false, false, false, false, false, false, false, false, false, false, false, false, false, false, false, false, false, false, false] rfl rfl (take_ofW HT_.out HW_.out (by kernel_rfl)) (fun _ _ _ h => h) (Or.inl ⟨by rfl, ?_⟩) hHeld ?_ ?_
   rotate_left
   ·
    rintro w' ⟨s0, s1, s2, s3, s4, s5⟩
    go_simp
    with_reducible rfl
   rotate_left
   ·
    simp only [Act.put, List.setIfInBounds_toArray, List.set_cons_zero, List.set_cons_succ, i64_w, i32_w]
    rfl
   refine pure_ (i := 4) (N := some 9) (v := ?_) (a' := ?_) #[true, true, true, true, true, false, false, false, false, false, false, false, false, false, false, false, false, false, false, false, false, false, false, false, false, false, false, false, false, false, false, false] rfl rfl (any_of HT_.out (by kernel_rfl)) (fun _ _ _ h => h) (Or.inl ⟨by rfl, ?_⟩) ?_ ?_
   rotate_left
   ·
    intro w'
    go_simp
    with_reducible rfl
   rotate_left
   ·
    simp only [Act.put, List.setIfInBounds_toArray, List.set_cons_zero, List.set_cons_succ, i64_w, i32_w]
    rfl
   refine pure_ (i := 5) (N := some 10) (v := ?_) (a' := ?_) #[true, true, true, true, true, true, false, false, false, false, false, false, false, false, false, false, false, false, false, false, false, false, false, false, false, false, false, false, false, false, false, false] rfl rfl (any_of HT_.out (by kernel_rfl)) (fun _ _ _ h => h) (Or.inl ⟨by rfl, ?_⟩) ?_ ?_
   rotate_left
   ·
    intro w'
    go_simp
    with_reducible rfl
   rotate_left
   ·
    simp only [Act.put, List.setIfInBounds_toArray, List.set_cons_zero, List.set_cons_succ, i64_w, i32_w]
    rfl
   refine pure_ (i := 6) (N := some 11) (v := ?_) (a' := ?_) #[true, true, true, true, true, true, true, false, false, false, false, false, false, false, false, false, false, false, false, false, false, false, false, false, false, false, false, false, false, false, false, false] rfl rfl (any_of HT_.out (by kernel_rfl)) (fun _ _ _ h => h) (Or.inl ⟨by rfl, ?_⟩) ?_ ?_
   rotate_left
   ·
    intro w'
    go_simp
    with_reducible rfl
   rotate_left
   ·
    simp only [Act.put, List.setIfInBounds_toArray, List.set_cons_zero, List.set_cons_succ, i64_w, i32_w]
    rfl
   refine take_ (i := 7) (N := some 12) (v := ?_) (a' := ?_) #[true, true, true, true, true, true, true, true, false, false, false, false, false, false, false, false, false, false, false, false, false, false, false, false, false, false, false, false, false, false, false, false] rfl rfl (take_ofW HT_.out HW_.out (by kernel_rfl)) (fun _ _ _ h => h) (Or.inl ⟨by rfl, ?_⟩) hHeld ?_ ?_
   rotate_left
   ·
    rintro w' ⟨s0, s1, s2, s3, s4, s5⟩
    go_simp
    with_reducible rfl
   rotate_left
   ·
    simp only [Act.put, List.setIfInBounds_toArray, List.set_cons_zero, List.set_cons_succ, i64_w, i32_w]
    rfl
   refine pure_ (i := 8) (N := some 13) (v := ?_) (a' := ?_) #[true, true, true, true, true, true, true, true, true, false, false, false, false, false, false, false, false, false, false, false, false, false, false, false, false, false, false, false, false, false, false, false] rfl rfl (any_of HT_.out (by kernel_rfl)) (fun _ _ _ h => h) (Or.inl ⟨by rfl, ?_⟩) ?_ ?_
   rotate_left
   ·
    intro w'
    go_simp
    with_reducible rfl
   rotate_left
   ·
    simp only [Act.put, List.setIfInBounds_toArray, List.set_cons_zero, List.set_cons_succ, i64_w, i32_w]
    rfl
   refine pure_ (i := 9) (N := some 14) (v := ?_) (a' := ?_) #[true, true, true, true, true, true, true, true, true, true, false, false, false, false, false, false, false, false, false, false, false, false, false, false, false, false, false, false, false, false, false, false] rfl rfl (any_of HT_.out (by kernel_rfl)) (fun _ _ _ h => h) (Or.inl ⟨by rfl, ?_⟩) ?_ ?_
   rotate_left
   ·
    intro w'
    go_simp
    with_reducible rfl
   rotate_left
   ·
    simp only [Act.put, List.setIfInBounds_toArray, List.set_cons_zero, List.set_cons_succ, i64_w, i32_w]
    rfl
   refine pure_ (i := 10) (N := some 15) (v := ?_) (a' := ?_) #[true, true, true, true, true, true, true, true, true, true, true, false, false, false, false, false, false, false, false, false, false, false, false, false, false, false, false, false, false, false, false, false] rfl rfl (any_of HT_.out (by kernel_rfl)) (fun _ _ _ h => h) (Or.inl ⟨by rfl, ?_⟩) ?_ ?_
   rotate_left
   ·
    intro w'
    go_simp
    with_reducible rfl
   rotate_left
   ·
    simp only [Act.put, List.setIfInBounds_toArray, List.set_cons_zero, List.set_cons_succ, i64_w, i32_w]
    rfl
   refine pure_ (i := 11) (N := some 16) (v := ?_) (a' := ?_) #[true, true, true, true, true, true, true, true, true, true, true, true, false, false, false, false, false, false, false, false, false, false, false, false, false, false, false, false, false, false, false, false] rfl rfl (any_of HT_.out (by kernel_rfl)) (fun _ _ _ h => h) (Or.inl ⟨by rfl, ?_⟩) ?_ ?_
   rotate_left
   ·
    intro w'
    go_simp
    with_reducible rfl
   rotate_left
   ·
    simp only [Act.put, List.setIfInBounds_toArray, List.set_cons_zero, List.set_cons_succ, i64_w, i32_w]
    rfl
   refine pure_ (i := 12) (N := some 17) (v := ?_) (a' := ?_) #[true, true, true, true, true, true, true, true, true, true, true, true, true, false, false, false, false, false, false, false, false, false, false, false, false, false, false, false, false, false, false, false] rfl rfl (any_of HT_.out (by kernel_rfl)) (fun _ _ _ h => h) (Or.inl ⟨by rfl, ?_⟩) ?_ ?_
   rotate_left
   ·
    intro w'
    go_simp
    with_reducible rfl
   rotate_left
   ·
    simp only [Act.put, List.setIfInBounds_toArray, List.set_cons_zero, List.set_cons_succ, i64_w, i32_w]
    rfl
   refine take_ (i := 13) (N := some 18) (v := ?_) (a' := ?_) #[true, true, true, true, true, true, true, true, true, true, true, true, true, true, false, false, false, false, false, false, false, false, false, false, false, false, false, false, false, false, false, false] rfl rfl (take_ofW HT_.out HW_.out (by kernel_rfl)) (fun _ _ _ h => h) (Or.inl ⟨by rfl, ?_⟩) hHeld ?_ ?_
   rotate_left
   ·
    rintro w' ⟨s0, s1, s2, s3, s4, s5⟩
    go_simp
    with_reducible rfl
   rotate_left
   ·
    simp only [Act.put, List.setIfInBounds_toArray, List.set_cons_zero, List.set_cons_succ, i64_w, i32_w]
    rfl
   refine pure_ (i := 14) (N := some 19) (v := ?_) (a' := ?_) #[true, true, true, true, true, true, true, true, true, true, true, true, true, true, true, false, false, false, false, false, false, false, false, false, false, false, false, false, false, false, false, false] rfl rfl (any_of HT_.out (by kernel_rfl)) (fun _ _ _ h => h) (Or.inl ⟨by rfl, ?_⟩) ?_ ?_
   rotate_left
   ·
    intro w'
    go_simp
    with_reducible rfl
   rotate_left
   ·
    simp only [Act.put, List.setIfInBounds_toArray, List.set_cons_zero, List.set_cons_succ, i64_w, i32_w]
    rfl
   refine pure_ (i := 15) (N := some 20) (v := ?_) (a' := ?_) #[true, true, true, true, true, true, true, true, true, true, true, true, true, true, true, true, false, false, false, false, false, false, false, false, false, false, false, false, false, false, false, false] rfl rfl (any_of HT_.out (by kernel_rfl)) (fun _ _ _ h => h) (Or.inl ⟨by rfl, ?_⟩) ?_ ?_
   rotate_left
   ·
    intro w'
    go_simp
    with_reducible rfl
   rotate_left
   ·
    simp only [Act.put, List.setIfInBounds_toArray, List.set_cons_zero, List.set_cons_succ, i64_w, i32_w]
    rfl
   refine pure_ (i := 16) (N := some 21) (v := ?_) (a' := ?_) #[true, true, true, true, true, true, true, true, true, true, true, true, true, true, true, true, true, false, false, false, false, false, false, false, false, false, false, false, false, false, false, false] rfl rfl (any_of HT_.out (by kernel_rfl)) (fun _ _ _ h => h) (Or.inl ⟨by rfl, ?_⟩) ?_ ?_
   rotate_left
   ·
    intro w'
    go_simp
    with_reducible rfl
   rotate_left
   ·
    simp only [Act.put, List.setIfInBounds_toArray, List.set_cons_zero, List.set_cons_succ, i64_w, i32_w]
    rfl
   refine take_ (i := 17) (N := some 22) (v := ?_) (a' := ?_) #[true, true, true, true, true, true, true, true, true, true, true, true, true, true, true, true, true, true, false, false, false, false, false, false, false, false, false, false, false, false, false, false] rfl rfl (take_ofW HT_.out HW_.out (by kernel_rfl)) (fun _ _ _ h => h) (Or.inl ⟨by rfl, ?_⟩) hHeld ?_ ?_
   rotate_left
   ·
    rintro w' ⟨s0, s1, s2, s3, s4, s5⟩
    go_simp
    with_reducible rfl
   rotate_left
   ·
    simp only [Act.put, List.setIfInBounds_toArray, List.set_cons_zero, List.set_cons_succ, i64_w, i32_w]
    rfl
   refine pure_ (i := 18) (N := some 23) (v := ?_) (a' := ?_) #[true, true, true, true, true, true, true, true, true, true, true, true, true, true, true, true, true, true, true, false, false, false, false, false, false, false, false, false, false, false, false, false] rfl rfl (any_of HT_.out (by kernel_rfl)) (fun _ _ _ h => h) (Or.inl ⟨by rfl, ?_⟩) ?_ ?_
   rotate_left
   ·
    intro w'
    go_simp
    with_reducible rfl
   rotate_left
   ·
    simp only [Act.put, List.setIfInBounds_toArray, List.set_cons_zero, List.set_cons_succ, i64_w, i32_w]
    rfl
   refine pure_ (i := 19) (N := some 24) (v := ?_) (a' := ?_) #[true, true, true, true, true, true, true, true, true, true, true, true, true, true, true, true, true, true, true, true, false, false, false, false, false, false, false, false, false, false, false, false] rfl rfl (any_of HT_.out (by kernel_rfl)) (fun _ _ _ h => h) (Or.inl ⟨by rfl, ?_⟩) ?_ ?_
   rotate_left
   ·
    intro w'
    go_simp
    with_reducible rfl
   rotate_left
   ·
    simp only [Act.put, List.setIfInBounds_toArray, List.set_cons_zero, List.set_cons_succ, i64_w, i32_w]
    rfl
   refine pure_ (i := 20) (N := some 25) (v := ?_) (a' := ?_) #[true, true, true, true, true, true, true, true, true, true, true, true, true, true, true, true, true, true, true, true, true, false, false, false, false, false, false, false, false, false, false, false] rfl rfl (any_of HT_.out (by kernel_rfl)) (fun _ _ _ h => h) (Or.inl ⟨by rfl, ?_⟩) ?_ ?_
   rotate_left
   ·
    intro w'
    go_simp
    with_reducible rfl
   rotate_left
   ·
    simp only [Act.put, List.setIfInBounds_toArray, List.set_cons_zero, List.set_cons_succ, i64_w, i32_w]
    rfl
   refine pure_ (i := 21) (N := some 26) (v := ?_) (a' := ?_) #[true, true, true, true, true, true, true, true, true, true, true, true, true, true, true, true, true, true, true, true, true, true, false, false, false, false, false, false, false, false, false, false] rfl rfl (any_of HT_.out (by kernel_rfl)) (fun _ _ _ h => h) (Or.inl ⟨by rfl, ?_⟩) ?_ ?_
   rotate_left
   ·
    intro w'
    go_simp
    with_reducible rfl
   rotate_left
   ·
    simp only [Act.put, List.setIfInBounds_toArray, List.set_cons_zero, List.set_cons_succ, i64_w, i32_w]
    rfl
   refine pure_ (i := 22) (N := some 27) (v := ?_) (a' := ?_) #[true, true, true, true, true, true, true, true, true, true, true, true, true, true, true, true, true, true, true, true, true, true, true, false, false, false, false, false, false, false, false, false] rfl rfl (any_of HT_.out (by kernel_rfl)) (fun _ _ _ h => h) (Or.inl ⟨by rfl, ?_⟩) ?_ ?_
   rotate_left
   ·
    intro w'
    go_simp
    with_reducible rfl
   rotate_left
   ·
    simp only [Act.put, List.setIfInBounds_toArray, List.set_cons_zero, List.set_cons_succ, i64_w, i32_w]
    rfl
   refine pure_ (i := 23) (N := some 28) (v := ?_) (a' := ?_) #[true, true, true, true, true, true, true, true, true, true, true, true, true, true, true, true, true, true, true, true, true, true, true, true, false, false, false, false, false, false, false, false] rfl rfl (any_of HT_.out (by kernel_rfl)) (fun _ _ _ h => h) (Or.inl ⟨by rfl, ?_⟩) ?_ ?_
   rotate_left
   ·
    intro w'
    go_simp
    with_reducible rfl
   rotate_left
   ·
    simp only [Act.put, List.setIfInBounds_toArray, List.set_cons_zero, List.set_cons_succ, i64_w, i32_w]
    rfl
   refine take_ (i := 24) (N := some 29) (v := ?_) (a' := ?_) #[true, true, true, true, true, true, true, true, true, true, true, true, true, true, true, true, true, true, true, true, true, true, true, true, true, false, false, false, false, false, false, false] rfl rfl (take_ofW HT_.out HW_.out (by kernel_rfl)) (fun _ _ _ h => h) (Or.inl ⟨by rfl, ?_⟩) hHeld ?_ ?_
   rotate_left
   ·
    rintro w' ⟨s0, s1, s2, s3, s4, s5⟩
    go_simp
    with_reducible rfl
   rotate_left
   ·
    simp only [Act.put, List.setIfInBounds_toArray, List.set_cons_zero, List.set_cons_succ, i64_w, i32_w]
    rfl
   refine pure_ (i := 25) (N := some 30) (v := ?_) (a' := ?_) #[true, true, true, true, true, true, true, true, true, true, true, true, true, true, true, true, true, true, true, true, true, true, true, true, true, true, false, false, false, false, false, false] rfl rfl (any_of HT_.out (by kernel_rfl)) (fun _ _ _ h => h) (Or.inl ⟨by rfl, ?_⟩) ?_ ?_
   rotate_left
   ·
    intro w'
    go_simp
    with_reducible rfl
   rotate_left
   ·
    simp only [Act.put, List.setIfInBounds_toArray, List.set_cons_zero, List.set_cons_succ, i64_w, i32_w]
    rfl
   refine pure_ (i := 26) (N := some 31) (v := ?_) (a' := ?_) #[true, true, true, true, true, true, true, true, true, true, true, true, true, true, true, true, true, true, true, true, true, true, true, true, true, true, true, false, false, false, false, false] rfl rfl (any_of HT_.out (by kernel_rfl)) (fun _ _ _ h => h) (Or.inl ⟨by rfl, ?_⟩) ?_ ?_
   rotate_left
   ·
    intro w'
    go_simp
    with_reducible rfl
   rotate_left
   ·
    simp only [Act.put, List.setIfInBounds_toArray, List.set_cons_zero, List.set_cons_succ, i64_w, i32_w]
    rfl
   refine pure_ (i := 27) (N := some 32) (v := ?_) (a' := ?_) #[true, true, true, true, true, true, true, true, true, true, true, true, true, true, true, true, true, true, true, true, true, true, true, true, true, true, true, true, false, false, false, false] rfl rfl (any_of HT_.out (by kernel_rfl)) (fun _ _ _ h => h) (Or.inl ⟨by rfl, ?_⟩) ?_ ?_
   rotate_left
   ·
    intro w'
    go_simp
    with_reducible rfl
   rotate_left
   ·
    simp only [Act.put, List.setIfInBounds_toArray, List.set_cons_zero, List.set_cons_succ, i64_w, i32_w]
    rfl
   refine take_ (i := 28) (N := some 33) (v := ?_) (a' := ?_) #[true, true, true, true, true, true, true, true, true, true, true, true, true, true, true, true, true, true, true, true, true, true, true, true, true, true, true, true, true, false, false, false] rfl rfl (take_ofW HT_.out HW_.out (by kernel_rfl)) (fun _ _ _ h => h) (Or.inl ⟨by rfl, ?_⟩) hHeld ?_ ?_
   rotate_left
   ·
    rintro w' ⟨s0, s1, s2, s3, s4, s5⟩
    go_simp
    with_reducible rfl
   rotate_left
   ·
    simp only [Act.put, List.setIfInBounds_toArray, List.set_cons_zero, List.set_cons_succ, i64_w, i32_w]
    rfl
   refine one_ (i := 29) (N := some 34) #[true, true, true, true, true, true, true, true, true, true, true, true, true, true, true, true, true, true, true, true, true, true, true, true, true, true, true, true, true, true, false, false] rfl rfl (one_of HT_.out (by kernel_rfl)) (by decide) (fun K hK => ?_)
   refine goes_ Try.func38 (by kernel_rfl) rfl #[.slice A2 l2.length c2, .slice A3 l3.length c3] (by rfl) rfl rfl (by (try simp only [List.map_toArray, List.map_cons, List.map_nil]); first | done | rfl | (simp only [List.length_drop, List.length_take]; rfl)) ?_
   with_reducible refine (slices_Equal_int64_int64.calls k _ _ l2 _ _ l3 t210 _ ?side1 ?side2 ?side3 ?side4 A7.out).mono ?_
   (case side1 => repeat (first | exact (Kd.C_below HR2.out HB.out) | (with_reducible refine Kd.C_alloc ?_ _) | (with_reducible refine Kd.C_drewN ?_ _) | (with_reducible refine Kd.C_drew ?_)))
   (case side2 => exact HC2.out)
   (case side3 => repeat (first | exact (Kd.C_below HR3.out HB.out) | (with_reducible refine Kd.C_alloc ?_ _) | (with_reducible refine Kd.C_drewN ?_ _) | (with_reducible refine Kd.C_drew ?_)))
   (case side4 => exact HC3.out)
   rintro e w' ⟨rfl, ⟨nd, rfl⟩⟩
   refine ⟨_, rfl, ?_⟩
   refine hK.out _ _ hHeld (fun hHeld => ?_)
   clear hK K
   refine norm_ (a' := ?_) ?_ ?_
   rotate_left
   ·
    show Act.put _ (some 34) _ = _
    simp only [Act.put, List.setIfInBounds_toArray, List.set_cons_zero, List.set_cons_succ, i64_w, i32_w]
    rfl
   refine pure_ (i := 30) (N := some 35) (v := ?_) (a' := ?_) #[true, true, true, true, true, true, true, true, true, true, true, true, true, true, true, true, true, true, true, true, true, true, true, true, true, true, true, true, true, true, true, false] rfl rfl (any_of HT_.out (by kernel_rfl)) (fun _ _ _ h => h) (Or.inl ⟨by rfl, ?_⟩) ?_ ?_
   rotate_left
   ·
    intro w'
    go_simp
    with_reducible rfl
   rotate_left
   ·
    simp only [Act.put, List.setIfInBounds_toArray, List.set_cons_zero, List.set_cons_succ, i64_w, i32_w]
    rfl
   refine pure_ (i := 31) (N := some 4) (v := ?_) (a' := ?_) #[true, true, true, true, true, true, true, true, true, true, true, true, true, true, true, true, true, true, true, true, true, true, true, true, true, true, true, true, true, true, true, true] rfl rfl (any_of HT_.out (by kernel_rfl)) (fun _ _ _ h => h) (Or.inl ⟨by rfl, ?_⟩) ?_ ?_
   rotate_left
   ·
    intro w'
    go_simp
    with_reducible rfl
   rotate_left
   ·
    simp only [Act.put, List.setIfInBounds_toArray, List.set_cons_zero, List.set_cons_succ, i64_w, i32_w]
    rfl
   refine done_ (done_of HT_.out (by kernel_rfl)) ?_
   try go_wp2
   go_ret
   exact ⟨by first | rfl | (simp [errW_none, errW_some] <;> rfl) | (simp [*, errW_none, errW_some] <;> rfl), by repeat (with_reducible first | exact HB.out | apply below_alloc | apply pw_below_drewN | apply below_drew1)⟩
  ·
   exact absurd rfl c6
 ·
  exact absurd rfl c5

/-! ### mdct_Joiner_Reset: function 25 -/
set_option maxHeartbeats 8000000 in
set_option maxRecDepth 100000 in
theorem mdct_Joiner_Reset.walk (a0 a1 : Int) (base g : Nat) (ys : List Int) (w : World) (hn : 0 ≤ a0 ∧ a0 ≤ 1000000) (hJ : JAt w base g a0 a1 ys) :
  Calls Try.prog 25 #[.pointer (some ⟨g, 0, none⟩)] w fun e w' => e = .returned (.tuple #[]) ∧ JAt w' base g a0 a1 (List.replicate a0.toNat 0) ∧ Keeps w w' g := by
 have hJ2 := hJ
 obtain ⟨hbg, A2, c2, hg, hC, hc, hA⟩ := hJ2
 have hlt : g < w.heap.size := blk_lt hg
 have hs0 : w.cell? ⟨g, 0, none⟩ = some (.int .i64 a0) := by simp [World.cell?, hg]
 have hs2 : w.cell? ⟨g, 2, none⟩ = some (.slice A2 ys.length c2) := by simp [World.cell?, hg]
 have GB := Aside0.mk hlt; have G2 := Aside0.mk hs2; have GH := Aside0.mk hg; clear hg hs2 hC hc hA
 have HB := Aside0.mk (Below.refl w.heap.size w)
 have p0 : 0 ≤ a0 := hn.1
 have hb0 : a0.toNat ≤ 1000000 := by omega
 replace p0 := eq_true p0
 have HJ := Aside0.mk hJ; clear hJ
 go_enter Try.func25, Try.ntmps25
 go_wp2_with (first
  | ((with_reducible refine gate_dst (N := 7) rfl ?_); refine Kd.R_make (Kd.int .i64) _ 2 rfl (N := 7) rfl 23 _ _ rfl a0 rfl rfl Try.underlying23 (.int .i64 0) 8 info2 rfl (by decide) (by omega) 0 (ok := fun _ => True) (okp := fun _ => True) rfl (fun _ hk => hk) trivial (of_eq_true p0) (Nat.le_trans (Nat.mul_le_mul_right _ hb0) (by omega)) (Below.refl _ _) (Nat.le_refl _) ?_; intro v211 w11 ho12 hb hg_ hnew_; clear hg_ hnew_; obtain ⟨Ao13, co13, eo13⟩ := Kd.R_slice ho12; subst eo13; have HO := Aside0.mk ho12; clear ho12; have HB11 := Aside0.mk (below_step (by repeat (with_reducible first | exact HB.out | apply below_alloc | apply pw_below_drewN | apply below_drew1)) hb); clear hb; have hs2e := (HB11.out.cell GB.out).trans G2.out; have hfe : w11.frozen? ⟨g, 2, none⟩ = false := by simp [World.frozen?, HB11.out.block g GB.out, GH.out])
  | ((with_reducible refine gate_store (t := 23) (p := 9) rfl ?_); refine store_event (t := 23) (p := 9) (v := ?vo_z) (w1 := (w11.setCell ⟨g, 2, none⟩ (.slice Ao13 (List.replicate a0.toNat (0 : Int)).length co13))) ?hg ?ho ?hn ?hr ?_; (case ho => rfl); (case hg => rfl); (case hn => rfl); (case hr => first | (go_simp; done) | (go_simp; rfl)); intro wz hw))
 go_end0
 have hsz := HB11.out.size
 have hbase := Kd.R_base HO.out
 have hge := HJ.out.1
 have hbw : base ≤ w.heap.size := by omega
 refine ⟨rfl, ?_, by rw [hw]; exact keep_store HB11.out⟩
 rw [hw]
 refine JAt.store hge ((HB11.out.block g GB.out).trans GH.out) (Kd.R_reads' HO.out).2.2 (Kd.R_reads' HO.out).2.1 (fun ad had => ?_)
 subst had
 have h1 := hbase ad.block rfl
 have h2 := GB.out
 exact ⟨by omega, by omega⟩

/-! ### madrigallaw15_awake: function 9 -/
def s8 : List Int := [0, 7473, 31905, 32768, 32768, 31905, 7473, 0]
def y8 : List Int := [0, 22, -95, -278, -416, -477, -112, 0]
theorem R_keepbut {e base g : Nat} {ok : Nat → Prop} {W W2 : World} {v : Value} {xs : List Int} (h : Kd.R (Kd.int .i64) e W base ok v xs) (hk : KeepBut W W2 g none) (hg : ∀ k, v.ownBlock = some k → k ≠ g) : Kd.R (Kd.int .i64) e W2 base (fun _ => True) v xs := by
 have h1 := Kd.R_bound h
 refine Kd.R_mono (Kd.R_move (Kd.R_bound (Kd.R_mono (ok' := fun k => k ≠ g) ?_ (fun _ hk => hk))) (fun k hk2 => hk.2 k hk2.2.2.1 hk2.1 (by simp))) (fun _ _ => trivial)
 exact ⟨hg, h1.2.imp_ (fun _ _ hp => hp)⟩
/-- A block that is joined. -/
theorem mdct_Joiner_Next.joins (k : Nat) (a0 a1 : Int) (base g : Nat) (l2 : List Int) (A3 : Option Addr) (c3 : Nat) (l3 : List Int) (r1 y : List Int) (w : World) (hJ : JAt w base g a0 a1 l2) (hr3 : Kd.C (Kd.int .i64) w A3 l3.length l3) (hc3 : l3.length ≤ c3) (hl : (l3.length : Int) = a0) (hI : mdct_Inverse.f k l3 a1 = some (y, 0)) (h : mdct_Joiner_Next.f k a0 a1 l2 l3 = some (r1, 0)) :
 Calls Try.prog 14 #[.pointer (some ⟨g, 0, none⟩), .slice A3 l3.length c3] w fun e w' => ∃ v0_ : Value, e = .returned (.tuple #[v0_, .int .i64 0]) ∧ Kd.R (Kd.int .i64) 2 w' w.heap.size (fun _ => True) v0_ r1 ∧ JAt w' base g a0 a1 (y.drop a0.toNat) ∧ Keeps w w' g := by
 obtain ⟨hbg, A2, c2, hg, hr2, hc2, hA⟩ := hJ
 refine (mdct_Joiner_Next.walk k a0 a1 g A2 c2 l2 A3 c3 l3 r1 0 w hg hr2 hc2 hr3 hc3 h).mono ?_
 rintro e w' ⟨v0, he, hR, _, hP⟩
 obtain ⟨hk, A, c, hg', hC, hc, hA'⟩ := hP y hl hI
 have hlt := blk_lt hg
 exact ⟨v0, he, hR, ⟨hbg, A, c, hg', hC, hc, fun ad had => by have := hA' ad had; exact ⟨by omega, by omega⟩⟩, hk⟩
set_option maxHeartbeats 8000000 in
set_option maxRecDepth 100000 in
theorem awake_walk (w : World) : Calls Try.prog 9 #[] w fun e w' => e = .returned (.bool true) ∧ Below w.heap.size w w' := by
 have HSh : Aside0 (mdct_Shape.f 3000 4 2 = some (s8, 0)) := ⟨by kernel_rfl⟩
 have HFo : Aside0 (mdct_Forward.f 3000 (List.replicate (8 : Int).toNat 0) 2 = some (List.replicate 4 0, 0)) := ⟨by kernel_rfl⟩
 have HIn : Aside0 (mdct_Inverse.f 3000 [1000, 0, 0, 0] 2 = some (y8, 0)) := ⟨by kernel_rfl⟩
 have HGo : Aside0 (mdct_Good.f 4 2 = some true) := ⟨by kernel_rfl⟩
 have HG1 : Aside0 (mdct_Good.f 80 20 = some true) := ⟨by kernel_rfl⟩
 have HG2 : Aside0 (mdct_Good.f 80 21 = some false) := ⟨by kernel_rfl⟩
 have HNe : Aside0 (mdct_Joiner_Next.f 3000 4 2 (List.replicate 4 0) [1000, 0, 0, 0] = some (y8.take 4, 0)) := ⟨by kernel_rfl⟩
 have HSa : Aside0 (madrigallaw15_same.f 3000 (List.replicate 4 0) (List.replicate (4 : Int).toNat 0) = some true) := ⟨by kernel_rfl⟩
 have HSm : Aside0 (mdct_Joiner_Same.f 3000 4 2 (y8.drop 4) (List.replicate (4 : Int).toNat 0) = some false) := ⟨by kernel_rfl⟩
 go_enter Try.func9, Try.ntmps9
 go_wp2_with (first
  | ((with_reducible refine gate_callee (f := 10) rfl ?_); refine goesL_ (some 13) rfl rfl Try.func10 (by kernel_rfl) rfl #[.int .i64 4, .int .i64 2] rfl (by (try simp only [List.map_toArray, List.map_cons, List.map_nil]); first | done | rfl) ?_; (with_reducible refine (mdct_Shape.calls 3000 4 2 s8 0 _ HSh.out).mono ?_); rintro e w1 ⟨v1, rfl, ho, hb⟩; refine ⟨_, rfl, ?_⟩; obtain ⟨A1, k1, e1⟩ := Kd.R_slice ho; subst e1; have FS1 := Aside0.mk ho; have HB1 := Aside0.mk hb; clear ho hb)
  | ((with_reducible refine gate_dst (N := 17) rfl ?_); (try (refine gate_guard (by rfl) ?_; dsimp only)); refine Kd.R_make (Kd.int .i64) _ 2 rfl (N := 17) rfl 23 _ _ rfl 8 rfl rfl Try.underlying23 (.int .i64 0) 8 info2 rfl (by decide) (by omega) 0 (ok := fun _ => True) (okp := fun _ => True) rfl (fun _ hk => hk) trivial (by omega) (by omega) (Below.refl _ _) (Nat.le_refl _) ?_; intro v2 w2 ho hb _ _; obtain ⟨A2, k2, e2⟩ := Kd.R_slice ho; subst e2; have FZ2 := Aside0.mk ho; have HB2 := Aside0.mk (below_step HB1.out hb); have FS2 := Aside0.mk (Kd.R_below FS1.out hb); clear ho hb)
  | ((with_reducible refine gate_callee (f := 11) rfl ?_); refine goesL_ (some 18) rfl rfl Try.func11 (by kernel_rfl) rfl #[.slice A2 (List.replicate (8 : Int).toNat (0 : Int)).length k2, .int .i64 2] rfl (by (try simp only [List.map_toArray, List.map_cons, List.map_nil]); first | done | rfl) ?_; (with_reducible refine (mdct_Forward.calls 3000 _ _ (List.replicate (8 : Int).toNat 0) 2 (List.replicate 4 0) 0 _ ?side1 ?side2 HFo.out).mono ?_); (case side1 => exact (Kd.R_reads' FZ2.out).2.2); (case side2 => exact (Kd.R_reads' FZ2.out).2.1); rintro e w3 ⟨v3, rfl, ho, hb⟩; refine ⟨_, rfl, ?_⟩; obtain ⟨A3, k3, e3⟩ := Kd.R_slice ho; subst e3; have FF3 := Aside0.mk ho; have HB3 := Aside0.mk (below_step HB2.out hb); have FS3 := Aside0.mk (Kd.R_below FS2.out hb); clear ho hb)
  | ((with_reducible refine gate_dst (N := 22) rfl ?_); (try (refine gate_guard (by rfl) ?_; dsimp only)); refine Kd.R_lit (Kd.int .i64) _ 2 ?hg (N := 22) ?hd (xs := ([1000, 0, 0, 0] : List Int)) (inner := [.int .i64 1000, .int .i64 0, .int .i64 0, .int .i64 0]) (ok := fun _ => True) (okp := fun _ => True) ?hr ?hp (fun _ hk => hk) trivial (Below.refl _ _) (Nat.le_refl _) (by simp) ?_; (case hd => rfl); (case hg => rfl); (case hr => first | (go_simp; done) | (go_simp; rfl)); (case hp => exact (Reps.one (show Kd.M (Kd.int .i64) _ _ _ 1000 [.int .i64 1000] from rfl) (Reps.one (show Kd.M (Kd.int .i64) _ _ _ 0 [.int .i64 0] from rfl) (Reps.one (show Kd.M (Kd.int .i64) _ _ _ 0 [.int .i64 0] from rfl) (Reps.one (show Kd.M (Kd.int .i64) _ _ _ 0 [.int .i64 0] from rfl) (Reps.none _ _)))))); intro v4 w4 ho hb _ _; obtain ⟨A4, k4, e4⟩ := Kd.R_slice ho; subst e4; have FL4 := Aside0.mk ho; have HB4 := Aside0.mk (below_step HB3.out hb); have FS4 := Aside0.mk (Kd.R_below FS3.out hb); have FF4 := Aside0.mk (Kd.R_below FF3.out hb); clear ho hb)
  | ((with_reducible refine gate_callee (f := 12) rfl ?_); refine goesL_ (some 23) rfl rfl Try.func12 (by kernel_rfl) rfl #[.slice A4 ([1000, 0, 0, 0] : List Int).length k4, .int .i64 2] rfl (by (try simp only [List.map_toArray, List.map_cons, List.map_nil]); first | done | rfl) ?_; (with_reducible refine (mdct_Inverse.calls 3000 _ _ [1000, 0, 0, 0] 2 y8 0 _ ?side1 ?side2 HIn.out).mono ?_); (case side1 => exact (Kd.R_reads' FL4.out).2.2); (case side2 => exact (Kd.R_reads' FL4.out).2.1); rintro e w5 ⟨v5, rfl, ho, hb⟩; refine ⟨_, rfl, ?_⟩; obtain ⟨A5, k5, e5⟩ := Kd.R_slice ho; subst e5; have FY5 := Aside0.mk ho; have HB5 := Aside0.mk (below_step HB4.out hb); have FS5 := Aside0.mk (Kd.R_below FS4.out hb); have FF5 := Aside0.mk (Kd.R_below FF4.out hb); have LS := Aside0.mk (Kd.R_lt FS5.out); have LF := Aside0.mk (Kd.R_lt FF5.out); have LY := Aside0.mk (Kd.R_lt FY5.out); clear ho hb)
  | ((with_reducible refine gate_callee (f := 13) rfl ?_); refine goesL_ (some 27) rfl rfl Try.func13 (by kernel_rfl) rfl #[.int .i64 4, .int .i64 2] rfl (by (try simp only [List.map_toArray, List.map_cons, List.map_nil]); first | done | rfl) ?_; (with_reducible refine (mdct_New.good 4 2 _ (by omega) HGo.out).mono ?_); rintro e w6 ⟨g, rfl, hJ, hb⟩; refine ⟨_, rfl, ?_⟩; have J6 := Aside0.mk (show JAt w6 w5.heap.size g 4 2 (List.replicate 4 0) from hJ); have HB6 := Aside0.mk (below_step HB5.out hb); have FS6 := Aside0.mk (Kd.R_below FS5.out hb); have FF6 := Aside0.mk (Kd.R_below FF5.out hb); have FY6 := Aside0.mk (Kd.R_below FY5.out hb); clear hJ hb)
  | ((with_reducible refine gate_dst (N := 38) rfl ?_); (try (refine gate_guard (by rfl) ?_; dsimp only)); refine Kd.R_lit (Kd.int .i64) _ 2 ?hg (N := 38) ?hd (xs := ([1000, 0, 0, 0] : List Int)) (inner := [.int .i64 1000, .int .i64 0, .int .i64 0, .int .i64 0]) (ok := fun _ => True) (okp := fun _ => True) ?hr ?hp (fun _ hk => hk) trivial (Below.refl _ _) (Nat.le_refl _) (by simp) ?_; (case hd => rfl); (case hg => rfl); (case hr => first | (go_simp; done) | (go_simp; rfl)); (case hp => exact (Reps.one (show Kd.M (Kd.int .i64) _ _ _ 1000 [.int .i64 1000] from rfl) (Reps.one (show Kd.M (Kd.int .i64) _ _ _ 0 [.int .i64 0] from rfl) (Reps.one (show Kd.M (Kd.int .i64) _ _ _ 0 [.int .i64 0] from rfl) (Reps.one (show Kd.M (Kd.int .i64) _ _ _ 0 [.int .i64 0] from rfl) (Reps.none _ _)))))); intro v7 w7 ho hb _ _; obtain ⟨A7, k7, e7⟩ := Kd.R_slice ho; subst e7; have FL7 := Aside0.mk ho; have HB7 := Aside0.mk (below_step HB6.out hb); have FS7 := Aside0.mk (Kd.R_below FS6.out hb); have FF7 := Aside0.mk (Kd.R_below FF6.out hb); have FY7 := Aside0.mk (Kd.R_below FY6.out hb); have J7 := Aside0.mk (J6.out.below hb); clear ho hb)
  | ((with_reducible refine gate_callee (f := 14) rfl ?_); refine goesL_ (some 39) rfl rfl Try.func14 (by kernel_rfl) rfl #[.pointer (some ⟨g, 0, none⟩), .slice A7 ([1000, 0, 0, 0] : List Int).length k7] rfl (by (try simp only [List.map_toArray, List.map_cons, List.map_nil]); first | done | rfl) ?_; (with_reducible refine (mdct_Joiner_Next.joins 3000 4 2 w5.heap.size g (List.replicate 4 0) _ _ [1000, 0, 0, 0] (y8.take 4) y8 _ J7.out ?side1 ?side2 rfl HIn.out HNe.out).mono ?_); (case side1 => exact (Kd.R_reads' FL7.out).2.2); (case side2 => exact (Kd.R_reads' FL7.out).2.1); rintro e w8 ⟨v8, rfl, ho, hJ, hk⟩; refine ⟨_, rfl, ?_⟩; obtain ⟨A8, k8, e8⟩ := Kd.R_slice ho; subst e8; have J8 := Aside0.mk (show JAt w8 w5.heap.size g 4 2 (y8.drop 4) from hJ); have hg := J6.out.1; have HB8 := Aside0.mk (below_keep HB7.out hk (Nat.le_trans HB5.out.size hg)); have FS8 := Aside0.mk (R_keepbut FS7.out hk.1 (fun k_ e_ => by have := LS.out k_ e_; omega)); have FF8 := Aside0.mk (R_keepbut FF7.out hk.1 (fun k_ e_ => by have := LF.out k_ e_; omega)); have FY8 := Aside0.mk (R_keepbut FY7.out hk.1 (fun k_ e_ => by have := LY.out k_ e_; omega)); clear ho hJ hk hg)
  | ((with_reducible refine gate_callee (f := 22) rfl ?_); refine goesL_ (some 43) rfl rfl Try.func22 (by kernel_rfl) rfl #[.pointer (some ⟨g, 0, none⟩)] rfl (by (try simp only [List.map_toArray, List.map_cons, List.map_nil]); first | done | rfl) ?_; (with_reducible refine (mdct_Joiner_Copy.walk 4 2 w5.heap.size g (y8.drop 4) _ (by decide) (by decide) J8.out).mono ?_); rintro e w9 ⟨g', rfl, hJ, hb⟩; refine ⟨_, rfl, ?_⟩; have C9 := Aside0.mk hJ; have J9 := Aside0.mk (J8.out.below hb); have HB9 := Aside0.mk (below_step HB8.out hb); have FS9 := Aside0.mk (Kd.R_below FS8.out hb); have FF9 := Aside0.mk (Kd.R_below FF8.out hb); have FY9 := Aside0.mk (Kd.R_below FY8.out hb); have LG := Aside0.mk J8.out.lt; clear hJ hb)
  | ((with_reducible refine gate_callee (f := 25) rfl ?_); refine goesL_ (some 45) rfl rfl Try.func25 (by kernel_rfl) rfl #[.pointer (some ⟨g, 0, none⟩)] rfl (by (try simp only [List.map_toArray, List.map_cons, List.map_nil]); first | done | rfl) ?_; (with_reducible refine (mdct_Joiner_Reset.walk 4 2 w5.heap.size g (y8.drop 4) _ (by omega) J9.out).mono ?_); rintro e w10 ⟨rfl, hJ, hk⟩; refine ⟨_, rfl, ?_⟩; have J10 := Aside0.mk hJ; have hg := J6.out.1; have C10 := Aside0.mk (C9.out.keep (fun i hi hb => hk.1.2 i hi (by have := LG.out; omega) (by simp))); have HB10 := Aside0.mk (below_keep HB9.out hk (Nat.le_trans HB5.out.size hg)); have FS10 := Aside0.mk (R_keepbut FS9.out hk.1 (fun k_ e_ => by have := LS.out k_ e_; omega)); have FF10 := Aside0.mk (R_keepbut FF9.out hk.1 (fun k_ e_ => by have := LF.out k_ e_; omega)); have FY10 := Aside0.mk (R_keepbut FY9.out hk.1 (fun k_ e_ => by have := LY.out k_ e_; omega)); clear hJ hk hg)
  | ((with_reducible refine gate_callee (f := 16) rfl ?_); refine goesL_ (some 46) rfl rfl Try.func16 (by kernel_rfl) rfl #[.int .i64 80, .int .i64 20] rfl (by (try simp only [List.map_toArray, List.map_cons, List.map_nil]); first | done | rfl) ?_; (with_reducible refine (mdct_Good.calls 80 20 true _ HG1.out).mono ?_); rintro e w' ⟨rfl, ⟨nd, rfl⟩⟩; refine ⟨_, rfl, ?_⟩)
  | (go_at_call 16; (with_reducible refine (mdct_Good.calls 80 21 false _ HG2.out).mono ?_); rintro e w' ⟨rfl, ⟨nd, rfl⟩⟩; obtain ⟨ad1, e1, hx1⟩ := Kd.at_int (Kd.R_reads' FS10.out).2.2 3 (by decide) (by decide); cases e1; (try simp only [show (3 : Int).toNat = 3 from rfl, Go.Addr.add, Nat.reduceEqDiff, ↓reduceIte] at hx1); replace hx1 : w10.cell? _ = some (.int .i64 32768) := hx1)
  | ((with_reducible refine gate_dst (N := 72) rfl ?_); (try (refine gate_guard (by rfl) ?_; dsimp only)); refine Kd.R_make (Kd.int .i64) _ 2 rfl (N := 72) rfl 23 _ _ rfl 4 rfl rfl Try.underlying23 (.int .i64 0) 8 info2 rfl (by decide) (by omega) 0 (ok := fun _ => True) (okp := fun _ => True) rfl (fun _ hk => hk) trivial (by omega) (by omega) (Below.refl _ _) (Nat.le_refl _) ?_; intro v11 w11 ho hb _ _; obtain ⟨A11, k11, e11⟩ := Kd.R_slice ho; subst e11; have FZ11 := Aside0.mk ho; have HB11 := Aside0.mk (below_step (by repeat (with_reducible first | exact HB10.out | apply below_alloc | apply pw_below_drewN | apply below_drew1)) hb); have FF11 := Aside0.mk (Kd.R_below (by (with_reducible repeat first | apply Kd.R_alloc | apply Kd.R_drewN | apply Kd.R_drew); exact FF10.out) hb); have FY11 := Aside0.mk (Kd.R_below (by (with_reducible repeat first | apply Kd.R_alloc | apply Kd.R_drewN | apply Kd.R_drew); exact FY10.out) hb); have J11 := Aside0.mk (J10.out.keep (fun i hi _ => hb.block i hi)); have C11 := Aside0.mk (C10.out.keep (fun i hi _ => hb.block i hi)); clear ho hb)
  | (go_at_call 17; (refine (madrigallaw15_same.calls 3000 _ _ (List.replicate 4 0) _ _ (List.replicate (4 : Int).toNat 0) true _ ?side1 ?side2 ?side3 ?side4 HSa.out).mono ?_); (case side1 => exact (Kd.R_reads' FF11.out).2.2); (case side2 => exact (Kd.R_reads' FF11.out).2.1); (case side3 => exact (Kd.R_reads' FZ11.out).2.2); (case side4 => exact (Kd.R_reads' FZ11.out).2.1); rintro e w' ⟨rfl, ⟨nd, rfl⟩⟩; obtain ⟨ad2, e2, hx2⟩ := Kd.at_int (Kd.R_reads' FY11.out).2.2 3 (by decide) (by decide); cases e2; (try simp only [show (3 : Int).toNat = 3 from rfl, Go.Addr.add, Nat.reduceEqDiff, ↓reduceIte] at hx2); replace hx2 : w11.cell? _ = some (.int .i64 (-278)) := hx2)
  | (go_at_call 23; ((refine (mdct_Joiner_Same.walk 3000 4 2 g' g _ _ (y8.drop 4) (List.replicate (4 : Int).toNat 0) false (w11.drewN nd) (C11.out.keep (W := w11.drewN nd) (fun _ _ _ => rfl)) (J11.out.keep (W := w11.drewN nd) (fun _ _ _ => rfl)) HSm.out).mono ?_; rintro e w12 ⟨rfl, hb⟩; have HB12 := Aside0.mk (below_step (by repeat (with_reducible first | exact HB11.out | apply below_alloc | apply pw_below_drewN | apply below_drew1)) hb); clear hb))))
 go_ret
 exact ⟨rfl, HB12.out⟩
def madrigallaw15_awake.f : Option Bool := some true
theorem madrigallaw15_awake.calls (r : Bool) (w : World) (h : madrigallaw15_awake.f = some r) :
  Calls Try.prog 9 #[] w fun e w' => e = .returned (.bool r) ∧ Below w.heap.size w w' := by
 obtain rfl : r = true := (Option.some.inj h).symm
 exact awake_walk w

-- NOT PRINTED: function 3 (madrigallaw15_MdctKnown)

/-! ### madrigalref10_GoodBlock: function 15 -/
def madrigalref10_GoodBlock.f (a0 : Int) (a1 : Int) : Option (Bool) := if a0 ≥ 4 then (if a0 ≤ 480 then (if a1 ≥ 2 then (if a1 ≤ a0 then (some ((Int.tmod (wrap64 (a0 - a1)) 2) == 0)) else (some false)) else (some false)) else (some false)) else (some false)
set_option maxHeartbeats 8000000 in
set_option maxRecDepth 100000 in
theorem madrigalref10_GoodBlock.calls (a0 : Int) (a1 : Int) (r : Bool) (w : World) (h : madrigalref10_GoodBlock.f a0 a1 = some r) :
  Calls Try.prog 15 #[.int .i64 a0, .int .i64 a1] w fun e w' => e = .returned (.bool r) ∧ Drawn0 w w' := by
 have H : (if a0 ≥ 4 then (if a0 ≤ 480 then (if a1 ≥ 2 then (if a1 ≤ a0 then (some ((Int.tmod (wrap64 (a0 - a1)) 2) == 0)) else (some false)) else (some false)) else (some false)) else (some false)) = some r := h
 clear h
 by_cases c3 : a0 ≥ 4
 ·
  rw [if_pos c3] at H; have c3b0 : decide (4 ≤ a0) = true := decide_eq_true c3; clear c3
  by_cases c4 : a0 ≤ 480
  ·
   rw [if_pos c4] at H; have c4b0 : decide (a0 ≤ 480) = true := decide_eq_true c4; clear c4
   by_cases c5 : a1 ≥ 2
   ·
    rw [if_pos c5] at H; have c5b0 : decide (2 ≤ a1) = true := decide_eq_true c5; clear c5
    by_cases c6 : a1 ≤ a0
    ·
     rw [if_pos c6] at H; have c6b0 : decide (a1 ≤ a0) = true := decide_eq_true c6; clear c6
     obtain rfl := Option.some.inj H
     go_enter Try.func15, Try.ntmps15
     go_wp2
     go_ret
     exact ⟨by first | rfl | (simp; done) | (simp [*]; done), by repeat (first | exact Drawn0.refl _ | apply Drawn0.step)⟩
    ·
     rw [if_neg c6] at H; have c6b0 : decide (a1 ≤ a0) = false := decide_eq_false c6; clear c6
     obtain rfl := Option.some.inj H
     go_enter Try.func15, Try.ntmps15
     go_wp2
     go_ret
     exact ⟨by first | rfl | (simp; done) | (simp [*]; done), by repeat (first | exact Drawn0.refl _ | apply Drawn0.step)⟩
   ·
    rw [if_neg c5] at H; have c5b0 : decide (2 ≤ a1) = false := decide_eq_false c5; clear c5
    obtain rfl := Option.some.inj H
    go_enter Try.func15, Try.ntmps15
    go_wp2
    go_ret
    exact ⟨by first | rfl | (simp; done) | (simp [*]; done), by repeat (first | exact Drawn0.refl _ | apply Drawn0.step)⟩
  ·
   rw [if_neg c4] at H; have c4b0 : decide (a0 ≤ 480) = false := decide_eq_false c4; clear c4
   obtain rfl := Option.some.inj H
   go_enter Try.func15, Try.ntmps15
   go_wp2
   go_ret
   exact ⟨by first | rfl | (simp; done) | (simp [*]; done), by repeat (first | exact Drawn0.refl _ | apply Drawn0.step)⟩
 ·
  rw [if_neg c3] at H; have c3b0 : decide (4 ≤ a0) = false := decide_eq_false c3; clear c3
  obtain rfl := Option.some.inj H
  go_enter Try.func15, Try.ntmps15
  go_wp2
  go_ret
  exact ⟨by first | rfl | (simp; done) | (simp [*]; done), by repeat (first | exact Drawn0.refl _ | apply Drawn0.step)⟩

/-! ### madrigalref1_Clamp: function 35 -/
def madrigalref1_Clamp.j0 : Nat → Int → Int → Int → Bool → Option (Int)
 | 0, _, _, _, _ => none
 | k + 1, x0, x1, x2, x7 => if x7 = true then (some x1) else (if x0 > x2 then (some x2) else (some x0))
def madrigalref1_Clamp.f (k : Nat) (a0 : Int) (a1 : Int) (a2 : Int) : Option (Int) := if a0 < a1 then (madrigalref1_Clamp.j0 k a0 a1 a2 true) else (madrigalref1_Clamp.j0 k a0 a1 a2 (decide (a1 > a2)))
set_option maxHeartbeats 8000000 in
set_option maxRecDepth 100000 in
theorem madrigalref1_Clamp.calls (k : Nat) (a0 : Int) (a1 : Int) (a2 : Int) (r : Int) (w : World) (h : madrigalref1_Clamp.f k a0 a1 a2 = some r) :
  Calls Try.prog 35 #[.int .i64 a0, .int .i64 a1, .int .i64 a2] w fun e w' => e = .returned (.int .i64 r) ∧ Drawn0 w w' := by
 have H : (if a0 < a1 then (madrigalref1_Clamp.j0 k a0 a1 a2 true) else (madrigalref1_Clamp.j0 k a0 a1 a2 (decide (a1 > a2)))) = some r := h
 clear h; have HC4 := Aside0.mk H; clear H
 go_enter Try.func35, Try.ntmps35
 go_upto_region 1 with (fail)
 go_cut [7] (fun v7 wc => ∃ (kq : Nat) (x7_3 : Bool), v7 = .bool x7_3 ∧ Aside0 (madrigalref1_Clamp.j0 kq a0 a1 a2 x7_3 = some r) ∧ Aside0 (kq ≤ k) ∧ Drawn0 w wc)
 case first =>
  have H := HC4.out; clear HC4
  by_cases c5 : a0 < a1
  ·
   rw [if_pos c5] at H; have c5b0 : decide (a0 < a1) = true := decide_eq_true c5; clear c5
   (first | rw [c5b0] | (simp only [i64_w, i32_w]; rw [c5b0]) | skip)
   have H' := Aside0.mk H; clear H
   go_wp2
   go_meet
   case rel => exact ⟨_, (true), (by first | rfl | (simp; done) | (simp [*]; done)), H', ⟨by first | omega | exact Nat.le_refl _⟩, by repeat (first | exact Drawn0.refl _ | apply Drawn0.step)⟩
  ·
   rw [if_neg c5] at H; have c5b0 : decide (a0 < a1) = false := decide_eq_false c5; clear c5
   (first | rw [c5b0] | (simp only [i64_w, i32_w]; rw [c5b0]) | skip)
   have H' := Aside0.mk H; clear H
   go_wp2
   go_meet
   case rel => exact ⟨_, (decide (a1 > a2)), (by first | rfl | (simp; done) | (simp [*]; done)), H', ⟨by first | omega | exact Nat.le_refl _⟩, by repeat (first | exact Drawn0.refl _ | apply Drawn0.step)⟩
 case rest =>
  clear HC4; (try clear p2); (try clear c3); (try clear c5); (try clear c5b0); (try clear c5b0z0)
  obtain ⟨kq, x7_3, rfl, HA, HJ3, ⟨mc3, rfl⟩⟩ := hcut
  cases kq with
  | zero => exact absurd HA.out (by simp [madrigalref1_Clamp.j0])
  | succ kj3 =>
   have H := HA.out; clear HA
   simp only [madrigalref1_Clamp.j0] at H
   by_cases c6 : x7_3 = true
   ·
    subst c6
    have H1 : (some a1) = some r := by rw [if_pos rfl] at H; exact H
    clear H; have H := H1; clear H1
    obtain rfl := Option.some.inj H
    go_wp2
    go_ret
    exact ⟨by first | rfl | (simp; done) | (simp [*]; done), by repeat (first | exact Drawn0.refl _ | apply Drawn0.step)⟩
   ·
    replace c6 := Bool.eq_false_iff.mpr c6
    subst c6
    have H1 : (if a0 > a2 then (some a2) else (some a0)) = some r := by rw [if_neg (show ¬ (false = true) by decide)] at H; exact H
    clear H; have H := H1; clear H1
    by_cases c7 : a0 > a2
    ·
     rw [if_pos c7] at H; have c7b0 : decide (a2 < a0) = true := decide_eq_true c7; clear c7
     obtain rfl := Option.some.inj H
     go_wp2
     go_ret
     exact ⟨by first | rfl | (simp; done) | (simp [*]; done), by repeat (first | exact Drawn0.refl _ | apply Drawn0.step)⟩
    ·
     rw [if_neg c7] at H; have c7b0 : decide (a2 < a0) = false := decide_eq_false c7; clear c7
     obtain rfl := Option.some.inj H
     go_wp2
     go_ret
     exact ⟨by first | rfl | (simp; done) | (simp [*]; done), by repeat (first | exact Drawn0.refl _ | apply Drawn0.step)⟩

/-! ### madrigalref1_Mul: function 33 -/
def madrigalref1_Mul.j0 : Nat → Int → Int → Bool → Option (Int)
 | 0, _, _, _ => none
 | k + 1, x2, x7, x21 => if x21 = true then (some 0) else (if x2 = 0 then (some x7) else (if 0 ≤ (IntKind.u64.wrap (wrap64 (x2 - 1))) then (if 0 ≤ (IntKind.u64.wrap (x2)) then (if (wrap64 (x7 - (shl .i64 (shr .i64 x7 (IntKind.u64.wrap (x2))) (IntKind.u64.wrap (x2))))) ≥ (shl .i64 1 (IntKind.u64.wrap (wrap64 (x2 - 1)))) then (some (wrap64 ((shr .i64 x7 (IntKind.u64.wrap (x2))) + 1))) else (some (shr .i64 x7 (IntKind.u64.wrap (x2))))) else (none)) else (none)))
def madrigalref1_Mul.f (k : Nat) (a0 : Int) (a1 : Int) (a2 : Int) : Option (Int) := (madrigalref1_Clamp.f k a0 (-2147483648) 2147483648).bind fun t240 => ((madrigalref1_Clamp.f k a1 (-2147483648) 2147483648).bind fun t241 => (if a2 < 0 then (madrigalref1_Mul.j0 k a2 (wrap64 (t240 * t241)) true) else (madrigalref1_Mul.j0 k a2 (wrap64 (t240 * t241)) (decide (a2 > 62)))))
set_option maxHeartbeats 8000000 in
set_option maxRecDepth 100000 in
theorem madrigalref1_Mul.calls (k : Nat) (a0 : Int) (a1 : Int) (a2 : Int) (r : Int) (w : World) (h : madrigalref1_Mul.f k a0 a1 a2 = some r) :
  Calls Try.prog 33 #[.int .i64 a0, .int .i64 a1, .int .i64 a2] w fun e w' => e = .returned (.int .i64 r) ∧ Drawn0 w w' := by
 have H : ((madrigalref1_Clamp.f k a0 (-2147483648) 2147483648).bind fun t240 => ((madrigalref1_Clamp.f k a1 (-2147483648) 2147483648).bind fun t241 => (if a2 < 0 then (madrigalref1_Mul.j0 k a2 (wrap64 (t240 * t241)) true) else (madrigalref1_Mul.j0 k a2 (wrap64 (t240 * t241)) (decide (a2 > 62)))))) = some r := h
 clear h; replace H := Option.bind_eq_some_iff.mp H; obtain ⟨t240, A40, H⟩ := H
 replace H : ((madrigalref1_Clamp.f k a1 (-2147483648) 2147483648).bind fun t241 => (if a2 < 0 then (madrigalref1_Mul.j0 k a2 (wrap64 (t240 * t241)) true) else (madrigalref1_Mul.j0 k a2 (wrap64 (t240 * t241)) (decide (a2 > 62))))) = some r := H
 have A4 := Aside0.mk A40; clear A40; replace H := Option.bind_eq_some_iff.mp H; obtain ⟨t241, A50, H⟩ := H
 replace H : (if a2 < 0 then (madrigalref1_Mul.j0 k a2 (wrap64 (t240 * t241)) true) else (madrigalref1_Mul.j0 k a2 (wrap64 (t240 * t241)) (decide (a2 > 62)))) = some r := H
 have A5 := Aside0.mk A50; clear A50; have HC6 := Aside0.mk H; clear H
 go_enter Try.func33, Try.ntmps33
 go_upto_region 2 with (first | ((with_reducible refine gate_callee (f := 35) rfl ?_); refine goesL_ (some 12) rfl rfl Try.func35 (by kernel_rfl) rfl #[.int .i64 a0, .int .i64 (-2147483648), .int .i64 2147483648] rfl (by (try simp only [List.map_toArray, List.map_cons, List.map_nil]); first | done | rfl | (simp only [List.length_drop, List.length_take]; rfl)) ?_; (with_reducible refine (madrigalref1_Clamp.calls k a0 (-2147483648) 2147483648 t240 _ A4.out).mono ?_); rintro e w' ⟨rfl, ⟨nd, rfl⟩⟩; refine ⟨_, rfl, ?_⟩) | ((with_reducible refine gate_callee (f := 35) rfl ?_); refine goesL_ (some 14) rfl rfl Try.func35 (by kernel_rfl) rfl #[.int .i64 a1, .int .i64 (-2147483648), .int .i64 2147483648] rfl (by (try simp only [List.map_toArray, List.map_cons, List.map_nil]); first | done | rfl | (simp only [List.length_drop, List.length_take]; rfl)) ?_; (with_reducible refine (madrigalref1_Clamp.calls k a1 (-2147483648) 2147483648 t241 _ A5.out).mono ?_); rintro e w' ⟨rfl, ⟨nd, rfl⟩⟩; refine ⟨_, rfl, ?_⟩))
 (try simp only [Act.put, List.setIfInBounds_toArray, List.set_cons_zero, List.set_cons_succ])
 go_cut [21] (fun v21 wc => ∃ (kq : Nat) (x21_5 : Bool), v21 = .bool x21_5 ∧ Aside0 (madrigalref1_Mul.j0 kq a2 (wrap64 (t240 * t241)) x21_5 = some r) ∧ Aside0 (kq ≤ k) ∧ Drawn0 w wc)
 case first =>
  have H := HC6.out; clear HC6
  by_cases c7 : a2 < 0
  ·
   rw [if_pos c7] at H; have c7b0 : decide (a2 < 0) = true := decide_eq_true c7; clear c7
   (first | rw [c7b0] | (simp only [i64_w, i32_w]; rw [c7b0]) | skip)
   have H' := Aside0.mk H; clear H
   go_wp2
   go_meet
   case rel => exact ⟨_, (true), (by first | rfl | (simp; done) | (simp [*]; done)), H', ⟨by first | omega | exact Nat.le_refl _⟩, by repeat (first | exact Drawn0.refl _ | apply Drawn0.step)⟩
  ·
   rw [if_neg c7] at H; have c7b0 : decide (a2 < 0) = false := decide_eq_false c7; clear c7
   (first | rw [c7b0] | (simp only [i64_w, i32_w]; rw [c7b0]) | skip)
   have H' := Aside0.mk H; clear H
   go_wp2
   go_meet
   case rel => exact ⟨_, (decide (a2 > 62)), (by first | rfl | (simp; done) | (simp [*]; done)), H', ⟨by first | omega | exact Nat.le_refl _⟩, by repeat (first | exact Drawn0.refl _ | apply Drawn0.step)⟩
 case rest =>
  clear HC6; (try clear p2); (try clear c3); (try clear p6); (try clear c7); (try clear c7b0); (try clear c7b0z0)
  obtain ⟨kq, x21_5, rfl, HA, HJ5, ⟨mc5, rfl⟩⟩ := hcut
  cases kq with
  | zero => exact absurd HA.out (by simp [madrigalref1_Mul.j0])
  | succ kj5 =>
   have H := HA.out; clear HA
   simp only [madrigalref1_Mul.j0] at H
   by_cases c8 : x21_5 = true
   ·
    subst c8
    have H1 : (some 0) = some r := by rw [if_pos rfl] at H; exact H
    clear H; have H := H1; clear H1
    obtain rfl := Option.some.inj H
    go_wp2
    go_ret
    exact ⟨by first | rfl | (simp; done) | (simp [*]; done), by repeat (first | exact Drawn0.refl _ | apply Drawn0.step)⟩
   ·
    replace c8 := Bool.eq_false_iff.mpr c8
    subst c8
    have H1 : (if a2 = 0 then (some (wrap64 (t240 * t241))) else (if 0 ≤ (IntKind.u64.wrap (wrap64 (a2 - 1))) then (if 0 ≤ (IntKind.u64.wrap (a2)) then (if (wrap64 ((wrap64 (t240 * t241)) - (shl .i64 (shr .i64 (wrap64 (t240 * t241)) (IntKind.u64.wrap (a2))) (IntKind.u64.wrap (a2))))) ≥ (shl .i64 1 (IntKind.u64.wrap (wrap64 (a2 - 1)))) then (some (wrap64 ((shr .i64 (wrap64 (t240 * t241)) (IntKind.u64.wrap (a2))) + 1))) else (some (shr .i64 (wrap64 (t240 * t241)) (IntKind.u64.wrap (a2))))) else (none)) else (none))) = some r := by rw [if_neg (show ¬ (false = true) by decide)] at H; exact H
    clear H; have H := H1; clear H1
    by_cases c9 : a2 = 0
    ·
     rw [if_pos c9] at H; have c9b0 : (a2 == 0) = true := beq_iff_eq.mpr c9; have c9b1 : (a2 != 0) = false := bne_eq_false_iff_eq.mpr c9; clear c9
     obtain rfl := Option.some.inj H
     go_wp2
     go_ret
     exact ⟨by first | rfl | (simp; done) | (simp [*]; done), by repeat (first | exact Drawn0.refl _ | apply Drawn0.step)⟩
    ·
     rw [if_neg c9] at H; have c9b0 : (a2 == 0) = false := beq_eq_false_iff_ne.mpr c9; have c9b1 : (a2 != 0) = true := bne_iff_ne.mpr c9
     obtain ⟨ji10, hji10⟩ : ∃ j_ : Int, (IntKind.u64.wrap (wrap64 (a2 - 1))) = j_ := ⟨_, rfl⟩
     replace H : (if 0 ≤ (ji10) then (if 0 ≤ (IntKind.u64.wrap (a2)) then (if (wrap64 ((wrap64 (t240 * t241)) - (shl .i64 (shr .i64 (wrap64 (t240 * t241)) (IntKind.u64.wrap (a2))) (IntKind.u64.wrap (a2))))) ≥ (shl .i64 1 (ji10)) then (some (wrap64 ((shr .i64 (wrap64 (t240 * t241)) (IntKind.u64.wrap (a2))) + 1))) else (some (shr .i64 (wrap64 (t240 * t241)) (IntKind.u64.wrap (a2))))) else (none)) else (none)) = some r := by first | (rw [hji10] at H; exact H) | (simp only [hji10] at H ⊢; exact H)
     by_cases c11 : 0 ≤ (ji10); rotate_left
     · rw [if_neg c11] at H; exact absurd H (by simp)
     rw [if_pos c11] at H; have c11b0 := eq_true c11; have c11b1 : decide (0 ≤ (ji10)) = true := decide_eq_true c11; clear c11
     obtain ⟨ji12, hji12⟩ : ∃ j_ : Int, (shl .i64 1 (ji10)) = j_ := ⟨_, rfl⟩
     replace H : (if 0 ≤ (IntKind.u64.wrap (a2)) then (if (wrap64 ((wrap64 (t240 * t241)) - (shl .i64 (shr .i64 (wrap64 (t240 * t241)) (IntKind.u64.wrap (a2))) (IntKind.u64.wrap (a2))))) ≥ (ji12) then (some (wrap64 ((shr .i64 (wrap64 (t240 * t241)) (IntKind.u64.wrap (a2))) + 1))) else (some (shr .i64 (wrap64 (t240 * t241)) (IntKind.u64.wrap (a2))))) else (none)) = some r := by first | (rw [hji12] at H; exact H) | (simp only [hji12] at H ⊢; exact H)
     have hji12_ : (IntKind.i64.wrap (1 * 2 ^ min (ji10).toNat 64)) = ji12 := hji12
     have hji12z : (ji10) ≤ 64 → (IntKind.i64.wrap (1 * 2 ^ (ji10).toNat)) = ji12 := shl_small hji12
     have hji12u : (IntKind.i64.wrap (2 ^ min (ji10).toNat 64)) = ji12 := by have h_ := hji12_; rw [Int.one_mul] at h_; exact h_
     have hji12v : (ji10) ≤ 64 → (IntKind.i64.wrap (2 ^ (ji10).toNat)) = ji12 := fun hle_ => by have h_ := hji12z hle_; rw [Int.one_mul] at h_; exact h_
     have hji12y : (wrap64 (1 * 2 ^ min (ji10).toNat 64)) = ji12 := (i64_w _).symm.trans hji12_
     have hji12x : (ji10) ≤ 64 → (wrap64 (1 * 2 ^ (ji10).toNat)) = ji12 := fun h_ => (i64_w _).symm.trans (hji12z h_)
     obtain ⟨ji13, hji13⟩ : ∃ j_ : Int, (IntKind.u64.wrap (a2)) = j_ := ⟨_, rfl⟩
     replace H : (if 0 ≤ (ji13) then (if (wrap64 ((wrap64 (t240 * t241)) - (shl .i64 (shr .i64 (wrap64 (t240 * t241)) (ji13)) (ji13)))) ≥ (ji12) then (some (wrap64 ((shr .i64 (wrap64 (t240 * t241)) (ji13)) + 1))) else (some (shr .i64 (wrap64 (t240 * t241)) (ji13)))) else (none)) = some r := by first | (rw [hji13] at H; exact H) | (simp only [hji13] at H ⊢; exact H)
     by_cases c14 : 0 ≤ (ji13); rotate_left
     · rw [if_neg c14] at H; exact absurd H (by simp)
     rw [if_pos c14] at H; have c14b0 := eq_true c14; have c14b1 : decide (0 ≤ (ji13)) = true := decide_eq_true c14; clear c14
     obtain ⟨ji15, hji15⟩ : ∃ j_ : Int, (shr .i64 (wrap64 (t240 * t241)) (ji13)) = j_ := ⟨_, rfl⟩
     replace H : (if (wrap64 ((wrap64 (t240 * t241)) - (shl .i64 (ji15) (ji13)))) ≥ (ji12) then (some (wrap64 ((ji15) + 1))) else (some ji15)) = some r := by first | (rw [hji15] at H; exact H) | (simp only [hji15] at H ⊢; exact H)
     have hji15_ : ((wrap64 (t240 * t241)) / 2 ^ min (ji13).toNat 64) = ji15 := hji15
     have hji15z : (ji13) ≤ 64 → ((wrap64 (t240 * t241)) / 2 ^ (ji13).toNat) = ji15 := shr_small hji15
     have c16b0 := eq_true (of_decide_eq_true (by first | (with_reducible assumption) | assumption) : 0 ≤ (ji13))
     obtain ⟨ji17, hji17⟩ : ∃ j_ : Int, (shl .i64 (ji15) (ji13)) = j_ := ⟨_, rfl⟩
     replace H : (if (wrap64 ((wrap64 (t240 * t241)) - (ji17))) ≥ (ji12) then (some (wrap64 ((ji15) + 1))) else (some ji15)) = some r := by first | (rw [hji17] at H; exact H) | (simp only [hji17] at H ⊢; exact H)
     have hji17_ : (IntKind.i64.wrap ((ji15) * 2 ^ min (ji13).toNat 64)) = ji17 := hji17
     have hji17z : (ji13) ≤ 64 → (IntKind.i64.wrap ((ji15) * 2 ^ (ji13).toNat)) = ji17 := shl_small hji17
     have hji17y : (wrap64 ((ji15) * 2 ^ min (ji13).toNat 64)) = ji17 := (i64_w _).symm.trans hji17_
     have hji17x : (ji13) ≤ 64 → (wrap64 ((ji15) * 2 ^ (ji13).toNat)) = ji17 := fun h_ => (i64_w _).symm.trans (hji17z h_)
     by_cases c18 : (wrap64 ((wrap64 (t240 * t241)) - (ji17))) ≥ (ji12)
     ·
      rw [if_pos c18] at H; have c18b0 : decide ((ji12) ≤ (wrap64 ((wrap64 (t240 * t241)) - (ji17)))) = true := decide_eq_true c18; clear c18
      obtain rfl := Option.some.inj H
      go_wp2
      go_ret
      exact ⟨by first | rfl | (simp; done) | (simp only [← hji10, ← hji12, ← hji13, ← hji15, ← hji17] <;> (first | rfl | simp)) | (simp [*]; done), by repeat (first | exact Drawn0.refl _ | apply Drawn0.step)⟩
     ·
      rw [if_neg c18] at H; have c18b0 : decide ((ji12) ≤ (wrap64 ((wrap64 (t240 * t241)) - (ji17)))) = false := decide_eq_false c18; clear c18
      obtain rfl := Option.some.inj H
      go_wp2
      go_ret
      exact ⟨by first | rfl | (simp; done) | (simp only [← hji10, ← hji12, ← hji13, ← hji15, ← hji17] <;> (first | rfl | simp)) | (simp [*]; done), by repeat (first | exact Drawn0.refl _ | apply Drawn0.step)⟩

/-! ### madrigalref1_series: function 46 -/
def madrigalref1_series.l0 : Nat → Int → Int → List Int → Int → Option (Int)
 | 0, _, _, _, _ => none
 | k + 1, x0, x1, x2, x7 => if x7 < (x2.length : Int) then (if 0 ≤ x7 then ((madrigalref1_Mul.f k x0 x1 30).bind fun t243 => (madrigalref1_series.l0 k x0 (wrap64 ((rd x2 x7) + t243)) x2 (wrap64 (x7 + 1)))) else (none)) else (some x1)
def madrigalref1_series.f (k : Nat) (a0 : Int) (a1 : Int) (l2 : List Int) : Option (Int) := madrigalref1_series.l0 k a0 a1 l2 0
set_option maxHeartbeats 8000000 in
set_option maxRecDepth 100000 in
theorem madrigalref1_series.calls (k : Nat) (a0 : Int) (a1 : Int) (A2 : Option Addr) (c2 : Nat) (l2 : List Int) (r : Int) (w : World) (hr2 : Kd.C (Kd.int .i64) w A2 l2.length l2) (hc2 : l2.length ≤ c2) (h : madrigalref1_series.f k a0 a1 l2 = some r) :
  Calls Try.prog 46 #[.int .i64 a0, .int .i64 a1, .slice A2 l2.length c2] w fun e w' => e = .returned (.int .i64 r) ∧ Drawn0 w w' := by
 have HR2 := Aside0.mk hr2; have HC2 := Aside0.mk hc2; clear hr2 hc2
 have H : (madrigalref1_series.l0 k a0 a1 l2 0) = some r := h
 clear h; have H' := Aside0.mk H; clear H
 go_enter Try.func46, Try.ntmps46
 go_wp2
 repeat (go_quiet (fail); try go_wp2)
 go_loopg [1, 7] k (fun kq v1 v7 w' => ∃ (x1_1 : Int) (x7_1 : Int), v1 = .int .i64 x1_1 ∧ v7 = .int .i64 x7_1 ∧ Aside0 (madrigalref1_series.l0 kq a0 x1_1 l2 x7_1 = some r) ∧ Aside0 (kq ≤ k) ∧ Drawn0 w w')
 case atStart => exact ⟨(a1), (0), (by first | rfl | (simp; done) | (simp [*]; done)), (by first | rfl | (simp; done) | (simp [*]; done)), H', ⟨Nat.le_refl _⟩, by repeat (first | exact Drawn0.refl _ | apply Drawn0.step)⟩
 case round =>
  clear H'
  (try clear c2); (try clear p2)
  obtain ⟨x1_1, x7_1, rfl, rfl, HA, HK1, ⟨m1, rfl⟩⟩ := hrel
  cases gk with
  | zero => exact absurd HA.out (by simp [madrigalref1_series.l0])
  | succ k1 =>
   have H := HA.out; clear HA
   simp only [madrigalref1_series.l0] at H
   by_cases c4 : x7_1 < (l2.length : Int)
   ·
    rw [if_pos c4] at H; have c4b0 : decide (x7_1 < (l2.length : Int)) = true := decide_eq_true c4; clear c4
    by_cases c5 : 0 ≤ x7_1; rotate_left
    · rw [if_neg c5] at H; exact absurd H (by simp)
    rw [if_pos c5] at H; have c5b0 : decide (0 ≤ x7_1) = true := decide_eq_true c5; clear c5; replace H := Option.bind_eq_some_iff.mp H; obtain ⟨t243, A60, H⟩ := H
    replace H : (madrigalref1_series.l0 k1 a0 (wrap64 ((rd l2 x7_1) + t243)) l2 (wrap64 (x7_1 + 1))) = some r := H
    have A6 := Aside0.mk A60; clear A60; have H' := Aside0.mk H; clear H; have p242 : 0 ≤ (x7_1 : Int) := of_decide_eq_true (by first | (with_reducible assumption) | assumption); have q242 : x7_1 < (l2.length : Int) := of_decide_eq_true (by first | (with_reducible assumption) | assumption)
    obtain ⟨ad242, e242, hx242_0⟩ := Kd.at_int HR2.out x7_1 p242 q242
    cases e242; replace p242 := eq_true p242; replace q242 := eq_true q242
    go_wp2_with (first | (go_at_call 33; (with_reducible refine (madrigalref1_Mul.calls k1 a0 x1_1 30 t243 _ A6.out).mono ?_); rintro e w' ⟨rfl, ⟨nd, rfl⟩⟩; (try first | exact ⟨rfl, _, World.drewN_drewN _ _ _⟩ | exact ⟨rfl, _, Eq.trans (World.drewN_drewN _ _ _) (congrArg (World.drewN _) (Nat.add_assoc _ _ _))⟩)))
    repeat (go_quiet (first | (go_at_call 33; (with_reducible refine (madrigalref1_Mul.calls k1 a0 x1_1 30 t243 _ A6.out).mono ?_); rintro e w' ⟨rfl, ⟨nd, rfl⟩⟩; (try first | exact ⟨rfl, _, World.drewN_drewN _ _ _⟩ | exact ⟨rfl, _, Eq.trans (World.drewN_drewN _ _ _) (congrArg (World.drewN _) (Nat.add_assoc _ _ _))⟩))); try go_wp2_with (first | (go_at_call 33; (with_reducible refine (madrigalref1_Mul.calls k1 a0 x1_1 30 t243 _ A6.out).mono ?_); rintro e w' ⟨rfl, ⟨nd, rfl⟩⟩; (try first | exact ⟨rfl, _, World.drewN_drewN _ _ _⟩ | exact ⟨rfl, _, Eq.trans (World.drewN_drewN _ _ _) (congrArg (World.drewN _) (Nat.add_assoc _ _ _))⟩))))
    go_roundg k1
    case measure => have := HK1.out; omega
    case rel => exact ⟨(wrap64 ((rd l2 x7_1) + t243)), (wrap64 (x7_1 + 1)), (by first | rfl | (simp; done) | (simp [*]; done)), (by first | rfl | (simp; done) | (simp [*]; done)), H', ⟨by have := HK1.out; omega⟩, by repeat (first | exact Drawn0.refl _ | apply Drawn0.step)⟩
   ·
    rw [if_neg c4] at H; have c4b0 : decide (x7_1 < (l2.length : Int)) = false := decide_eq_false c4; clear c4
    obtain rfl := Option.some.inj H
    go_wp2
    repeat (go_quiet (fail); try go_wp2)
    go_ret
    exact ⟨by first | rfl | (simp; done) | (simp [*]; done), by repeat (first | exact Drawn0.refl _ | apply Drawn0.step)⟩

end Go.Proofs.Ytnliianjljgcbaa.MA
