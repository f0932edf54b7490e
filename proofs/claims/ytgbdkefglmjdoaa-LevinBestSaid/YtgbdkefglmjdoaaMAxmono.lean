/- Functions of the program as plain Lean functions, and that the code comes to their answers. No condition. -/
import Derived.Test.YtgbdkefglmjdoaaMAx1
import Derived.Test.YtgbdkefglmjdoaaMAx2
import Derived.Test.YtgbdkefglmjdoaaMAx3
import Derived.Test.YtgbdkefglmjdoaaMAx4
import Derived.Test.YtgbdkefglmjdoaaMAx6
import Derived.Test.YtgbdkefglmjdoaaMAx7
import Derived.Test.YtgbdkefglmjdoaaMAx8
import Derived.Test.YtgbdkefglmjdoaaMAx9
import Derived.Test.YtgbdkefglmjdoaaMAx10
import Derived.Test.YtgbdkefglmjdoaaMAx13
import Derived.Test.YtgbdkefglmjdoaaMAx15
import Derived.Test.YtgbdkefglmjdoaaMAx16
import Derived.Test.YtgbdkefglmjdoaaMAx20
import Derived.Test.YtgbdkefglmjdoaaMAx21
import Derived.Test.YtgbdkefglmjdoaaMAx22
import Derived.Test.YtgbdkefglmjdoaaMAx23
namespace Go.Proofs.Ytgbdkefglmjdoaa.MA
open Go.RowKit Go.Proofs.YtgbdkefglmjdoaaW.PrintWords Go.Proofs.YtgbdkefglmjdoaaW.PrintLast Go.Proofs.YtgbdkefglmjdoaaW.PrintMore
attribute [local go_sem] max2_int min2_int max_two min_two max_three min_three max_four min_four
set_option linter.unusedVariables false
set_option linter.unusedSimpArgs false

theorem fix_Clamp.mono_l : ∀ k, (∀ y0 y1 y2 y3, LeO (fix_Clamp.j0 k y0 y1 y2 y3) (fix_Clamp.j0 (k + 1) y0 y1 y2 y3))
 | 0 => fun _ _ _ _ r h => by simp [fix_Clamp.j0] at h
 | k + 1 => by
  have ih0 := fix_Clamp.mono_l k
  ·
   intro y0 y1 y2 y3
   unfold fix_Clamp.j0
   repeat' first | (with_reducible first | exact ih0 _ _ _ _ | exact LeO.refl _ | exact LeO.none _ | refine LeO.ite ?_ ?_ | refine LeO.bind ?_ (fun _ => ?_)) | refine LeO.ite ?_ ?_ | refine LeO.bind ?_ (fun _ => ?_) | exact ih0 _ _ _ _
theorem fix_Clamp.mono : ∀ a0 a1 a2 k, LeO (fix_Clamp.f k a0 a1 a2) (fix_Clamp.f (k + 1) a0 a1 a2) := by
 intro a0 a1 a2 k
 have ih0 := fix_Clamp.mono_l k
 unfold fix_Clamp.f
 repeat' first | (with_reducible first | exact ih0 _ _ _ _ | exact LeO.refl _ | exact LeO.none _ | refine LeO.ite ?_ ?_ | refine LeO.bind ?_ (fun _ => ?_)) | refine LeO.ite ?_ ?_ | refine LeO.bind ?_ (fun _ => ?_) | exact ih0 _ _ _ _
theorem fix_factor.mono : ∀ a0 k, LeO (fix_factor.f k a0) (fix_factor.f (k + 1) a0) := by
 intro a0 k
 unfold fix_factor.f
 repeat' first | (with_reducible first | exact fix_Clamp.mono _ _ _ _ | exact LeO.refl _ | exact LeO.none _ | refine LeO.ite ?_ ?_ | refine LeO.bind ?_ (fun _ => ?_)) | refine LeO.ite ?_ ?_ | refine LeO.bind ?_ (fun _ => ?_)
theorem fix_Mul.mono : ∀ a0 a1 a2 k, LeO (fix_Mul.f k a0 a1 a2) (fix_Mul.f (k + 1) a0 a1 a2) := by
 intro a0 a1 a2 k
 unfold fix_Mul.f
 repeat' first | (with_reducible first | exact fix_factor.mono _ _ | exact LeO.refl _ | exact LeO.none _ | refine LeO.ite ?_ ?_ | refine LeO.bind ?_ (fun _ => ?_)) | refine LeO.ite ?_ ?_ | refine LeO.bind ?_ (fun _ => ?_)
theorem fix_Div.mono_l : ∀ k, (∀ y0 y1 y2 y3, LeO (fix_Div.j0 k y0 y1 y2 y3) (fix_Div.j0 (k + 1) y0 y1 y2 y3))
 | 0 => fun _ _ _ _ r h => by simp [fix_Div.j0] at h
 | k + 1 => by
  have ih0 := fix_Div.mono_l k
  ·
   intro y0 y1 y2 y3
   unfold fix_Div.j0
   repeat' first | (with_reducible first | exact ih0 _ _ _ _ | exact fix_factor.mono _ _ | exact LeO.refl _ | exact LeO.none _ | refine LeO.ite ?_ ?_ | refine LeO.bind ?_ (fun _ => ?_)) | refine LeO.ite ?_ ?_ | refine LeO.bind ?_ (fun _ => ?_) | exact ih0 _ _ _ _
theorem fix_Div.mono : ∀ a0 a1 a2 k, LeO (fix_Div.f k a0 a1 a2) (fix_Div.f (k + 1) a0 a1 a2) := by
 intro a0 a1 a2 k
 have ih0 := fix_Div.mono_l k
 unfold fix_Div.f
 repeat' first | (with_reducible first | exact ih0 _ _ _ _ | exact fix_factor.mono _ _ | exact LeO.refl _ | exact LeO.none _ | refine LeO.ite ?_ ?_ | refine LeO.bind ?_ (fun _ => ?_)) | refine LeO.ite ?_ ?_ | refine LeO.bind ?_ (fun _ => ?_) | exact ih0 _ _ _ _
theorem lpc_Stable.mono_l : ∀ k, (∀ y0 y1 y2 y3, LeO (lpc_Stable.l0 k y0 y1 y2 y3) (lpc_Stable.l0 (k + 1) y0 y1 y2 y3)) ∧ (∀ y0 y1, LeO (lpc_Stable.l1 k y0 y1) (lpc_Stable.l1 (k + 1) y0 y1)) ∧ (∀ y0 y1 y2 y3, LeO (lpc_Stable.j2 k y0 y1 y2 y3) (lpc_Stable.j2 (k + 1) y0 y1 y2 y3)) ∧ (∀ y0 y1 y2 y3 y4 y5 y6, LeO (lpc_Stable.l2 k y0 y1 y2 y3 y4 y5 y6) (lpc_Stable.l2 (k + 1) y0 y1 y2 y3 y4 y5 y6))
 | 0 => ⟨fun _ _ _ _ r h => by simp [lpc_Stable.l0] at h, fun _ _ r h => by simp [lpc_Stable.l1] at h, fun _ _ _ _ r h => by simp [lpc_Stable.j2] at h, fun _ _ _ _ _ _ _ r h => by simp [lpc_Stable.l2] at h⟩
 | k + 1 => by
  obtain ⟨ih0, ih1, ih2, ih3⟩ := lpc_Stable.mono_l k
  refine ⟨?_, ?_, ?_, ?_⟩
  ·
   intro y0 y1 y2 y3
   unfold lpc_Stable.l0
   repeat' first | (with_reducible first | exact ih0 _ _ _ _ | exact ih1 _ _ | exact ih2 _ _ _ _ | exact ih3 _ _ _ _ _ _ _ | exact fix_Clamp.mono _ _ _ _ | exact fix_Div.mono _ _ _ _ | exact fix_Mul.mono _ _ _ _ | exact LeO.refl _ | exact LeO.none _ | refine LeO.ite ?_ ?_ | refine LeO.bind ?_ (fun _ => ?_)) | refine LeO.ite ?_ ?_ | refine LeO.bind ?_ (fun _ => ?_) | exact ih0 _ _ _ _ | exact ih1 _ _ | exact ih2 _ _ _ _ | exact ih3 _ _ _ _ _ _ _
  ·
   intro y0 y1
   unfold lpc_Stable.l1
   repeat' first | (with_reducible first | exact ih0 _ _ _ _ | exact ih1 _ _ | exact ih2 _ _ _ _ | exact ih3 _ _ _ _ _ _ _ | exact fix_Clamp.mono _ _ _ _ | exact fix_Div.mono _ _ _ _ | exact fix_Mul.mono _ _ _ _ | exact LeO.refl _ | exact LeO.none _ | refine LeO.ite ?_ ?_ | refine LeO.bind ?_ (fun _ => ?_)) | refine LeO.ite ?_ ?_ | refine LeO.bind ?_ (fun _ => ?_) | exact ih0 _ _ _ _ | exact ih1 _ _ | exact ih2 _ _ _ _ | exact ih3 _ _ _ _ _ _ _
  ·
   intro y0 y1 y2 y3
   unfold lpc_Stable.j2
   repeat' first | (with_reducible first | exact ih0 _ _ _ _ | exact ih1 _ _ | exact ih2 _ _ _ _ | exact ih3 _ _ _ _ _ _ _ | exact fix_Clamp.mono _ _ _ _ | exact fix_Div.mono _ _ _ _ | exact fix_Mul.mono _ _ _ _ | exact LeO.refl _ | exact LeO.none _ | refine LeO.ite ?_ ?_ | refine LeO.bind ?_ (fun _ => ?_)) | refine LeO.ite ?_ ?_ | refine LeO.bind ?_ (fun _ => ?_) | exact ih0 _ _ _ _ | exact ih1 _ _ | exact ih2 _ _ _ _ | exact ih3 _ _ _ _ _ _ _
  ·
   intro y0 y1 y2 y3 y4 y5 y6
   unfold lpc_Stable.l2
   repeat' first | (with_reducible first | exact ih0 _ _ _ _ | exact ih1 _ _ | exact ih2 _ _ _ _ | exact ih3 _ _ _ _ _ _ _ | exact fix_Clamp.mono _ _ _ _ | exact fix_Div.mono _ _ _ _ | exact fix_Mul.mono _ _ _ _ | exact LeO.refl _ | exact LeO.none _ | refine LeO.ite ?_ ?_ | refine LeO.bind ?_ (fun _ => ?_)) | refine LeO.ite ?_ ?_ | refine LeO.bind ?_ (fun _ => ?_) | exact ih0 _ _ _ _ | exact ih1 _ _ | exact ih2 _ _ _ _ | exact ih3 _ _ _ _ _ _ _
theorem lpc_Stable.mono : ∀ a0 k, LeO (lpc_Stable.f k a0) (lpc_Stable.f (k + 1) a0) := by
 intro a0 k
 obtain ⟨ih0, ih1, ih2, ih3⟩ := lpc_Stable.mono_l k
 unfold lpc_Stable.f
 repeat' first | (with_reducible first | exact ih0 _ _ _ _ | exact ih1 _ _ | exact ih2 _ _ _ _ | exact ih3 _ _ _ _ _ _ _ | exact fix_Clamp.mono _ _ _ _ | exact fix_Div.mono _ _ _ _ | exact fix_Mul.mono _ _ _ _ | exact LeO.refl _ | exact LeO.none _ | refine LeO.ite ?_ ?_ | refine LeO.bind ?_ (fun _ => ?_)) | refine LeO.ite ?_ ?_ | refine LeO.bind ?_ (fun _ => ?_) | exact ih0 _ _ _ _ | exact ih1 _ _ | exact ih2 _ _ _ _ | exact ih3 _ _ _ _ _ _ _
theorem lpc_Chirp.mono_l : ∀ k, (∀ y0 y1 y2 y3 y4, LeO (lpc_Chirp.l0 k y0 y1 y2 y3 y4) (lpc_Chirp.l0 (k + 1) y0 y1 y2 y3 y4)) ∧ (∀ y0 y1 y2 y3 y4 y5 y6 y7 y8, LeO (lpc_Chirp.l1 k y0 y1 y2 y3 y4 y5 y6 y7 y8) (lpc_Chirp.l1 (k + 1) y0 y1 y2 y3 y4 y5 y6 y7 y8))
 | 0 => ⟨fun _ _ _ _ _ r h => by simp [lpc_Chirp.l0] at h, fun _ _ _ _ _ _ _ _ _ r h => by simp [lpc_Chirp.l1] at h⟩
 | k + 1 => by
  obtain ⟨ih0, ih1⟩ := lpc_Chirp.mono_l k
  refine ⟨?_, ?_⟩
  ·
   intro y0 y1 y2 y3 y4
   unfold lpc_Chirp.l0
   repeat' first | (with_reducible first | exact ih0 _ _ _ _ _ | exact ih1 _ _ _ _ _ _ _ _ _ | exact fix_Clamp.mono _ _ _ _ | exact fix_Mul.mono _ _ _ _ | exact LeO.refl _ | exact LeO.none _ | refine LeO.ite ?_ ?_ | refine LeO.bind ?_ (fun _ => ?_)) | refine LeO.ite ?_ ?_ | refine LeO.bind ?_ (fun _ => ?_) | exact ih0 _ _ _ _ _ | exact ih1 _ _ _ _ _ _ _ _ _
  ·
   intro y0 y1 y2 y3 y4 y5 y6 y7 y8
   unfold lpc_Chirp.l1
   repeat' first | (with_reducible first | exact ih0 _ _ _ _ _ | exact ih1 _ _ _ _ _ _ _ _ _ | exact fix_Clamp.mono _ _ _ _ | exact fix_Mul.mono _ _ _ _ | exact LeO.refl _ | exact LeO.none _ | refine LeO.ite ?_ ?_ | refine LeO.bind ?_ (fun _ => ?_)) | refine LeO.ite ?_ ?_ | refine LeO.bind ?_ (fun _ => ?_) | exact ih0 _ _ _ _ _ | exact ih1 _ _ _ _ _ _ _ _ _
theorem lpc_Chirp.mono : ∀ a0 a1 k, LeO (lpc_Chirp.f k a0 a1) (lpc_Chirp.f (k + 1) a0 a1) := by
 intro a0 a1 k
 obtain ⟨ih0, ih1⟩ := lpc_Chirp.mono_l k
 unfold lpc_Chirp.f
 repeat' first | (with_reducible first | exact ih0 _ _ _ _ _ | exact ih1 _ _ _ _ _ _ _ _ _ | exact fix_Clamp.mono _ _ _ _ | exact fix_Mul.mono _ _ _ _ | exact LeO.refl _ | exact LeO.none _ | refine LeO.ite ?_ ?_ | refine LeO.bind ?_ (fun _ => ?_)) | refine LeO.ite ?_ ?_ | refine LeO.bind ?_ (fun _ => ?_) | exact ih0 _ _ _ _ _ | exact ih1 _ _ _ _ _ _ _ _ _
theorem lpc_Fit.mono_l : ∀ k, (∀ y0 y1 y2 y3, LeO (lpc_Fit.l0 k y0 y1 y2 y3) (lpc_Fit.l0 (k + 1) y0 y1 y2 y3)) ∧ (∀ y0 y1, LeO (lpc_Fit.l1 k y0 y1) (lpc_Fit.l1 (k + 1) y0 y1))
 | 0 => ⟨fun _ _ _ _ r h => by simp [lpc_Fit.l0] at h, fun _ _ r h => by simp [lpc_Fit.l1] at h⟩
 | k + 1 => by
  obtain ⟨ih0, ih1⟩ := lpc_Fit.mono_l k
  refine ⟨?_, ?_⟩
  ·
   intro y0 y1 y2 y3
   unfold lpc_Fit.l0
   repeat' first | (with_reducible first | exact ih0 _ _ _ _ | exact ih1 _ _ | exact fix_Clamp.mono _ _ _ _ | exact lpc_Chirp.mono _ _ _ | exact lpc_Stable.mono _ _ | exact LeO.refl _ | exact LeO.none _ | refine LeO.ite ?_ ?_ | refine LeO.bind ?_ (fun _ => ?_)) | refine LeO.ite ?_ ?_ | refine LeO.bind ?_ (fun _ => ?_) | exact ih0 _ _ _ _ | exact ih1 _ _
  ·
   intro y0 y1
   unfold lpc_Fit.l1
   repeat' first | (with_reducible first | exact ih0 _ _ _ _ | exact ih1 _ _ | exact fix_Clamp.mono _ _ _ _ | exact lpc_Chirp.mono _ _ _ | exact lpc_Stable.mono _ _ | exact LeO.refl _ | exact LeO.none _ | refine LeO.ite ?_ ?_ | refine LeO.bind ?_ (fun _ => ?_)) | refine LeO.ite ?_ ?_ | refine LeO.bind ?_ (fun _ => ?_) | exact ih0 _ _ _ _ | exact ih1 _ _
theorem lpc_Fit.mono : ∀ a0 k, LeO (lpc_Fit.f k a0) (lpc_Fit.f (k + 1) a0) := by
 intro a0 k
 obtain ⟨ih0, ih1⟩ := lpc_Fit.mono_l k
 unfold lpc_Fit.f
 repeat' first | (with_reducible first | exact ih0 _ _ _ _ | exact ih1 _ _ | exact fix_Clamp.mono _ _ _ _ | exact lpc_Chirp.mono _ _ _ | exact lpc_Stable.mono _ _ | exact LeO.refl _ | exact LeO.none _ | refine LeO.ite ?_ ?_ | refine LeO.bind ?_ (fun _ => ?_)) | refine LeO.ite ?_ ?_ | refine LeO.bind ?_ (fun _ => ?_) | exact ih0 _ _ _ _ | exact ih1 _ _
theorem lsf_Good.mono_l : ∀ k, (∀ y0 y1 y2, LeO (lsf_Good.j0 k y0 y1 y2) (lsf_Good.j0 (k + 1) y0 y1 y2)) ∧ (∀ y0 y1 y2, LeO (lsf_Good.l0 k y0 y1 y2) (lsf_Good.l0 (k + 1) y0 y1 y2))
 | 0 => ⟨fun _ _ _ r h => by simp [lsf_Good.j0] at h, fun _ _ _ r h => by simp [lsf_Good.l0] at h⟩
 | k + 1 => by
  obtain ⟨ih0, ih1⟩ := lsf_Good.mono_l k
  refine ⟨?_, ?_⟩
  ·
   intro y0 y1 y2
   unfold lsf_Good.j0
   repeat' first | (with_reducible first | exact ih0 _ _ _ | exact ih1 _ _ _ | exact LeO.refl _ | exact LeO.none _ | refine LeO.ite ?_ ?_ | refine LeO.bind ?_ (fun _ => ?_)) | refine LeO.ite ?_ ?_ | refine LeO.bind ?_ (fun _ => ?_) | exact ih0 _ _ _ | exact ih1 _ _ _
  ·
   intro y0 y1 y2
   unfold lsf_Good.l0
   repeat' first | (with_reducible first | exact ih0 _ _ _ | exact ih1 _ _ _ | exact LeO.refl _ | exact LeO.none _ | refine LeO.ite ?_ ?_ | refine LeO.bind ?_ (fun _ => ?_)) | refine LeO.ite ?_ ?_ | refine LeO.bind ?_ (fun _ => ?_) | exact ih0 _ _ _ | exact ih1 _ _ _
theorem lsf_Good.mono : ∀ a0 a1 a2 k, LeO (lsf_Good.f k a0 a1 a2) (lsf_Good.f (k + 1) a0 a1 a2) := by
 intro a0 a1 a2 k
 obtain ⟨ih0, ih1⟩ := lsf_Good.mono_l k
 unfold lsf_Good.f
 repeat' first | (with_reducible first | exact ih0 _ _ _ | exact ih1 _ _ _ | exact LeO.refl _ | exact LeO.none _ | refine LeO.ite ?_ ?_ | refine LeO.bind ?_ (fun _ => ?_)) | refine LeO.ite ?_ ?_ | refine LeO.bind ?_ (fun _ => ?_) | exact ih0 _ _ _ | exact ih1 _ _ _
theorem tabs_Lsf.mono_l : ∀ k, (∀ y0 y1 y2, LeO (tabs_Lsf.j0 k y0 y1 y2) (tabs_Lsf.j0 (k + 1) y0 y1 y2)) ∧ (∀ y0 y1 y2, LeO (tabs_Lsf.j1 k y0 y1 y2) (tabs_Lsf.j1 (k + 1) y0 y1 y2)) ∧ (∀ y0 y1 y2 y3 y4 y5, LeO (tabs_Lsf.l0 k y0 y1 y2 y3 y4 y5) (tabs_Lsf.l0 (k + 1) y0 y1 y2 y3 y4 y5))
 | 0 => ⟨fun _ _ _ r h => by simp [tabs_Lsf.j0] at h, fun _ _ _ r h => by simp [tabs_Lsf.j1] at h, fun _ _ _ _ _ _ r h => by simp [tabs_Lsf.l0] at h⟩
 | k + 1 => by
  obtain ⟨ih0, ih1, ih2⟩ := tabs_Lsf.mono_l k
  refine ⟨?_, ?_, ?_⟩
  ·
   intro y0 y1 y2
   unfold tabs_Lsf.j0
   repeat' first | (with_reducible first | exact ih0 _ _ _ | exact ih1 _ _ _ | exact ih2 _ _ _ _ _ _ | exact LeO.refl _ | exact LeO.none _ | refine LeO.ite ?_ ?_ | refine LeO.bind ?_ (fun _ => ?_)) | refine LeO.ite ?_ ?_ | refine LeO.bind ?_ (fun _ => ?_) | exact ih0 _ _ _ | exact ih1 _ _ _ | exact ih2 _ _ _ _ _ _
  ·
   intro y0 y1 y2
   unfold tabs_Lsf.j1
   repeat' first | (with_reducible first | exact ih0 _ _ _ | exact ih1 _ _ _ | exact ih2 _ _ _ _ _ _ | exact LeO.refl _ | exact LeO.none _ | refine LeO.ite ?_ ?_ | refine LeO.bind ?_ (fun _ => ?_)) | refine LeO.ite ?_ ?_ | refine LeO.bind ?_ (fun _ => ?_) | exact ih0 _ _ _ | exact ih1 _ _ _ | exact ih2 _ _ _ _ _ _
  ·
   intro y0 y1 y2 y3 y4 y5
   unfold tabs_Lsf.l0
   repeat' first | (with_reducible first | exact ih0 _ _ _ | exact ih1 _ _ _ | exact ih2 _ _ _ _ _ _ | exact LeO.refl _ | exact LeO.none _ | refine LeO.ite ?_ ?_ | refine LeO.bind ?_ (fun _ => ?_)) | refine LeO.ite ?_ ?_ | refine LeO.bind ?_ (fun _ => ?_) | exact ih0 _ _ _ | exact ih1 _ _ _ | exact ih2 _ _ _ _ _ _
theorem tabs_Lsf.mono : ∀ a0 a1 k, LeO (tabs_Lsf.f k a0 a1) (tabs_Lsf.f (k + 1) a0 a1) := by
 intro a0 a1 k
 obtain ⟨ih0, ih1, ih2⟩ := tabs_Lsf.mono_l k
 unfold tabs_Lsf.f
 repeat' first | (with_reducible first | exact ih0 _ _ _ | exact ih1 _ _ _ | exact ih2 _ _ _ _ _ _ | exact LeO.refl _ | exact LeO.none _ | refine LeO.ite ?_ ?_ | refine LeO.bind ?_ (fun _ => ?_)) | refine LeO.ite ?_ ?_ | refine LeO.bind ?_ (fun _ => ?_) | exact ih0 _ _ _ | exact ih1 _ _ _ | exact ih2 _ _ _ _ _ _
theorem lsf_clamped.mono_l : ∀ k, (∀ y0 y1 y2 y3, LeO (lsf_clamped.l0 k y0 y1 y2 y3) (lsf_clamped.l0 (k + 1) y0 y1 y2 y3))
 | 0 => fun _ _ _ _ r h => by simp [lsf_clamped.l0] at h
 | k + 1 => by
  have ih0 := lsf_clamped.mono_l k
  ·
   intro y0 y1 y2 y3
   unfold lsf_clamped.l0
   repeat' first | (with_reducible first | exact ih0 _ _ _ _ | exact fix_Clamp.mono _ _ _ _ | exact LeO.refl _ | exact LeO.none _ | refine LeO.ite ?_ ?_ | refine LeO.bind ?_ (fun _ => ?_)) | refine LeO.ite ?_ ?_ | refine LeO.bind ?_ (fun _ => ?_) | exact ih0 _ _ _ _
theorem lsf_clamped.mono : ∀ a0 k, LeO (lsf_clamped.f k a0) (lsf_clamped.f (k + 1) a0) := by
 intro a0 k
 have ih0 := lsf_clamped.mono_l k
 unfold lsf_clamped.f
 repeat' first | (with_reducible first | exact ih0 _ _ _ _ | exact fix_Clamp.mono _ _ _ _ | exact LeO.refl _ | exact LeO.none _ | refine LeO.ite ?_ ?_ | refine LeO.bind ?_ (fun _ => ?_)) | refine LeO.ite ?_ ?_ | refine LeO.bind ?_ (fun _ => ?_) | exact ih0 _ _ _ _
theorem lsf_Steady.mono_l : ∀ k, (∀ y0 y1 y2 y3, LeO (lsf_Steady.l0 k y0 y1 y2 y3) (lsf_Steady.l0 (k + 1) y0 y1 y2 y3)) ∧ (∀ y0 y1 y2, LeO (lsf_Steady.l1 k y0 y1 y2) (lsf_Steady.l1 (k + 1) y0 y1 y2))
 | 0 => ⟨fun _ _ _ _ r h => by simp [lsf_Steady.l0] at h, fun _ _ _ r h => by simp [lsf_Steady.l1] at h⟩
 | k + 1 => by
  obtain ⟨ih0, ih1⟩ := lsf_Steady.mono_l k
  refine ⟨?_, ?_⟩
  ·
   intro y0 y1 y2 y3
   unfold lsf_Steady.l0
   repeat' first | (with_reducible first | exact ih0 _ _ _ _ | exact ih1 _ _ _ | exact lsf_clamped.mono _ _ | exact LeO.refl _ | exact LeO.none _ | refine LeO.ite ?_ ?_ | refine LeO.bind ?_ (fun _ => ?_)) | refine LeO.ite ?_ ?_ | refine LeO.bind ?_ (fun _ => ?_) | exact ih0 _ _ _ _ | exact ih1 _ _ _
  ·
   intro y0 y1 y2
   unfold lsf_Steady.l1
   repeat' first | (with_reducible first | exact ih0 _ _ _ _ | exact ih1 _ _ _ | exact lsf_clamped.mono _ _ | exact LeO.refl _ | exact LeO.none _ | refine LeO.ite ?_ ?_ | refine LeO.bind ?_ (fun _ => ?_)) | refine LeO.ite ?_ ?_ | refine LeO.bind ?_ (fun _ => ?_) | exact ih0 _ _ _ _ | exact ih1 _ _ _
theorem lsf_Steady.mono : ∀ a0 k, LeO (lsf_Steady.f k a0) (lsf_Steady.f (k + 1) a0) := by
 intro a0 k
 obtain ⟨ih0, ih1⟩ := lsf_Steady.mono_l k
 unfold lsf_Steady.f
 repeat' first | (with_reducible first | exact ih0 _ _ _ _ | exact ih1 _ _ _ | exact lsf_clamped.mono _ _ | exact LeO.refl _ | exact LeO.none _ | refine LeO.ite ?_ ?_ | refine LeO.bind ?_ (fun _ => ?_)) | refine LeO.ite ?_ ?_ | refine LeO.bind ?_ (fun _ => ?_) | exact ih0 _ _ _ _ | exact ih1 _ _ _
theorem lsf_Decode.mono_l : ∀ k, (∀ y0 y1 y2 y3 y4 y5, LeO (lsf_Decode.l0 k y0 y1 y2 y3 y4 y5) (lsf_Decode.l0 (k + 1) y0 y1 y2 y3 y4 y5))
 | 0 => fun _ _ _ _ _ _ r h => by simp [lsf_Decode.l0] at h
 | k + 1 => by
  have ih0 := lsf_Decode.mono_l k
  ·
   intro y0 y1 y2 y3 y4 y5
   unfold lsf_Decode.l0
   repeat' first | (with_reducible first | exact ih0 _ _ _ _ _ _ | exact lsf_Good.mono _ _ _ _ | exact lsf_Steady.mono _ _ | exact tabs_Lsf.mono _ _ _ | exact LeO.refl _ | exact LeO.none _ | refine LeO.ite ?_ ?_ | refine LeO.bind ?_ (fun _ => ?_)) | refine LeO.ite ?_ ?_ | refine LeO.bind ?_ (fun _ => ?_) | exact ih0 _ _ _ _ _ _
theorem lsf_Decode.mono : ∀ a0 a1 a2 k, LeO (lsf_Decode.f k a0 a1 a2) (lsf_Decode.f (k + 1) a0 a1 a2) := by
 intro a0 a1 a2 k
 have ih0 := lsf_Decode.mono_l k
 unfold lsf_Decode.f
 repeat' first | (with_reducible first | exact ih0 _ _ _ _ _ _ | exact lsf_Good.mono _ _ _ _ | exact lsf_Steady.mono _ _ | exact tabs_Lsf.mono _ _ _ | exact LeO.refl _ | exact LeO.none _ | refine LeO.ite ?_ ?_ | refine LeO.bind ?_ (fun _ => ?_)) | refine LeO.ite ?_ ?_ | refine LeO.bind ?_ (fun _ => ?_) | exact ih0 _ _ _ _ _ _
theorem fix_series.mono_l : ∀ k, (∀ y0 y1 y2 y3 y4, LeO (fix_series.l0 k y0 y1 y2 y3 y4) (fix_series.l0 (k + 1) y0 y1 y2 y3 y4))
 | 0 => fun _ _ _ _ _ r h => by simp [fix_series.l0] at h
 | k + 1 => by
  have ih0 := fix_series.mono_l k
  ·
   intro y0 y1 y2 y3 y4
   unfold fix_series.l0
   repeat' first | (with_reducible first | exact ih0 _ _ _ _ _ | exact fix_Mul.mono _ _ _ _ | exact LeO.refl _ | exact LeO.none _ | refine LeO.ite ?_ ?_ | refine LeO.bind ?_ (fun _ => ?_)) | refine LeO.ite ?_ ?_ | refine LeO.bind ?_ (fun _ => ?_) | exact ih0 _ _ _ _ _
theorem fix_series.mono : ∀ a0 a1 k, LeO (fix_series.f k a0 a1) (fix_series.f (k + 1) a0 a1) := by
 intro a0 a1 k
 have ih0 := fix_series.mono_l k
 unfold fix_series.f
 repeat' first | (with_reducible first | exact ih0 _ _ _ _ _ | exact fix_Mul.mono _ _ _ _ | exact LeO.refl _ | exact LeO.none _ | refine LeO.ite ?_ ?_ | refine LeO.bind ?_ (fun _ => ?_)) | refine LeO.ite ?_ ?_ | refine LeO.bind ?_ (fun _ => ?_) | exact ih0 _ _ _ _ _
theorem fix_Cos.mono_l : ∀ k, (∀ y0, LeO (fix_Cos.j0 k y0) (fix_Cos.j0 (k + 1) y0))
 | 0 => fun _ r h => by simp [fix_Cos.j0] at h
 | k + 1 => by
  have ih0 := fix_Cos.mono_l k
  ·
   intro y0
   unfold fix_Cos.j0
   repeat' first | (with_reducible first | exact ih0 _ | exact fix_Mul.mono _ _ _ _ | exact fix_series.mono _ _ _ | exact LeO.refl _ | exact LeO.none _ | refine LeO.ite ?_ ?_ | refine LeO.bind ?_ (fun _ => ?_)) | refine LeO.ite ?_ ?_ | refine LeO.bind ?_ (fun _ => ?_) | exact ih0 _
theorem fix_Cos.mono : ∀ a0 k, LeO (fix_Cos.f k a0) (fix_Cos.f (k + 1) a0) := by
 intro a0 k
 have ih0 := fix_Cos.mono_l k
 unfold fix_Cos.f
 repeat' first | (with_reducible first | exact ih0 _ | exact fix_Mul.mono _ _ _ _ | exact fix_series.mono _ _ _ | exact LeO.refl _ | exact LeO.none _ | refine LeO.ite ?_ ?_ | refine LeO.bind ?_ (fun _ => ?_)) | refine LeO.ite ?_ ?_ | refine LeO.bind ?_ (fun _ => ?_) | exact ih0 _
theorem lpc_poly.mono_l : ∀ k, (∀ y0 y1 y2, LeO (lpc_poly.l0 k y0 y1 y2) (lpc_poly.l0 (k + 1) y0 y1 y2)) ∧ (∀ y0 y1 y2 y3, LeO (lpc_poly.l1 k y0 y1 y2 y3) (lpc_poly.l1 (k + 1) y0 y1 y2 y3))
 | 0 => ⟨fun _ _ _ r h => by simp [lpc_poly.l0] at h, fun _ _ _ _ r h => by simp [lpc_poly.l1] at h⟩
 | k + 1 => by
  obtain ⟨ih0, ih1⟩ := lpc_poly.mono_l k
  refine ⟨?_, ?_⟩
  ·
   intro y0 y1 y2
   unfold lpc_poly.l0
   repeat' first | (with_reducible first | exact ih0 _ _ _ | exact ih1 _ _ _ _ | exact fix_Mul.mono _ _ _ _ | exact LeO.refl _ | exact LeO.none _ | refine LeO.ite ?_ ?_ | refine LeO.bind ?_ (fun _ => ?_)) | refine LeO.ite ?_ ?_ | refine LeO.bind ?_ (fun _ => ?_) | exact ih0 _ _ _ | exact ih1 _ _ _ _
  ·
   intro y0 y1 y2 y3
   unfold lpc_poly.l1
   repeat' first | (with_reducible first | exact ih0 _ _ _ | exact ih1 _ _ _ _ | exact fix_Mul.mono _ _ _ _ | exact LeO.refl _ | exact LeO.none _ | refine LeO.ite ?_ ?_ | refine LeO.bind ?_ (fun _ => ?_)) | refine LeO.ite ?_ ?_ | refine LeO.bind ?_ (fun _ => ?_) | exact ih0 _ _ _ | exact ih1 _ _ _ _
theorem lpc_poly.mono : ∀ a0 k, LeO (lpc_poly.f k a0) (lpc_poly.f (k + 1) a0) := by
 intro a0 k
 obtain ⟨ih0, ih1⟩ := lpc_poly.mono_l k
 unfold lpc_poly.f
 repeat' first | (with_reducible first | exact ih0 _ _ _ | exact ih1 _ _ _ _ | exact fix_Mul.mono _ _ _ _ | exact LeO.refl _ | exact LeO.none _ | refine LeO.ite ?_ ?_ | refine LeO.bind ?_ (fun _ => ?_)) | refine LeO.ite ?_ ?_ | refine LeO.bind ?_ (fun _ => ?_) | exact ih0 _ _ _ | exact ih1 _ _ _ _
theorem lpc_From.mono_l : ∀ k, (∀ y0 y1, LeO (lpc_From.j0 k y0 y1) (lpc_From.j0 (k + 1) y0 y1)) ∧ (∀ y0 y1 y2 y3 y4 y5, LeO (lpc_From.l0 k y0 y1 y2 y3 y4 y5) (lpc_From.l0 (k + 1) y0 y1 y2 y3 y4 y5)) ∧ (∀ y0 y1 y2 y3 y4, LeO (lpc_From.l1 k y0 y1 y2 y3 y4) (lpc_From.l1 (k + 1) y0 y1 y2 y3 y4))
 | 0 => ⟨fun _ _ r h => by simp [lpc_From.j0] at h, fun _ _ _ _ _ _ r h => by simp [lpc_From.l0] at h, fun _ _ _ _ _ r h => by simp [lpc_From.l1] at h⟩
 | k + 1 => by
  obtain ⟨ih0, ih1, ih2⟩ := lpc_From.mono_l k
  refine ⟨?_, ?_, ?_⟩
  ·
   intro y0 y1
   unfold lpc_From.j0
   repeat' first | (with_reducible first | exact ih0 _ _ | exact ih1 _ _ _ _ _ _ | exact ih2 _ _ _ _ _ | exact fix_Clamp.mono _ _ _ _ | exact fix_Cos.mono _ _ | exact fix_Mul.mono _ _ _ _ | exact lpc_Fit.mono _ _ | exact lpc_poly.mono _ _ | exact LeO.refl _ | exact LeO.none _ | refine LeO.ite ?_ ?_ | refine LeO.bind ?_ (fun _ => ?_)) | refine LeO.ite ?_ ?_ | refine LeO.bind ?_ (fun _ => ?_) | exact ih0 _ _ | exact ih1 _ _ _ _ _ _ | exact ih2 _ _ _ _ _
  ·
   intro y0 y1 y2 y3 y4 y5
   unfold lpc_From.l0
   repeat' first | (with_reducible first | exact ih0 _ _ | exact ih1 _ _ _ _ _ _ | exact ih2 _ _ _ _ _ | exact fix_Clamp.mono _ _ _ _ | exact fix_Cos.mono _ _ | exact fix_Mul.mono _ _ _ _ | exact lpc_Fit.mono _ _ | exact lpc_poly.mono _ _ | exact LeO.refl _ | exact LeO.none _ | refine LeO.ite ?_ ?_ | refine LeO.bind ?_ (fun _ => ?_)) | refine LeO.ite ?_ ?_ | refine LeO.bind ?_ (fun _ => ?_) | exact ih0 _ _ | exact ih1 _ _ _ _ _ _ | exact ih2 _ _ _ _ _
  ·
   intro y0 y1 y2 y3 y4
   unfold lpc_From.l1
   repeat' first | (with_reducible first | exact ih0 _ _ | exact ih1 _ _ _ _ _ _ | exact ih2 _ _ _ _ _ | exact fix_Clamp.mono _ _ _ _ | exact fix_Cos.mono _ _ | exact fix_Mul.mono _ _ _ _ | exact lpc_Fit.mono _ _ | exact lpc_poly.mono _ _ | exact LeO.refl _ | exact LeO.none _ | refine LeO.ite ?_ ?_ | refine LeO.bind ?_ (fun _ => ?_)) | refine LeO.ite ?_ ?_ | refine LeO.bind ?_ (fun _ => ?_) | exact ih0 _ _ | exact ih1 _ _ _ _ _ _ | exact ih2 _ _ _ _ _
theorem lpc_From.mono : ∀ a0 k, LeO (lpc_From.f k a0) (lpc_From.f (k + 1) a0) := by
 intro a0 k
 obtain ⟨ih0, ih1, ih2⟩ := lpc_From.mono_l k
 unfold lpc_From.f
 repeat' first | (with_reducible first | exact ih0 _ _ | exact ih1 _ _ _ _ _ _ | exact ih2 _ _ _ _ _ | exact fix_Clamp.mono _ _ _ _ | exact fix_Cos.mono _ _ | exact fix_Mul.mono _ _ _ _ | exact lpc_Fit.mono _ _ | exact lpc_poly.mono _ _ | exact LeO.refl _ | exact LeO.none _ | refine LeO.ite ?_ ?_ | refine LeO.bind ?_ (fun _ => ?_)) | refine LeO.ite ?_ ?_ | refine LeO.bind ?_ (fun _ => ?_) | exact ih0 _ _ | exact ih1 _ _ _ _ _ _ | exact ih2 _ _ _ _ _
theorem madrigalref1_Clamp.mono_l : ∀ k, (∀ y0 y1 y2 y3, LeO (madrigalref1_Clamp.j0 k y0 y1 y2 y3) (madrigalref1_Clamp.j0 (k + 1) y0 y1 y2 y3))
 | 0 => fun _ _ _ _ r h => by simp [madrigalref1_Clamp.j0] at h
 | k + 1 => by
  have ih0 := madrigalref1_Clamp.mono_l k
  ·
   intro y0 y1 y2 y3
   unfold madrigalref1_Clamp.j0
   repeat' first | (with_reducible first | exact ih0 _ _ _ _ | exact LeO.refl _ | exact LeO.none _ | refine LeO.ite ?_ ?_ | refine LeO.bind ?_ (fun _ => ?_)) | refine LeO.ite ?_ ?_ | refine LeO.bind ?_ (fun _ => ?_) | exact ih0 _ _ _ _
theorem madrigalref1_Clamp.mono : ∀ a0 a1 a2 k, LeO (madrigalref1_Clamp.f k a0 a1 a2) (madrigalref1_Clamp.f (k + 1) a0 a1 a2) := by
 intro a0 a1 a2 k
 have ih0 := madrigalref1_Clamp.mono_l k
 unfold madrigalref1_Clamp.f
 repeat' first | (with_reducible first | exact ih0 _ _ _ _ | exact LeO.refl _ | exact LeO.none _ | refine LeO.ite ?_ ?_ | refine LeO.bind ?_ (fun _ => ?_)) | refine LeO.ite ?_ ?_ | refine LeO.bind ?_ (fun _ => ?_) | exact ih0 _ _ _ _
theorem madrigalref6_clamped.mono_l : ∀ k, (∀ y0 y1 y2 y3 y4, LeO (madrigalref6_clamped.l0 k y0 y1 y2 y3 y4) (madrigalref6_clamped.l0 (k + 1) y0 y1 y2 y3 y4))
 | 0 => fun _ _ _ _ _ r h => by simp [madrigalref6_clamped.l0] at h
 | k + 1 => by
  have ih0 := madrigalref6_clamped.mono_l k
  ·
   intro y0 y1 y2 y3 y4
   unfold madrigalref6_clamped.l0
   repeat' first | (with_reducible first | exact ih0 _ _ _ _ _ | exact madrigalref1_Clamp.mono _ _ _ _ | exact LeO.refl _ | exact LeO.none _ | refine LeO.ite ?_ ?_ | refine LeO.bind ?_ (fun _ => ?_)) | refine LeO.ite ?_ ?_ | refine LeO.bind ?_ (fun _ => ?_) | exact ih0 _ _ _ _ _
theorem madrigalref6_clamped.mono : ∀ a0 a1 a2 k, LeO (madrigalref6_clamped.f k a0 a1 a2) (madrigalref6_clamped.f (k + 1) a0 a1 a2) := by
 intro a0 a1 a2 k
 have ih0 := madrigalref6_clamped.mono_l k
 unfold madrigalref6_clamped.f
 repeat' first | (with_reducible first | exact ih0 _ _ _ _ _ | exact madrigalref1_Clamp.mono _ _ _ _ | exact LeO.refl _ | exact LeO.none _ | refine LeO.ite ?_ ?_ | refine LeO.bind ?_ (fun _ => ?_)) | refine LeO.ite ?_ ?_ | refine LeO.bind ?_ (fun _ => ?_) | exact ih0 _ _ _ _ _
theorem madrigalref1_Mul.mono_l : ∀ k, (∀ y0 y1 y2, LeO (madrigalref1_Mul.j0 k y0 y1 y2) (madrigalref1_Mul.j0 (k + 1) y0 y1 y2))
 | 0 => fun _ _ _ r h => by simp [madrigalref1_Mul.j0] at h
 | k + 1 => by
  have ih0 := madrigalref1_Mul.mono_l k
  ·
   intro y0 y1 y2
   unfold madrigalref1_Mul.j0
   repeat' first | (with_reducible first | exact ih0 _ _ _ | exact madrigalref1_Clamp.mono _ _ _ _ | exact LeO.refl _ | exact LeO.none _ | refine LeO.ite ?_ ?_ | refine LeO.bind ?_ (fun _ => ?_)) | refine LeO.ite ?_ ?_ | refine LeO.bind ?_ (fun _ => ?_) | exact ih0 _ _ _
theorem madrigalref1_Mul.mono : ∀ a0 a1 a2 k, LeO (madrigalref1_Mul.f k a0 a1 a2) (madrigalref1_Mul.f (k + 1) a0 a1 a2) := by
 intro a0 a1 a2 k
 have ih0 := madrigalref1_Mul.mono_l k
 unfold madrigalref1_Mul.f
 repeat' first | (with_reducible first | exact ih0 _ _ _ | exact madrigalref1_Clamp.mono _ _ _ _ | exact LeO.refl _ | exact LeO.none _ | refine LeO.ite ?_ ?_ | refine LeO.bind ?_ (fun _ => ?_)) | refine LeO.ite ?_ ?_ | refine LeO.bind ?_ (fun _ => ?_) | exact ih0 _ _ _
theorem madrigalref1_Div.mono_l : ∀ k, (∀ y0 y1 y2 y3, LeO (madrigalref1_Div.j0 k y0 y1 y2 y3) (madrigalref1_Div.j0 (k + 1) y0 y1 y2 y3))
 | 0 => fun _ _ _ _ r h => by simp [madrigalref1_Div.j0] at h
 | k + 1 => by
  have ih0 := madrigalref1_Div.mono_l k
  ·
   intro y0 y1 y2 y3
   unfold madrigalref1_Div.j0
   repeat' first | (with_reducible first | exact ih0 _ _ _ _ | exact madrigalref1_Clamp.mono _ _ _ _ | exact LeO.refl _ | exact LeO.none _ | refine LeO.ite ?_ ?_ | refine LeO.bind ?_ (fun _ => ?_)) | refine LeO.ite ?_ ?_ | refine LeO.bind ?_ (fun _ => ?_) | exact ih0 _ _ _ _
theorem madrigalref1_Div.mono : ∀ a0 a1 a2 k, LeO (madrigalref1_Div.f k a0 a1 a2) (madrigalref1_Div.f (k + 1) a0 a1 a2) := by
 intro a0 a1 a2 k
 have ih0 := madrigalref1_Div.mono_l k
 unfold madrigalref1_Div.f
 repeat' first | (with_reducible first | exact ih0 _ _ _ _ | exact madrigalref1_Clamp.mono _ _ _ _ | exact LeO.refl _ | exact LeO.none _ | refine LeO.ite ?_ ?_ | refine LeO.bind ?_ (fun _ => ?_)) | refine LeO.ite ?_ ?_ | refine LeO.bind ?_ (fun _ => ?_) | exact ih0 _ _ _ _
theorem madrigalref6_Stable.mono_l : ∀ k, (∀ y0 y1, LeO (madrigalref6_Stable.l0 k y0 y1) (madrigalref6_Stable.l0 (k + 1) y0 y1)) ∧ (∀ y0 y1, LeO (madrigalref6_Stable.l1 k y0 y1) (madrigalref6_Stable.l1 (k + 1) y0 y1)) ∧ (∀ y0 y1 y2 y3, LeO (madrigalref6_Stable.j2 k y0 y1 y2 y3) (madrigalref6_Stable.j2 (k + 1) y0 y1 y2 y3)) ∧ (∀ y0 y1 y2 y3 y4 y5, LeO (madrigalref6_Stable.l2 k y0 y1 y2 y3 y4 y5) (madrigalref6_Stable.l2 (k + 1) y0 y1 y2 y3 y4 y5))
 | 0 => ⟨fun _ _ r h => by simp [madrigalref6_Stable.l0] at h, fun _ _ r h => by simp [madrigalref6_Stable.l1] at h, fun _ _ _ _ r h => by simp [madrigalref6_Stable.j2] at h, fun _ _ _ _ _ _ r h => by simp [madrigalref6_Stable.l2] at h⟩
 | k + 1 => by
  obtain ⟨ih0, ih1, ih2, ih3⟩ := madrigalref6_Stable.mono_l k
  refine ⟨?_, ?_, ?_, ?_⟩
  ·
   intro y0 y1
   unfold madrigalref6_Stable.l0
   repeat' first | (with_reducible first | exact ih0 _ _ | exact ih1 _ _ | exact ih2 _ _ _ _ | exact ih3 _ _ _ _ _ _ | exact madrigalref1_Clamp.mono _ _ _ _ | exact madrigalref1_Div.mono _ _ _ _ | exact madrigalref1_Mul.mono _ _ _ _ | exact madrigalref6_clamped.mono _ _ _ _ | exact LeO.refl _ | exact LeO.none _ | refine LeO.ite ?_ ?_ | refine LeO.bind ?_ (fun _ => ?_)) | refine LeO.ite ?_ ?_ | refine LeO.bind ?_ (fun _ => ?_) | exact ih0 _ _ | exact ih1 _ _ | exact ih2 _ _ _ _ | exact ih3 _ _ _ _ _ _
  ·
   intro y0 y1
   unfold madrigalref6_Stable.l1
   repeat' first | (with_reducible first | exact ih0 _ _ | exact ih1 _ _ | exact ih2 _ _ _ _ | exact ih3 _ _ _ _ _ _ | exact madrigalref1_Clamp.mono _ _ _ _ | exact madrigalref1_Div.mono _ _ _ _ | exact madrigalref1_Mul.mono _ _ _ _ | exact madrigalref6_clamped.mono _ _ _ _ | exact LeO.refl _ | exact LeO.none _ | refine LeO.ite ?_ ?_ | refine LeO.bind ?_ (fun _ => ?_)) | refine LeO.ite ?_ ?_ | refine LeO.bind ?_ (fun _ => ?_) | exact ih0 _ _ | exact ih1 _ _ | exact ih2 _ _ _ _ | exact ih3 _ _ _ _ _ _
  ·
   intro y0 y1 y2 y3
   unfold madrigalref6_Stable.j2
   repeat' first | (with_reducible first | exact ih0 _ _ | exact ih1 _ _ | exact ih2 _ _ _ _ | exact ih3 _ _ _ _ _ _ | exact madrigalref1_Clamp.mono _ _ _ _ | exact madrigalref1_Div.mono _ _ _ _ | exact madrigalref1_Mul.mono _ _ _ _ | exact madrigalref6_clamped.mono _ _ _ _ | exact LeO.refl _ | exact LeO.none _ | refine LeO.ite ?_ ?_ | refine LeO.bind ?_ (fun _ => ?_)) | refine LeO.ite ?_ ?_ | refine LeO.bind ?_ (fun _ => ?_) | exact ih0 _ _ | exact ih1 _ _ | exact ih2 _ _ _ _ | exact ih3 _ _ _ _ _ _
  ·
   intro y0 y1 y2 y3 y4 y5
   unfold madrigalref6_Stable.l2
   repeat' first | (with_reducible first | exact ih0 _ _ | exact ih1 _ _ | exact ih2 _ _ _ _ | exact ih3 _ _ _ _ _ _ | exact madrigalref1_Clamp.mono _ _ _ _ | exact madrigalref1_Div.mono _ _ _ _ | exact madrigalref1_Mul.mono _ _ _ _ | exact madrigalref6_clamped.mono _ _ _ _ | exact LeO.refl _ | exact LeO.none _ | refine LeO.ite ?_ ?_ | refine LeO.bind ?_ (fun _ => ?_)) | refine LeO.ite ?_ ?_ | refine LeO.bind ?_ (fun _ => ?_) | exact ih0 _ _ | exact ih1 _ _ | exact ih2 _ _ _ _ | exact ih3 _ _ _ _ _ _
theorem madrigalref6_Stable.mono : ∀ a0 k, LeO (madrigalref6_Stable.f k a0) (madrigalref6_Stable.f (k + 1) a0) := by
 intro a0 k
 obtain ⟨ih0, ih1, ih2, ih3⟩ := madrigalref6_Stable.mono_l k
 unfold madrigalref6_Stable.f
 repeat' first | (with_reducible first | exact ih0 _ _ | exact ih1 _ _ | exact ih2 _ _ _ _ | exact ih3 _ _ _ _ _ _ | exact madrigalref1_Clamp.mono _ _ _ _ | exact madrigalref1_Div.mono _ _ _ _ | exact madrigalref1_Mul.mono _ _ _ _ | exact madrigalref6_clamped.mono _ _ _ _ | exact LeO.refl _ | exact LeO.none _ | refine LeO.ite ?_ ?_ | refine LeO.bind ?_ (fun _ => ?_)) | refine LeO.ite ?_ ?_ | refine LeO.bind ?_ (fun _ => ?_) | exact ih0 _ _ | exact ih1 _ _ | exact ih2 _ _ _ _ | exact ih3 _ _ _ _ _ _
theorem madrigalref6_Chirp.mono_l : ∀ k, (∀ y0 y1 y2 y3, LeO (madrigalref6_Chirp.l0 k y0 y1 y2 y3) (madrigalref6_Chirp.l0 (k + 1) y0 y1 y2 y3)) ∧ (∀ y0 y1 y2 y3 y4 y5, LeO (madrigalref6_Chirp.l1 k y0 y1 y2 y3 y4 y5) (madrigalref6_Chirp.l1 (k + 1) y0 y1 y2 y3 y4 y5))
 | 0 => ⟨fun _ _ _ _ r h => by simp [madrigalref6_Chirp.l0] at h, fun _ _ _ _ _ _ r h => by simp [madrigalref6_Chirp.l1] at h⟩
 | k + 1 => by
  obtain ⟨ih0, ih1⟩ := madrigalref6_Chirp.mono_l k
  refine ⟨?_, ?_⟩
  ·
   intro y0 y1 y2 y3
   unfold madrigalref6_Chirp.l0
   repeat' first | (with_reducible first | exact ih0 _ _ _ _ | exact ih1 _ _ _ _ _ _ | exact madrigalref1_Clamp.mono _ _ _ _ | exact madrigalref1_Mul.mono _ _ _ _ | exact LeO.refl _ | exact LeO.none _ | refine LeO.ite ?_ ?_ | refine LeO.bind ?_ (fun _ => ?_)) | refine LeO.ite ?_ ?_ | refine LeO.bind ?_ (fun _ => ?_) | exact ih0 _ _ _ _ | exact ih1 _ _ _ _ _ _
  ·
   intro y0 y1 y2 y3 y4 y5
   unfold madrigalref6_Chirp.l1
   repeat' first | (with_reducible first | exact ih0 _ _ _ _ | exact ih1 _ _ _ _ _ _ | exact madrigalref1_Clamp.mono _ _ _ _ | exact madrigalref1_Mul.mono _ _ _ _ | exact LeO.refl _ | exact LeO.none _ | refine LeO.ite ?_ ?_ | refine LeO.bind ?_ (fun _ => ?_)) | refine LeO.ite ?_ ?_ | refine LeO.bind ?_ (fun _ => ?_) | exact ih0 _ _ _ _ | exact ih1 _ _ _ _ _ _
theorem madrigalref6_Chirp.mono : ∀ a0 a1 k, LeO (madrigalref6_Chirp.f k a0 a1) (madrigalref6_Chirp.f (k + 1) a0 a1) := by
 intro a0 a1 k
 obtain ⟨ih0, ih1⟩ := madrigalref6_Chirp.mono_l k
 unfold madrigalref6_Chirp.f
 repeat' first | (with_reducible first | exact ih0 _ _ _ _ | exact ih1 _ _ _ _ _ _ | exact madrigalref1_Clamp.mono _ _ _ _ | exact madrigalref1_Mul.mono _ _ _ _ | exact LeO.refl _ | exact LeO.none _ | refine LeO.ite ?_ ?_ | refine LeO.bind ?_ (fun _ => ?_)) | refine LeO.ite ?_ ?_ | refine LeO.bind ?_ (fun _ => ?_) | exact ih0 _ _ _ _ | exact ih1 _ _ _ _ _ _
theorem madrigalref6_Fit.mono_l : ∀ k, (∀ y0 y1 y2, LeO (madrigalref6_Fit.l0 k y0 y1 y2) (madrigalref6_Fit.l0 (k + 1) y0 y1 y2))
 | 0 => fun _ _ _ r h => by simp [madrigalref6_Fit.l0] at h
 | k + 1 => by
  have ih0 := madrigalref6_Fit.mono_l k
  ·
   intro y0 y1 y2
   unfold madrigalref6_Fit.l0
   repeat' first | (with_reducible first | exact ih0 _ _ _ | exact madrigalref6_Chirp.mono _ _ _ | exact madrigalref6_Stable.mono _ _ | exact madrigalref6_clamped.mono _ _ _ _ | exact LeO.refl _ | exact LeO.none _ | refine LeO.ite ?_ ?_ | refine LeO.bind ?_ (fun _ => ?_)) | refine LeO.ite ?_ ?_ | refine LeO.bind ?_ (fun _ => ?_) | exact ih0 _ _ _
theorem madrigalref6_Fit.mono : ∀ a0 k, LeO (madrigalref6_Fit.f k a0) (madrigalref6_Fit.f (k + 1) a0) := by
 intro a0 k
 have ih0 := madrigalref6_Fit.mono_l k
 unfold madrigalref6_Fit.f
 repeat' first | (with_reducible first | exact ih0 _ _ _ | exact madrigalref6_Chirp.mono _ _ _ | exact madrigalref6_Stable.mono _ _ | exact madrigalref6_clamped.mono _ _ _ _ | exact LeO.refl _ | exact LeO.none _ | refine LeO.ite ?_ ?_ | refine LeO.bind ?_ (fun _ => ?_)) | refine LeO.ite ?_ ?_ | refine LeO.bind ?_ (fun _ => ?_) | exact ih0 _ _ _
theorem madrigalref1_series.mono_l : ∀ k, (∀ y0 y1 y2 y3, LeO (madrigalref1_series.l0 k y0 y1 y2 y3) (madrigalref1_series.l0 (k + 1) y0 y1 y2 y3))
 | 0 => fun _ _ _ _ r h => by simp [madrigalref1_series.l0] at h
 | k + 1 => by
  have ih0 := madrigalref1_series.mono_l k
  ·
   intro y0 y1 y2 y3
   unfold madrigalref1_series.l0
   repeat' first | (with_reducible first | exact ih0 _ _ _ _ | exact madrigalref1_Mul.mono _ _ _ _ | exact LeO.refl _ | exact LeO.none _ | refine LeO.ite ?_ ?_ | refine LeO.bind ?_ (fun _ => ?_)) | refine LeO.ite ?_ ?_ | refine LeO.bind ?_ (fun _ => ?_) | exact ih0 _ _ _ _
theorem madrigalref1_series.mono : ∀ a0 a1 a2 k, LeO (madrigalref1_series.f k a0 a1 a2) (madrigalref1_series.f (k + 1) a0 a1 a2) := by
 intro a0 a1 a2 k
 have ih0 := madrigalref1_series.mono_l k
 unfold madrigalref1_series.f
 repeat' first | (with_reducible first | exact ih0 _ _ _ _ | exact madrigalref1_Mul.mono _ _ _ _ | exact LeO.refl _ | exact LeO.none _ | refine LeO.ite ?_ ?_ | refine LeO.bind ?_ (fun _ => ?_)) | refine LeO.ite ?_ ?_ | refine LeO.bind ?_ (fun _ => ?_) | exact ih0 _ _ _ _
theorem madrigalref1_quarter.mono : ∀ a0 k, LeO (madrigalref1_quarter.f k a0) (madrigalref1_quarter.f (k + 1) a0) := by
 intro a0 k
 unfold madrigalref1_quarter.f
 repeat' first | (with_reducible first | exact madrigalref1_Mul.mono _ _ _ _ | exact madrigalref1_series.mono _ _ _ _ | exact LeO.refl _ | exact LeO.none _ | refine LeO.ite ?_ ?_ | refine LeO.bind ?_ (fun _ => ?_)) | refine LeO.ite ?_ ?_ | refine LeO.bind ?_ (fun _ => ?_)
theorem madrigalref1_Cos.mono_l : ∀ k, (∀ y0, LeO (madrigalref1_Cos.j0 k y0) (madrigalref1_Cos.j0 (k + 1) y0))
 | 0 => fun _ r h => by simp [madrigalref1_Cos.j0] at h
 | k + 1 => by
  have ih0 := madrigalref1_Cos.mono_l k
  ·
   intro y0
   unfold madrigalref1_Cos.j0
   repeat' first | (with_reducible first | exact ih0 _ | exact madrigalref1_quarter.mono _ _ | exact LeO.refl _ | exact LeO.none _ | refine LeO.ite ?_ ?_ | refine LeO.bind ?_ (fun _ => ?_)) | refine LeO.ite ?_ ?_ | refine LeO.bind ?_ (fun _ => ?_) | exact ih0 _
theorem madrigalref1_Cos.mono : ∀ a0 k, LeO (madrigalref1_Cos.f k a0) (madrigalref1_Cos.f (k + 1) a0) := by
 intro a0 k
 have ih0 := madrigalref1_Cos.mono_l k
 unfold madrigalref1_Cos.f
 repeat' first | (with_reducible first | exact ih0 _ | exact madrigalref1_quarter.mono _ _ | exact LeO.refl _ | exact LeO.none _ | refine LeO.ite ?_ ?_ | refine LeO.bind ?_ (fun _ => ?_)) | refine LeO.ite ?_ ?_ | refine LeO.bind ?_ (fun _ => ?_) | exact ih0 _
theorem madrigalref6_poly.mono_l : ∀ k, (∀ y0 y1 y2, LeO (madrigalref6_poly.l0 k y0 y1 y2) (madrigalref6_poly.l0 (k + 1) y0 y1 y2)) ∧ (∀ y0 y1 y2 y3, LeO (madrigalref6_poly.l1 k y0 y1 y2 y3) (madrigalref6_poly.l1 (k + 1) y0 y1 y2 y3))
 | 0 => ⟨fun _ _ _ r h => by simp [madrigalref6_poly.l0] at h, fun _ _ _ _ r h => by simp [madrigalref6_poly.l1] at h⟩
 | k + 1 => by
  obtain ⟨ih0, ih1⟩ := madrigalref6_poly.mono_l k
  refine ⟨?_, ?_⟩
  ·
   intro y0 y1 y2
   unfold madrigalref6_poly.l0
   repeat' first | (with_reducible first | exact ih0 _ _ _ | exact ih1 _ _ _ _ | exact madrigalref1_Mul.mono _ _ _ _ | exact LeO.refl _ | exact LeO.none _ | refine LeO.ite ?_ ?_ | refine LeO.bind ?_ (fun _ => ?_)) | refine LeO.ite ?_ ?_ | refine LeO.bind ?_ (fun _ => ?_) | exact ih0 _ _ _ | exact ih1 _ _ _ _
  ·
   intro y0 y1 y2 y3
   unfold madrigalref6_poly.l1
   repeat' first | (with_reducible first | exact ih0 _ _ _ | exact ih1 _ _ _ _ | exact madrigalref1_Mul.mono _ _ _ _ | exact LeO.refl _ | exact LeO.none _ | refine LeO.ite ?_ ?_ | refine LeO.bind ?_ (fun _ => ?_)) | refine LeO.ite ?_ ?_ | refine LeO.bind ?_ (fun _ => ?_) | exact ih0 _ _ _ | exact ih1 _ _ _ _
theorem madrigalref6_poly.mono : ∀ a0 k, LeO (madrigalref6_poly.f k a0) (madrigalref6_poly.f (k + 1) a0) := by
 intro a0 k
 obtain ⟨ih0, ih1⟩ := madrigalref6_poly.mono_l k
 unfold madrigalref6_poly.f
 repeat' first | (with_reducible first | exact ih0 _ _ _ | exact ih1 _ _ _ _ | exact madrigalref1_Mul.mono _ _ _ _ | exact LeO.refl _ | exact LeO.none _ | refine LeO.ite ?_ ?_ | refine LeO.bind ?_ (fun _ => ?_)) | refine LeO.ite ?_ ?_ | refine LeO.bind ?_ (fun _ => ?_) | exact ih0 _ _ _ | exact ih1 _ _ _ _
theorem madrigalref6_From.mono_l : ∀ k, (∀ y0 y1 y2 y3, LeO (madrigalref6_From.l0 k y0 y1 y2 y3) (madrigalref6_From.l0 (k + 1) y0 y1 y2 y3)) ∧ (∀ y0 y1 y2 y3 y4, LeO (madrigalref6_From.l1 k y0 y1 y2 y3 y4) (madrigalref6_From.l1 (k + 1) y0 y1 y2 y3 y4))
 | 0 => ⟨fun _ _ _ _ r h => by simp [madrigalref6_From.l0] at h, fun _ _ _ _ _ r h => by simp [madrigalref6_From.l1] at h⟩
 | k + 1 => by
  obtain ⟨ih0, ih1⟩ := madrigalref6_From.mono_l k
  refine ⟨?_, ?_⟩
  ·
   intro y0 y1 y2 y3
   unfold madrigalref6_From.l0
   repeat' first | (with_reducible first | exact ih0 _ _ _ _ | exact ih1 _ _ _ _ _ | exact madrigalref1_Cos.mono _ _ | exact madrigalref1_Mul.mono _ _ _ _ | exact madrigalref6_Fit.mono _ _ | exact madrigalref6_clamped.mono _ _ _ _ | exact madrigalref6_poly.mono _ _ | exact LeO.refl _ | exact LeO.none _ | refine LeO.ite ?_ ?_ | refine LeO.bind ?_ (fun _ => ?_)) | refine LeO.ite ?_ ?_ | refine LeO.bind ?_ (fun _ => ?_) | exact ih0 _ _ _ _ | exact ih1 _ _ _ _ _
  ·
   intro y0 y1 y2 y3 y4
   unfold madrigalref6_From.l1
   repeat' first | (with_reducible first | exact ih0 _ _ _ _ | exact ih1 _ _ _ _ _ | exact madrigalref1_Cos.mono _ _ | exact madrigalref1_Mul.mono _ _ _ _ | exact madrigalref6_Fit.mono _ _ | exact madrigalref6_clamped.mono _ _ _ _ | exact madrigalref6_poly.mono _ _ | exact LeO.refl _ | exact LeO.none _ | refine LeO.ite ?_ ?_ | refine LeO.bind ?_ (fun _ => ?_)) | refine LeO.ite ?_ ?_ | refine LeO.bind ?_ (fun _ => ?_) | exact ih0 _ _ _ _ | exact ih1 _ _ _ _ _
theorem madrigalref6_From.mono : ∀ a0 k, LeO (madrigalref6_From.f k a0) (madrigalref6_From.f (k + 1) a0) := by
 intro a0 k
 obtain ⟨ih0, ih1⟩ := madrigalref6_From.mono_l k
 unfold madrigalref6_From.f
 repeat' first | (with_reducible first | exact ih0 _ _ _ _ | exact ih1 _ _ _ _ _ | exact madrigalref1_Cos.mono _ _ | exact madrigalref1_Mul.mono _ _ _ _ | exact madrigalref6_Fit.mono _ _ | exact madrigalref6_clamped.mono _ _ _ _ | exact madrigalref6_poly.mono _ _ | exact LeO.refl _ | exact LeO.none _ | refine LeO.ite ?_ ?_ | refine LeO.bind ?_ (fun _ => ?_)) | refine LeO.ite ?_ ?_ | refine LeO.bind ?_ (fun _ => ?_) | exact ih0 _ _ _ _ | exact ih1 _ _ _ _ _
theorem madrigalref1_Lsf.mono_l : ∀ k, (∀ y0 y1 y2, LeO (madrigalref1_Lsf.j0 k y0 y1 y2) (madrigalref1_Lsf.j0 (k + 1) y0 y1 y2)) ∧ (∀ y0 y1 y2, LeO (madrigalref1_Lsf.j1 k y0 y1 y2) (madrigalref1_Lsf.j1 (k + 1) y0 y1 y2)) ∧ (∀ y0 y1 y2 y3 y4, LeO (madrigalref1_Lsf.l0 k y0 y1 y2 y3 y4) (madrigalref1_Lsf.l0 (k + 1) y0 y1 y2 y3 y4))
 | 0 => ⟨fun _ _ _ r h => by simp [madrigalref1_Lsf.j0] at h, fun _ _ _ r h => by simp [madrigalref1_Lsf.j1] at h, fun _ _ _ _ _ r h => by simp [madrigalref1_Lsf.l0] at h⟩
 | k + 1 => by
  obtain ⟨ih0, ih1, ih2⟩ := madrigalref1_Lsf.mono_l k
  refine ⟨?_, ?_, ?_⟩
  ·
   intro y0 y1 y2
   unfold madrigalref1_Lsf.j0
   repeat' first | (with_reducible first | exact ih0 _ _ _ | exact ih1 _ _ _ | exact ih2 _ _ _ _ _ | exact LeO.refl _ | exact LeO.none _ | refine LeO.ite ?_ ?_ | refine LeO.bind ?_ (fun _ => ?_)) | refine LeO.ite ?_ ?_ | refine LeO.bind ?_ (fun _ => ?_) | exact ih0 _ _ _ | exact ih1 _ _ _ | exact ih2 _ _ _ _ _
  ·
   intro y0 y1 y2
   unfold madrigalref1_Lsf.j1
   repeat' first | (with_reducible first | exact ih0 _ _ _ | exact ih1 _ _ _ | exact ih2 _ _ _ _ _ | exact LeO.refl _ | exact LeO.none _ | refine LeO.ite ?_ ?_ | refine LeO.bind ?_ (fun _ => ?_)) | refine LeO.ite ?_ ?_ | refine LeO.bind ?_ (fun _ => ?_) | exact ih0 _ _ _ | exact ih1 _ _ _ | exact ih2 _ _ _ _ _
  ·
   intro y0 y1 y2 y3 y4
   unfold madrigalref1_Lsf.l0
   repeat' first | (with_reducible first | exact ih0 _ _ _ | exact ih1 _ _ _ | exact ih2 _ _ _ _ _ | exact LeO.refl _ | exact LeO.none _ | refine LeO.ite ?_ ?_ | refine LeO.bind ?_ (fun _ => ?_)) | refine LeO.ite ?_ ?_ | refine LeO.bind ?_ (fun _ => ?_) | exact ih0 _ _ _ | exact ih1 _ _ _ | exact ih2 _ _ _ _ _
theorem madrigalref1_Lsf.mono : ∀ a0 a1 k, LeO (madrigalref1_Lsf.f k a0 a1) (madrigalref1_Lsf.f (k + 1) a0 a1) := by
 intro a0 a1 k
 obtain ⟨ih0, ih1, ih2⟩ := madrigalref1_Lsf.mono_l k
 unfold madrigalref1_Lsf.f
 repeat' first | (with_reducible first | exact ih0 _ _ _ | exact ih1 _ _ _ | exact ih2 _ _ _ _ _ | exact LeO.refl _ | exact LeO.none _ | refine LeO.ite ?_ ?_ | refine LeO.bind ?_ (fun _ => ?_)) | refine LeO.ite ?_ ?_ | refine LeO.bind ?_ (fun _ => ?_) | exact ih0 _ _ _ | exact ih1 _ _ _ | exact ih2 _ _ _ _ _
theorem madrigalref6_Steady.mono_l : ∀ k, (∀ y0 y1 y2, LeO (madrigalref6_Steady.l0 k y0 y1 y2) (madrigalref6_Steady.l0 (k + 1) y0 y1 y2)) ∧ (∀ y0 y1 y2, LeO (madrigalref6_Steady.l1 k y0 y1 y2) (madrigalref6_Steady.l1 (k + 1) y0 y1 y2))
 | 0 => ⟨fun _ _ _ r h => by simp [madrigalref6_Steady.l0] at h, fun _ _ _ r h => by simp [madrigalref6_Steady.l1] at h⟩
 | k + 1 => by
  obtain ⟨ih0, ih1⟩ := madrigalref6_Steady.mono_l k
  refine ⟨?_, ?_⟩
  ·
   intro y0 y1 y2
   unfold madrigalref6_Steady.l0
   repeat' first | (with_reducible first | exact ih0 _ _ _ | exact ih1 _ _ _ | exact madrigalref6_clamped.mono _ _ _ _ | exact LeO.refl _ | exact LeO.none _ | refine LeO.ite ?_ ?_ | refine LeO.bind ?_ (fun _ => ?_)) | refine LeO.ite ?_ ?_ | refine LeO.bind ?_ (fun _ => ?_) | exact ih0 _ _ _ | exact ih1 _ _ _
  ·
   intro y0 y1 y2
   unfold madrigalref6_Steady.l1
   repeat' first | (with_reducible first | exact ih0 _ _ _ | exact ih1 _ _ _ | exact madrigalref6_clamped.mono _ _ _ _ | exact LeO.refl _ | exact LeO.none _ | refine LeO.ite ?_ ?_ | refine LeO.bind ?_ (fun _ => ?_)) | refine LeO.ite ?_ ?_ | refine LeO.bind ?_ (fun _ => ?_) | exact ih0 _ _ _ | exact ih1 _ _ _
theorem madrigalref6_Steady.mono : ∀ a0 k, LeO (madrigalref6_Steady.f k a0) (madrigalref6_Steady.f (k + 1) a0) := by
 intro a0 k
 obtain ⟨ih0, ih1⟩ := madrigalref6_Steady.mono_l k
 unfold madrigalref6_Steady.f
 repeat' first | (with_reducible first | exact ih0 _ _ _ | exact ih1 _ _ _ | exact madrigalref6_clamped.mono _ _ _ _ | exact LeO.refl _ | exact LeO.none _ | refine LeO.ite ?_ ?_ | refine LeO.bind ?_ (fun _ => ?_)) | refine LeO.ite ?_ ?_ | refine LeO.bind ?_ (fun _ => ?_) | exact ih0 _ _ _ | exact ih1 _ _ _
theorem madrigalref6_Decode.mono_l : ∀ k, (∀ y0 y1 y2 y3, LeO (madrigalref6_Decode.l0 k y0 y1 y2 y3) (madrigalref6_Decode.l0 (k + 1) y0 y1 y2 y3))
 | 0 => fun _ _ _ _ r h => by simp [madrigalref6_Decode.l0] at h
 | k + 1 => by
  have ih0 := madrigalref6_Decode.mono_l k
  ·
   intro y0 y1 y2 y3
   unfold madrigalref6_Decode.l0
   repeat' first | (with_reducible first | exact ih0 _ _ _ _ | exact madrigalref1_Lsf.mono _ _ _ | exact madrigalref6_Steady.mono _ _ | exact LeO.refl _ | exact LeO.none _ | refine LeO.ite ?_ ?_ | refine LeO.bind ?_ (fun _ => ?_)) | refine LeO.ite ?_ ?_ | refine LeO.bind ?_ (fun _ => ?_) | exact ih0 _ _ _ _
theorem madrigalref6_Decode.mono : ∀ a0 a1 a2 k, LeO (madrigalref6_Decode.f k a0 a1 a2) (madrigalref6_Decode.f (k + 1) a0 a1 a2) := by
 intro a0 a1 a2 k
 have ih0 := madrigalref6_Decode.mono_l k
 unfold madrigalref6_Decode.f
 repeat' first | (with_reducible first | exact ih0 _ _ _ _ | exact madrigalref1_Lsf.mono _ _ _ | exact madrigalref6_Steady.mono _ _ | exact LeO.refl _ | exact LeO.none _ | refine LeO.ite ?_ ?_ | refine LeO.bind ?_ (fun _ => ?_)) | refine LeO.ite ?_ ?_ | refine LeO.bind ?_ (fun _ => ?_) | exact ih0 _ _ _ _
end Go.Proofs.Ytgbdkefglmjdoaa.MA
