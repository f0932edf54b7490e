/- Functions of the program as plain Lean functions, and that the code comes to their answers. No condition. -/
import Derived.Test.YtgbdkefglmjdoaaMAx0
import Derived.Test.YtgbdkefglmjdoaaMAx15
namespace Go.Proofs.Ytgbdkefglmjdoaa.MA
open Go.RowKit Go.Proofs.YtgbdkefglmjdoaaW.PrintWords Go.Proofs.YtgbdkefglmjdoaaW.PrintLast Go.Proofs.YtgbdkefglmjdoaaW.PrintMore
attribute [local go_sem] max2_int min2_int max_two min_two max_three min_three max_four min_four
set_option linter.unusedVariables false
set_option linter.unusedSimpArgs false

/-! ### madrigalref6_poly: function 51 -/
mutual
def madrigalref6_poly.l0 : Nat → List Int → List Int → Int → Option (List Int)
 | 0, _, _, _ => none
 | k + 1, x0, x3, x4 => if x4 < (x0.length : Int) then (if 0 ≤ (wrap64 (x4 - 1)) then (if (wrap64 (x4 - 1)) < (x3.length : Int) then (if 0 ≤ x4 then (if x4 < (x3.length : Int) then ((madrigalref1_Mul.f k (rd x0 x4) (rd x3 x4) 16).bind fun t622 => (if 0 ≤ (wrap64 (x4 + 1)) then (if (wrap64 (x4 + 1)) < (x3.length : Int) then (madrigalref6_poly.l1 k x0 (x3.set ((wrap64 (x4 + 1)) : Int).toNat (wrap64 ((wrap64 (2 * (rd x3 (wrap64 (x4 - 1))))) - t622))) x4 x4) else (none)) else (none))) else (none)) else (none)) else (none)) else (none)) else (some x3)
def madrigalref6_poly.l1 : Nat → List Int → List Int → Int → Int → Option (List Int)
 | 0, _, _, _, _ => none
 | k + 1, x0, x3, x4, x5 => if x5 ≥ 2 then (if 0 ≤ x5 then (if x5 < (x3.length : Int) then (if 0 ≤ (wrap64 (x5 - 2)) then (if (wrap64 (x5 - 2)) < (x3.length : Int) then (if 0 ≤ x4 then (if x4 < (x0.length : Int) then (if 0 ≤ (wrap64 (x5 - 1)) then (if (wrap64 (x5 - 1)) < (x3.length : Int) then ((madrigalref1_Mul.f k (rd x0 x4) (rd x3 (wrap64 (x5 - 1))) 16).bind fun t628 => (madrigalref6_poly.l1 k x0 (x3.set (x5 : Int).toNat (wrap64 ((wrap64 ((rd x3 x5) + (rd x3 (wrap64 (x5 - 2))))) - t628))) x4 (wrap64 (x5 - 1)))) else (none)) else (none)) else (none)) else (none)) else (none)) else (none)) else (none)) else (none)) else (if 1 < (x3.length : Int) then (if 0 ≤ x4 then (if x4 < (x0.length : Int) then (madrigalref6_poly.l0 k x0 (x3.set (1 : Int).toNat (wrap64 ((rd x3 1) - (rd x0 x4)))) (wrap64 (x4 + 1))) else (none)) else (none)) else (none))
end
def madrigalref6_poly.f (k : Nat) (l0 : List Int) : Option (List Int) := if 0 ≤ (wrap64 ((l0.length : Int) + 1)) then (if (wrap64 ((l0.length : Int) + 1) : Int).toNat ≤ 35184372088832 then ((some (List.replicate (wrap64 ((l0.length : Int) + 1) : Int).toNat 0 : List Int)).bind fun y613 => (if 0 < (y613.length : Int) then (if 0 < (l0.length : Int) then (if 1 < (y613.length : Int) then (madrigalref6_poly.l0 k l0 ((y613.set (0 : Int).toNat 65536).set (1 : Int).toNat (wrap64 (-(rd l0 0)))) 1) else (none)) else (none)) else (none))) else (none)) else (none)
def madrigalref6_poly.T7 : Bool × List (List Nat × List Nat) := (true, [([], []), ([], []), ([1], [1]), ([], []), ([], []), ([4], [4]), ([3, 5], [3, 5]), ([6], [6]), ([7], [7]), ([], []), ([], []), ([9, 10], [9, 10]), ([11], [11]), ([], []), ([], []), ([13, 14], [13, 14]), ([15], [15]), ([12, 16], [12, 16]), ([8, 17], [8, 17]), ([0, 2, 0, 1, 2, 3, 4, 5, 6, 7, 8, 9, 10, 11, 12, 13, 14, 15, 16, 17, 18], [0, 2]), ([19, 18, 17, 0, 1, 2, 3, 4, 5, 6, 7, 8, 9, 10, 11, 12, 13, 14, 15, 16, 17, 18], [18, 19])])
def madrigalref6_poly.B7 : List Nat := [0, 0, 2, 0, 0, 16, 56, 120, 248, 0, 0, 1536, 3584, 0, 0, 24576, 57344, 130560, 262136, 524287, 1048575]
theorem madrigalref6_poly.tab7 : rtab .any (opsOf Try.f51 7) = madrigalref6_poly.T7 := by kernel_rfl
theorem madrigalref6_poly.bits7 : waitsOk madrigalref6_poly.T7.2 madrigalref6_poly.B7 = true := by kernel_rfl
def madrigalref6_poly.T11 : Bool × List (List Nat × List Nat) := (true, [([], []), ([], []), ([], []), ([], []), ([2, 3], [2, 3]), ([4], [4]), ([], []), ([], []), ([7], [7]), ([6, 8], [6, 8]), ([9], [9]), ([5, 10], [5, 10]), ([], []), ([], []), ([12, 13], [12, 13]), ([14], [14]), ([], []), ([], []), ([17], [17]), ([16, 18], [16, 18]), ([19], [19]), ([15, 20], [15, 20]), ([11, 21], [11, 21]), ([0, 1, 0, 1, 2, 3, 4, 5, 6, 7, 8, 9, 10, 11, 12, 13, 14, 15, 16, 17, 18, 19, 20, 21, 22], [0, 1]), ([23, 22, 21, 0, 1, 2, 3, 4, 5, 6, 7, 8, 9, 10, 11, 12, 13, 14, 15, 16, 17, 18, 19, 20, 21, 22], [22, 23])])
def madrigalref6_poly.B11 : List Nat := [0, 0, 0, 0, 12, 28, 0, 0, 128, 448, 960, 2044, 0, 0, 12288, 28672, 0, 0, 131072, 458752, 983040, 2093056, 4194300, 8388607, 16777215]
theorem madrigalref6_poly.tab11 : rtab .any (opsOf Try.f51 11) = madrigalref6_poly.T11 := by kernel_rfl
theorem madrigalref6_poly.bits11 : waitsOk madrigalref6_poly.T11.2 madrigalref6_poly.B11 = true := by kernel_rfl
def madrigalref6_poly.T12 : Bool × List (List Nat × List Nat) := (true, [([], []), ([], []), ([1], [1]), ([2], [2]), ([], []), ([], []), ([4, 5], [4, 5]), ([6], [6]), ([3, 7], [3, 7]), ([0, 0, 1, 2, 3, 4, 5, 6, 7, 8], [0]), ([9, 8, 0, 1, 2, 3, 4, 5, 6, 7, 8], [8, 9])])
def madrigalref6_poly.B12 : List Nat := [0, 0, 2, 6, 0, 0, 48, 112, 254, 511, 1023]
theorem madrigalref6_poly.tab12 : rtab .any (opsOf Try.f51 12) = madrigalref6_poly.T12 := by kernel_rfl
theorem madrigalref6_poly.bits12 : waitsOk madrigalref6_poly.T12.2 madrigalref6_poly.B12 = true := by kernel_rfl
set_option maxHeartbeats 8000000 in
set_option maxRecDepth 100000 in
theorem madrigalref6_poly.calls (k : Nat) (A0 : Option Addr) (c0 : Nat) (l0 : List Int) (r : List Int) (w : World) (hr0 : Kd.C (Kd.int .i64) w A0 l0.length l0) (hc0 : l0.length ≤ c0) (h : madrigalref6_poly.f k l0 = some r) :
  Calls Try.prog 51 #[.slice A0 l0.length c0] w fun e w' => ∃ v0_ : Value, e = .returned (v0_) ∧ Kd.R (Kd.int .i64) 2 w' w.heap.size (fun _ => True) v0_ r ∧ Below w.heap.size w w' := by
 have HR0 := Aside0.mk hr0; have HC0 := Aside0.mk hc0; clear hr0 hc0
 have HB := Aside0.mk (Below.refl w.heap.size w)
 have H : (if 0 ≤ (wrap64 ((l0.length : Int) + 1)) then (if (wrap64 ((l0.length : Int) + 1) : Int).toNat ≤ 35184372088832 then ((some (List.replicate (wrap64 ((l0.length : Int) + 1) : Int).toNat 0 : List Int)).bind fun y613 => (if 0 < (y613.length : Int) then (if 0 < (l0.length : Int) then (if 1 < (y613.length : Int) then (madrigalref6_poly.l0 k l0 ((y613.set (0 : Int).toNat 65536).set (1 : Int).toNat (wrap64 (-(rd l0 0)))) 1) else (none)) else (none)) else (none))) else (none)) else (none)) = some r := h
 clear h
 obtain ⟨ji2, hji2⟩ : ∃ j_ : Int, (wrap64 ((l0.length : Int) + 1)) = j_ := ⟨_, rfl⟩
 replace H : (if 0 ≤ (ji2) then (if (ji2 : Int).toNat ≤ 35184372088832 then ((some (List.replicate (ji2 : Int).toNat 0 : List Int)).bind fun y613 => (if 0 < (y613.length : Int) then (if 0 < (l0.length : Int) then (if 1 < (y613.length : Int) then (madrigalref6_poly.l0 k l0 ((y613.set (0 : Int).toNat 65536).set (1 : Int).toNat (wrap64 (-(rd l0 0)))) 1) else (none)) else (none)) else (none))) else (none)) else (none)) = some r := by first | (rw [hji2] at H; exact H) | (simp only [hji2] at H ⊢; exact H)
 have hji2w : (IntKind.i64.wrap ((l0.length : Int) + 1)) = ji2 := (i64_w _).trans hji2
 by_cases c3 : 0 ≤ (ji2); rotate_left
 · rw [if_neg c3] at H; exact absurd H (by simp)
 rw [if_pos c3] at H; have c3b0 := eq_true c3; have c3b1 : decide (0 ≤ (ji2)) = true := decide_eq_true c3; clear c3
 by_cases c4 : (ji2 : Int).toNat ≤ 35184372088832; rotate_left
 · rw [if_neg c4] at H; exact absurd H (by simp)
 rw [if_pos c4] at H; have c4b0 := eq_true c4; have c4b1 : decide ((ji2 : Int).toNat ≤ 35184372088832) = true := decide_eq_true c4; clear c4
 obtain ⟨y613, hy613⟩ : ∃ y_ : List Int, y_ = (List.replicate (ji2 : Int).toNat 0) := ⟨_, rfl⟩
 replace H : (if 0 < (y613.length : Int) then (if 0 < (l0.length : Int) then (if 1 < (y613.length : Int) then (madrigalref6_poly.l0 k l0 ((y613.set (0 : Int).toNat 65536).set (1 : Int).toNat (wrap64 (-(rd l0 0)))) 1) else (none)) else (none)) else (none)) = some r := by first | (rw [hy613]; with_reducible exact H) | (have H2_ := (Option.bind_some _ _).symm.trans H; rw [hy613]; with_reducible exact H2_) | (have H2_ := (Option.bind_some _ _).symm.trans H; with_reducible exact H2_) | with_reducible exact H | (rw [hy613]; exact H) | exact H
 have Ny613 := Aside0.mk hy613; clear hy613
 by_cases c5 : 0 < (y613.length : Int); rotate_left
 · rw [if_neg c5] at H; exact absurd H (by simp)
 rw [if_pos c5] at H; have c5b0 : decide (0 < (y613.length : Int)) = true := decide_eq_true c5; have c5b1 : decide (0 < y613.length) = true := decide_eq_true (by omega); clear c5
 obtain ⟨y616, hy616⟩ : ∃ y_ : List Int, y_ = (y613.set (0 : Int).toNat 65536) := ⟨_, rfl⟩
 replace H : (if 0 < (l0.length : Int) then (if 1 < (y613.length : Int) then (madrigalref6_poly.l0 k l0 (y616.set (1 : Int).toNat (wrap64 (-(rd l0 0)))) 1) else (none)) else (none)) = some r := by first | (rw [hy616]; with_reducible exact H) | (have H2_ := (Option.bind_some _ _).symm.trans H; rw [hy616]; with_reducible exact H2_) | (have H2_ := (Option.bind_some _ _).symm.trans H; with_reducible exact H2_) | with_reducible exact H | (rw [hy616]; exact H) | exact H
 have Ny616 := Aside0.mk hy616; clear hy616
 by_cases c7 : 0 < (l0.length : Int); rotate_left
 · rw [if_neg c7] at H; exact absurd H (by simp)
 rw [if_pos c7] at H; have c7b0 : decide (0 < (l0.length : Int)) = true := decide_eq_true c7; have c7b1 : decide (0 < l0.length) = true := decide_eq_true (by omega); clear c7
 by_cases c8 : 1 < (y613.length : Int); rotate_left
 · rw [if_neg c8] at H; exact absurd H (by simp)
 rw [if_pos c8] at H; have c8b0 : decide (1 < (y613.length : Int)) = true := decide_eq_true c8; have c8b1 : decide (1 < y613.length) = true := decide_eq_true (by omega); clear c8
 obtain ⟨y618, hy618⟩ : ∃ y_ : List Int, y_ = (y616.set (1 : Int).toNat (wrap64 (-(rd l0 0)))) := ⟨_, rfl⟩
 replace H : (madrigalref6_poly.l0 k l0 y618 1) = some r := by first | (rw [hy618]; with_reducible exact H) | (have H2_ := (Option.bind_some _ _).symm.trans H; rw [hy618]; with_reducible exact H2_) | (have H2_ := (Option.bind_some _ _).symm.trans H; with_reducible exact H2_) | with_reducible exact H | (rw [hy618]; exact H) | exact H
 have Ny618 := Aside0.mk hy618; clear hy618; have H' := Aside0.mk H; clear H
 go_enter Try.func51, Try.ntmps51
 go_wp2_with (first | ((with_reducible refine gate_dst (N := 9) rfl ?_); refine Kd.R_make (Kd.int .i64) _ 2 rfl (N := 9) rfl 23 _ _ rfl ji2 rfl rfl Try.underlying23 (.int .i64 0) 8 info2 rfl (by decide) (by omega) 0 (ok := fun _ => True) (okp := fun _ => True) rfl (fun _ hk => hk) trivial (of_decide_eq_true (by first | (with_reducible assumption) | assumption)) (Nat.le_trans (Nat.mul_le_mul_right _ (of_decide_eq_true (by first | (with_reducible assumption) | assumption) : ji2.toNat ≤ 35184372088832)) (by omega)) (Below.refl _ _) (Nat.le_refl _) ?_; intro v614 w10 ho11 hb hg_ hnew_; clear hg_ hnew_; (first | rw [← Ny613.out] at ho11 | (simp only [Int.reduceToNat] at ho11; rw [← Ny613.out] at ho11)); have n0_ := Aside0.mk (Kd.R_lower ho11 (below_size (by repeat (with_reducible first | exact HB.out | apply below_alloc | apply pw_below_drewN | apply below_drew1)))); have n1_ := Aside0.mk (below_step (by repeat (with_reducible first | exact HB.out | apply below_alloc | apply pw_below_drewN | apply below_drew1)) hb); clear HB; have HO615 := n0_; have HB := n1_; clear n0_ n1_; clear hb ho11; have p6 : 0 ≤ (0 : Int) := (by omega); have q6 : (0 : Int) < ((y613.length : Int) : Int) := of_decide_eq_true (by first | (with_reducible assumption) | assumption); have qi6 : (0 < y613.length) = True := eq_true (by omega); obtain ⟨go6, co6, eo6, gb6, gl6, cl6, HG6⟩ := Kd.R_form HO615.out (by omega); (first | cases eo6 | (injection eo6 with ea_ en_ ec_; (first | subst ea_ | (injection ea_ with ea_; subst ea_)); subst ec_; clear en_)); have GB6 := Aside0.mk gb6; have GG6 := Aside0.mk HG6; clear gb6 gl6 HG6; obtain ⟨hx6_0, hf6_0⟩ := Kd.R_celln 0 HO615.out (0 : Int) p6 q6; (try rw [show ((0 : Int)).toNat = 0 from rfl] at hx6_0); (try simp only [Nat.reduceMul, Nat.zero_mul, Nat.zero_add, Nat.reduceAdd] at hx6_0); (try rw [show ((0 : Int)).toNat = 0 from rfl] at hf6_0); (try simp only [Nat.reduceMul, Nat.zero_mul, Nat.zero_add, Nat.reduceAdd] at hf6_0); replace p6 := eq_true p6; replace q6 := eq_true q6; obtain ⟨hy12_, hz12_⟩ := Kd.R_celln 0 HO615.out (0 : Int) (by omega) (of_decide_eq_true (by first | (with_reducible assumption) | assumption)); (try simp only [Int.reduceToNat, Int.toNat_zero, Int.toNat_ofNat, Nat.reduceMul, Nat.zero_mul, Nat.zero_add] at hy12_ hz12_); (try rw [show ((0 : Int)).toNat = 0 from rfl] at hy12_); (try rw [show ((0 : Int)).toNat = 0 from rfl] at hz12_); have HP12 := Kd.R_putg HO615.out (0 : Int) 65536) | ((with_reducible refine gate_store (t := 2) (p := 11) rfl ?_); refine store_event (t := 2) (p := 11) (v := ?vo_w13) (w1 := (w10.setCell ⟨go6, (0 : Int).toNat, none⟩ (.int .i64 65536))) ?hg ?ho ?hn ?hr ?_; (case ho => rfl); (case hg => rfl); (case hn => rfl); (case hr => first | (go_simp; done) | (go_simp; rfl)); intro w13 hw; have hg : w10.grownBy w13 (some go6) := (by rw [hw]; exact HP12.2); have hp_ : Kd.R (Kd.int .i64) 2 w13 w.heap.size (fun _ => True) (.slice (some ⟨go6, 0, none⟩) y613.length co6) y616 := (by rw [hw, Ny616.out]; exact HP12.1); clear HP12; have n0_ := Aside0.mk (hp_); have n1_ := Aside0.mk ((by rw [hw]; exact below_set (HB.out) GB6.out : Below w.heap.size w w13)); clear HO615; clear HB; have HO615 := n0_; have HB := n1_; clear n0_ n1_; clear hg hw hp_; have p617 : 0 ≤ (0 : Int) := (by omega); have q617 : 0 < (l0.length : Int) := of_decide_eq_true (by first | (with_reducible assumption) | assumption); obtain ⟨ad617, e617, hx617_0⟩ := Kd.at_int HR0.out 0 p617 q617; cases e617; have qi617 : (0 < l0.length) = True := eq_true (by omega); (try rw [show ((0 : Int)).toNat = 0 from rfl] at hx617_0); (try rw [Addr.add_zero'] at hx617_0); replace hx617_0 := (HB.out.cell (World.block_lt_of_cell? w _ hx617_0)).trans hx617_0; replace p617 := eq_true p617; replace q617 := eq_true q617; have p9 : 0 ≤ (1 : Int) := (by omega); have q9 : (1 : Int) < ((y613.length : Int) : Int) := of_decide_eq_true (by first | (with_reducible assumption) | assumption); have qi9 : (1 < y613.length) = True := eq_true (by omega); obtain ⟨hx9_0, hf9_0⟩ := Kd.R_celln 0 HO615.out (1 : Int) p9 q9; (try rw [show ((1 : Int)).toNat = 1 from rfl] at hx9_0); (try simp only [Nat.reduceMul, Nat.zero_mul, Nat.zero_add, Nat.reduceAdd] at hx9_0); (try rw [show ((1 : Int)).toNat = 1 from rfl] at hf9_0); (try simp only [Nat.reduceMul, Nat.zero_mul, Nat.zero_add, Nat.reduceAdd] at hf9_0); replace p9 := eq_true p9; replace q9 := eq_true q9; obtain ⟨hy14_, hz14_⟩ := Kd.R_celln 0 HO615.out (1 : Int) (by omega) (of_decide_eq_true (by first | (with_reducible assumption) | assumption)); (try simp only [Int.reduceToNat, Int.toNat_zero, Int.toNat_ofNat, Nat.reduceMul, Nat.zero_mul, Nat.zero_add] at hy14_ hz14_); (try rw [show ((1 : Int)).toNat = 1 from rfl] at hy14_); (try rw [show ((1 : Int)).toNat = 1 from rfl] at hz14_); have HP14 := Kd.R_putg HO615.out (1 : Int) (wrap64 (-(rd l0 0)))) | ((with_reducible refine gate_store (t := 2) (p := 17) rfl ?_); refine store_event (t := 2) (p := 17) (v := ?vo_w15) (w1 := (w13.setCell ⟨go6, (1 : Int).toNat, none⟩ (.int .i64 (wrap64 (-(rd l0 0)))))) ?hg ?ho ?hn ?hr ?_; (case ho => rfl); (case hg => rfl); (case hn => rfl); (case hr => first | (go_simp; done) | (go_simp; rfl)); intro w15 hw; have hg : w13.grownBy w15 (some go6) := (by rw [hw]; exact HP14.2); have hp_ : Kd.R (Kd.int .i64) 2 w15 w.heap.size (fun _ => True) (.slice (some ⟨go6, 0, none⟩) y613.length co6) y618 := (by rw [hw, Ny618.out]; exact HP14.1); clear HP14; have n0_ := Aside0.mk (hp_); have n1_ := Aside0.mk ((by rw [hw]; exact below_set (HB.out) GB6.out : Below w.heap.size w w15)); clear HO615; clear HB; have HO615 := n0_; have HB := n1_; clear n0_ n1_; clear hg hw hp_))
 go_loopg [4] k (fun kq v4 w' => ∃ (x3_1 : List Int) (x4_1 : Int), v4 = .int .i64 x4_1 ∧ Aside0 (madrigalref6_poly.l0 kq l0 x3_1 x4_1 = some r) ∧ Aside0 (kq ≤ k) ∧ Aside0 (Kd.R (Kd.int .i64) 2 w' w.heap.size (fun _ => True) (.slice (some ⟨go6, 0, none⟩) y613.length co6) x3_1) ∧ Aside0 (Below w.heap.size w w'))
 case atStart => exact ⟨(y618), (1), (by first | rfl | (simp; done) | (simp [*]; done)), H', ⟨Nat.le_refl _⟩, ⟨by (with_reducible repeat first | apply Kd.R_alloc | apply Kd.R_drewN | apply Kd.R_drew); exact HO615.out⟩, ⟨by repeat (with_reducible first | exact HB.out | apply below_alloc | apply pw_below_drewN | apply below_drew1)⟩⟩
 case round =>
  clear H'
  (try clear p2); (try clear c3); (try clear c3b0); (try clear c3b0z0); (try clear c3b1); (try clear c3b1z0); (try clear c4); (try clear c4b0); (try clear c4b0z0); (try clear c4b1); (try clear c4b1z0); (try clear c5); (try clear c5b0); (try clear c5b0z0); (try clear c5b1); (try clear c5b1z0); (try clear p6); (try clear q6); (try clear hx6); (try clear qi6); (try clear hf6); (try clear c7); (try clear c7b0); (try clear c7b0z0); (try clear c7b1); (try clear c7b1z0); (try clear c8); (try clear c8b0); (try clear c8b0z0); (try clear c8b1); (try clear c8b1z0); (try clear p9); (try clear q9); (try clear hx9); (try clear qi9); (try clear hf9); (try clear hx617_0); (try clear hx6_0); (try clear hx9_0); (try clear p6); (try clear p617); (try clear p9); (try clear q6); (try clear q617); (try clear q9)
  obtain ⟨x3_1, x4_1, rfl, HA, HK1, HO_3, HB⟩ := hrel
  have hl3_1 := (Kd.R_reads' HO_3.out).1
  rw [hl3_1] at HO_3; (try simp only [hl3_1])
  cases gk with
  | zero => exact absurd HA.out (by simp [madrigalref6_poly.l0])
  | succ k1 =>
   have H := HA.out; clear HA
   simp only [madrigalref6_poly.l0] at H
   by_cases c16 : x4_1 < (l0.length : Int)
   ·
    rw [if_pos c16] at H; have c16b0 : decide (x4_1 < (l0.length : Int)) = true := decide_eq_true c16
    (try (have c16b0z0 := c16b0; rw [hl3_1] at c16b0z0))
    clear c16
    obtain ⟨ji17, hji17⟩ : ∃ j_ : Int, (wrap64 (x4_1 - 1)) = j_ := ⟨_, rfl⟩
    replace H : (if 0 ≤ (ji17) then (if (ji17) < (x3_1.length : Int) then (if 0 ≤ x4_1 then (if x4_1 < (x3_1.length : Int) then ((madrigalref1_Mul.f k1 (rd l0 x4_1) (rd x3_1 x4_1) 16).bind fun t622 => (if 0 ≤ (wrap64 (x4_1 + 1)) then (if (wrap64 (x4_1 + 1)) < (x3_1.length : Int) then (madrigalref6_poly.l1 k1 l0 (x3_1.set ((wrap64 (x4_1 + 1)) : Int).toNat (wrap64 ((wrap64 (2 * (rd x3_1 (ji17)))) - t622))) x4_1 x4_1) else (none)) else (none))) else (none)) else (none)) else (none)) else (none)) = some r := by first | (rw [hji17] at H; exact H) | (simp only [hji17] at H ⊢; exact H)
    have hji17w : (IntKind.i64.wrap (x4_1 - 1)) = ji17 := (i64_w _).trans hji17
    by_cases c18 : 0 ≤ (ji17); rotate_left
    · rw [if_neg c18] at H; exact absurd H (by simp)
    rw [if_pos c18] at H; have c18b0 : decide (0 ≤ (ji17)) = true := decide_eq_true c18; clear c18
    by_cases c19 : (ji17) < (x3_1.length : Int); rotate_left
    · rw [if_neg c19] at H; exact absurd H (by simp)
    rw [if_pos c19] at H; have c19b0 : decide ((ji17) < (x3_1.length : Int)) = true := decide_eq_true c19
    (try (have c19b0z0 := c19b0; rw [hl3_1] at c19b0z0))
    clear c19
    by_cases c20 : 0 ≤ x4_1; rotate_left
    · rw [if_neg c20] at H; exact absurd H (by simp)
    rw [if_pos c20] at H; have c20b0 : decide (0 ≤ x4_1) = true := decide_eq_true c20; clear c20
    by_cases c21 : x4_1 < (x3_1.length : Int); rotate_left
    · rw [if_neg c21] at H; exact absurd H (by simp)
    rw [if_pos c21] at H; have c21b0 : decide (x4_1 < (x3_1.length : Int)) = true := decide_eq_true c21
    (try (have c21b0z0 := c21b0; rw [hl3_1] at c21b0z0))
    clear c21; replace H := Option.bind_eq_some_iff.mp H; obtain ⟨t622, A220, H⟩ := H
    replace H : (if 0 ≤ (wrap64 (x4_1 + 1)) then (if (wrap64 (x4_1 + 1)) < (x3_1.length : Int) then (madrigalref6_poly.l1 k1 l0 (x3_1.set ((wrap64 (x4_1 + 1)) : Int).toNat (wrap64 ((wrap64 (2 * (rd x3_1 (ji17)))) - t622))) x4_1 x4_1) else (none)) else (none)) = some r := H
    have A22 := Aside0.mk A220; clear A220
    obtain ⟨ji23, hji23⟩ : ∃ j_ : Int, (wrap64 (x4_1 + 1)) = j_ := ⟨_, rfl⟩
    replace H : (if 0 ≤ (ji23) then (if (ji23) < (x3_1.length : Int) then (madrigalref6_poly.l1 k1 l0 (x3_1.set ((ji23) : Int).toNat (wrap64 ((wrap64 (2 * (rd x3_1 (ji17)))) - t622))) x4_1 x4_1) else (none)) else (none)) = some r := by first | (rw [hji23] at H; exact H) | (simp only [hji23] at H ⊢; exact H)
    (try rw [hji23] at A22)
    have hji23w : (IntKind.i64.wrap (x4_1 + 1)) = ji23 := (i64_w _).trans hji23
    by_cases c24 : 0 ≤ (ji23); rotate_left
    · rw [if_neg c24] at H; exact absurd H (by simp)
    rw [if_pos c24] at H; have c24b0 : decide (0 ≤ (ji23)) = true := decide_eq_true c24; clear c24
    by_cases c25 : (ji23) < (x3_1.length : Int); rotate_left
    · rw [if_neg c25] at H; exact absurd H (by simp)
    rw [if_pos c25] at H; have c25b0 : decide ((ji23) < (x3_1.length : Int)) = true := decide_eq_true c25
    (try (have c25b0z0 := c25b0; rw [hl3_1] at c25b0z0))
    clear c25
    obtain ⟨y623, hy623⟩ : ∃ y_ : List Int, y_ = (x3_1.set ((ji23) : Int).toNat (wrap64 ((wrap64 (2 * (rd x3_1 (ji17)))) - t622))) := ⟨_, rfl⟩
    replace H : (madrigalref6_poly.l1 k1 l0 y623 x4_1 x4_1) = some r := by first | (rw [hy623]; with_reducible exact H) | (have H2_ := (Option.bind_some _ _).symm.trans H; rw [hy623]; with_reducible exact H2_) | (have H2_ := (Option.bind_some _ _).symm.trans H; with_reducible exact H2_) | with_reducible exact H | (rw [hy623]; exact H) | exact H
    have Ny623 := Aside0.mk hy623; clear hy623; have H' := Aside0.mk H; clear H
    try go_wp2
    have n0_ := Aside0.mk (Kd.R_drew HO_3.out)
    have n1_ := Aside0.mk (below_drew1 HB.out)
    clear HO_3; clear HB
    have HO_3 := n0_
    have HB := n1_
    clear n0_ n1_; have p619 : 0 ≤ ((ji17) : Int) := of_decide_eq_true (by first | (with_reducible assumption) | assumption); have q619 : (ji17) < (x3_1.length : Int) := of_decide_eq_true (by first | (with_reducible assumption) | assumption)
    obtain ⟨ad619, e619, hx619_0⟩ := Kd.at_int (Kd.R_reads' HO_3.out).2.2 (ji17) p619 q619
    obtain rfl : (⟨go6, 0, none⟩ : Addr) = ad619 := (by injection e619)
    (first | simp only [add_plain] at hx619_0 | simp only [add_at] at hx619_0 | simp only [Addr.add, Nat.zero_add] at hx619_0 | skip)
    replace p619 := eq_true p619; replace q619 := eq_true q619; have p620 : 0 ≤ (x4_1 : Int) := of_decide_eq_true (by first | (with_reducible assumption) | assumption); have q620 : x4_1 < (l0.length : Int) := of_decide_eq_true (by first | (with_reducible assumption) | assumption)
    obtain ⟨ad620, e620, hx620_0⟩ := Kd.at_int HR0.out x4_1 p620 q620
    have hw620_0 := hx620_0
    obtain rfl : ad617 = ad620 := (by injection e620)
    replace hx620_0 := (HB.out.cell (World.block_lt_of_cell? w _ hx620_0)).trans hx620_0
    replace p620 := eq_true p620; replace q620 := eq_true q620; have p621 : 0 ≤ (x4_1 : Int) := of_decide_eq_true (by first | (with_reducible assumption) | assumption); have q621 : x4_1 < (x3_1.length : Int) := of_decide_eq_true (by first | (with_reducible assumption) | assumption)
    obtain ⟨ad621, e621, hx621_0⟩ := Kd.at_int (Kd.R_reads' HO_3.out).2.2 x4_1 p621 q621
    obtain rfl : (⟨go6, 0, none⟩ : Addr) = ad621 := (by injection e621)
    (first | simp only [add_plain] at hx621_0 | simp only [add_at] at hx621_0 | simp only [Addr.add, Nat.zero_add] at hx621_0 | skip)
    replace p621 := eq_true p621; replace q621 := eq_true q621
    refine start_ (n := 21) (S := fun w' => w'.cell? ⟨go6, ((ji17)).toNat, none⟩ = some (.int .i64 (rd x3_1 (ji17))) ∧ w'.cell? (ad617.add (x4_1).toNat) = some (.int .i64 (rd l0 x4_1)) ∧ w'.cell? ⟨go6, (x4_1).toNat, none⟩ = some (.int .i64 (rd x3_1 x4_1))) (ds := [20]) #[false, false, false, false, false, false, false, false, false, false, false, false, false, false, false, false, false, false, false, false, false] (by kernel_rfl) rfl rfl ⟨hx619_0, ((HB.out.cell (World.block_lt_of_cell? w _ hw620_0)).trans hw620_0), hx621_0⟩ (fun hHeld => ?_); refine with_tabW madrigalref6_poly.tab7 madrigalref6_poly.bits7 (fun HT_ HW_ => ?_)
    generalize wr.drew = w27 at HO_3 HB hx619_0 hx620_0 hx621_0 hHeld ⊢
    refine pure_ (i := 0) (N := some 24) (v := ?_) (a' := ?_) #[true, false, false, false, false, false, false, false, false, false, false, false, false, false, false, false, false, false, false, false, false] rfl rfl (any_of HT_.out (by kernel_rfl)) (fun _ _ _ h => h) (Or.inl ⟨by rfl, ?_⟩) ?_ ?_
    rotate_left
    ·
     intro w'
     go_simp
     with_reducible rfl
    rotate_left
    ·
     simp only [Act.put, List.setIfInBounds_toArray, List.set_cons_zero, List.set_cons_succ, i64_w, i32_w]
     rfl
    refine pure_ (i := 1) (N := some 25) (v := ?_) (a' := ?_) #[true, true, false, false, false, false, false, false, false, false, false, false, false, false, false, false, false, false, false, false, false] rfl rfl (any_of HT_.out (by kernel_rfl)) (fun _ _ _ h => h) (Or.inl ⟨by rfl, ?_⟩) ?_ ?_
    rotate_left
    ·
     intro w'
     go_simp
     with_reducible rfl
    rotate_left
    ·
     simp only [Act.put, List.setIfInBounds_toArray, List.set_cons_zero, List.set_cons_succ, i64_w, i32_w]
     rfl
    refine pure_ (i := 2) (N := some 26) (v := ?_) (a' := ?_) #[true, true, true, false, false, false, false, false, false, false, false, false, false, false, false, false, false, false, false, false, false] rfl rfl (any_of HT_.out (by kernel_rfl)) (fun _ _ _ h => h) (Or.inl ⟨by rfl, ?_⟩) ?_ ?_
    rotate_left
    ·
     intro w'
     go_simp
     with_reducible rfl
    rotate_left
    ·
     simp only [Act.put, List.setIfInBounds_toArray, List.set_cons_zero, List.set_cons_succ, i64_w, i32_w]
     rfl
    refine pure_ (i := 3) (N := some 27) (v := ?_) (a' := ?_) #[true, true, true, true, false, false, false, false, false, false, false, false, false, false, false, false, false, false, false, false, false] rfl rfl (any_of HT_.out (by kernel_rfl)) (fun _ _ _ h => h) (Or.inl ⟨by rfl, ?_⟩) ?_ ?_
    rotate_left
    ·
     intro w'
     go_simp
     with_reducible rfl
    rotate_left
    ·
     simp only [Act.put, List.setIfInBounds_toArray, List.set_cons_zero, List.set_cons_succ, i64_w, i32_w]
     rfl
    refine pure_ (i := 4) (N := some 28) (v := ?_) (a' := ?_) #[true, true, true, true, true, false, false, false, false, false, false, false, false, false, false, false, false, false, false, false, false] rfl rfl (any_of HT_.out (by kernel_rfl)) (fun _ _ _ h => h) (Or.inl ⟨by rfl, ?_⟩) ?_ ?_
    rotate_left
    ·
     intro w'
     go_simp
     with_reducible rfl
    rotate_left
    ·
     simp only [Act.put, List.setIfInBounds_toArray, List.set_cons_zero, List.set_cons_succ, i64_w, i32_w]
     rfl
    refine pure_ (i := 5) (N := some 29) (v := ?_) (a' := ?_) #[true, true, true, true, true, true, false, false, false, false, false, false, false, false, false, false, false, false, false, false, false] rfl rfl (any_of HT_.out (by kernel_rfl)) (fun _ _ _ h => h) (Or.inl ⟨by rfl, ?_⟩) ?_ ?_
    rotate_left
    ·
     intro w'
     go_simp
     with_reducible rfl
    rotate_left
    ·
     simp only [Act.put, List.setIfInBounds_toArray, List.set_cons_zero, List.set_cons_succ, i64_w, i32_w]
     rfl
    refine pure_ (i := 6) (N := some 30) (v := ?_) (a' := ?_) #[true, true, true, true, true, true, true, false, false, false, false, false, false, false, false, false, false, false, false, false, false] rfl rfl (any_of HT_.out (by kernel_rfl)) (fun _ _ _ h => h) (Or.inl ⟨by rfl, ?_⟩) ?_ ?_
    rotate_left
    ·
     intro w'
     go_simp
     with_reducible rfl
    rotate_left
    ·
     simp only [Act.put, List.setIfInBounds_toArray, List.set_cons_zero, List.set_cons_succ, i64_w, i32_w]
     rfl
    refine pure_ (i := 9) (N := some 33) (v := ?_) (a' := ?_) #[true, true, true, true, true, true, true, false, false, true, false, false, false, false, false, false, false, false, false, false, false] rfl rfl (any_of HT_.out (by kernel_rfl)) (fun _ _ _ h => h) (Or.inl ⟨by rfl, ?_⟩) ?_ ?_
    rotate_left
    ·
     intro w'
     go_simp
     with_reducible rfl
    rotate_left
    ·
     simp only [Act.put, List.setIfInBounds_toArray, List.set_cons_zero, List.set_cons_succ, i64_w, i32_w]
     rfl
    refine pure_ (i := 10) (N := some 34) (v := ?_) (a' := ?_) #[true, true, true, true, true, true, true, false, false, true, true, false, false, false, false, false, false, false, false, false, false] rfl rfl (any_of HT_.out (by kernel_rfl)) (fun _ _ _ h => h) (Or.inl ⟨by rfl, ?_⟩) ?_ ?_
    rotate_left
    ·
     intro w'
     go_simp
     with_reducible rfl
    rotate_left
    ·
     simp only [Act.put, List.setIfInBounds_toArray, List.set_cons_zero, List.set_cons_succ, i64_w, i32_w]
     rfl
    refine pure_ (i := 11) (N := some 35) (v := ?_) (a' := ?_) #[true, true, true, true, true, true, true, false, false, true, true, true, false, false, false, false, false, false, false, false, false] rfl rfl (any_of HT_.out (by kernel_rfl)) (fun _ _ _ h => h) (Or.inl ⟨by rfl, ?_⟩) ?_ ?_
    rotate_left
    ·
     intro w'
     go_simp
     with_reducible rfl
    rotate_left
    ·
     simp only [Act.put, List.setIfInBounds_toArray, List.set_cons_zero, List.set_cons_succ, i64_w, i32_w]
     rfl
    refine pure_ (i := 13) (N := some 37) (v := ?_) (a' := ?_) #[true, true, true, true, true, true, true, false, false, true, true, true, false, true, false, false, false, false, false, false, false] rfl rfl (any_of HT_.out (by kernel_rfl)) (fun _ _ _ h => h) (Or.inl ⟨by rfl, ?_⟩) ?_ ?_
    rotate_left
    ·
     intro w'
     go_simp
     with_reducible rfl
    rotate_left
    ·
     simp only [Act.put, List.setIfInBounds_toArray, List.set_cons_zero, List.set_cons_succ, i64_w, i32_w]
     rfl
    refine pure_ (i := 14) (N := some 38) (v := ?_) (a' := ?_) #[true, true, true, true, true, true, true, false, false, true, true, true, false, true, true, false, false, false, false, false, false] rfl rfl (any_of HT_.out (by kernel_rfl)) (fun _ _ _ h => h) (Or.inl ⟨by rfl, ?_⟩) ?_ ?_
    rotate_left
    ·
     intro w'
     go_simp
     with_reducible rfl
    rotate_left
    ·
     simp only [Act.put, List.setIfInBounds_toArray, List.set_cons_zero, List.set_cons_succ, i64_w, i32_w]
     rfl
    refine pure_ (i := 15) (N := some 39) (v := ?_) (a' := ?_) #[true, true, true, true, true, true, true, false, false, true, true, true, false, true, true, true, false, false, false, false, false] rfl rfl (any_of HT_.out (by kernel_rfl)) (fun _ _ _ h => h) (Or.inl ⟨by rfl, ?_⟩) ?_ ?_
    rotate_left
    ·
     intro w'
     go_simp
     with_reducible rfl
    rotate_left
    ·
     simp only [Act.put, List.setIfInBounds_toArray, List.set_cons_zero, List.set_cons_succ, i64_w, i32_w]
     rfl
    refine take_ (i := 7) (N := some 31) (v := ?_) (a' := ?_) #[true, true, true, true, true, true, true, true, false, true, true, true, false, true, true, true, false, false, false, false, false] rfl rfl (take_ofW HT_.out HW_.out (by kernel_rfl)) (fun _ _ _ h => h) (Or.inl ⟨by rfl, ?_⟩) hHeld ?_ ?_
    rotate_left
    ·
     rintro w' ⟨s0, s1, s2⟩
     go_simp
     with_reducible rfl
    rotate_left
    ·
     simp only [Act.put, List.setIfInBounds_toArray, List.set_cons_zero, List.set_cons_succ, i64_w, i32_w]
     rfl
    refine pure_ (i := 8) (N := some 32) (v := ?_) (a' := ?_) #[true, true, true, true, true, true, true, true, true, true, true, true, false, true, true, true, false, false, false, false, false] rfl rfl (any_of HT_.out (by kernel_rfl)) (fun _ _ _ h => h) (Or.inl ⟨by rfl, ?_⟩) ?_ ?_
    rotate_left
    ·
     intro w'
     go_simp
     with_reducible rfl
    rotate_left
    ·
     simp only [Act.put, List.setIfInBounds_toArray, List.set_cons_zero, List.set_cons_succ, i64_w, i32_w]
     rfl
    refine take_ (i := 12) (N := some 36) (v := ?_) (a' := ?_) #[true, true, true, true, true, true, true, true, true, true, true, true, true, true, true, true, false, false, false, false, false] rfl rfl (take_ofW HT_.out HW_.out (by kernel_rfl)) (fun _ _ _ h => h) (Or.inl ⟨by rfl, ?_⟩) hHeld ?_ ?_
    rotate_left
    ·
     rintro w' ⟨s0, s1, s2⟩
     go_simp
     with_reducible rfl
    rotate_left
    ·
     simp only [Act.put, List.setIfInBounds_toArray, List.set_cons_zero, List.set_cons_succ, i64_w, i32_w]
     rfl
    refine take_ (i := 16) (N := some 40) (v := ?_) (a' := ?_) #[true, true, true, true, true, true, true, true, true, true, true, true, true, true, true, true, true, false, false, false, false] rfl rfl (take_ofW HT_.out HW_.out (by kernel_rfl)) (fun _ _ _ h => h) (Or.inl ⟨by rfl, ?_⟩) hHeld ?_ ?_
    rotate_left
    ·
     rintro w' ⟨s0, s1, s2⟩
     go_simp
     with_reducible rfl
    rotate_left
    ·
     simp only [Act.put, List.setIfInBounds_toArray, List.set_cons_zero, List.set_cons_succ, i64_w, i32_w]
     rfl
    refine one_ (i := 17) (N := some 41) #[true, true, true, true, true, true, true, true, true, true, true, true, true, true, true, true, true, true, false, false, false] rfl rfl (one_of HT_.out (by kernel_rfl)) (by decide) (fun K hK => ?_)
    refine goes_ Try.func34 (by kernel_rfl) rfl #[.int .i64 (rd l0 x4_1), .int .i64 (rd x3_1 x4_1), .int .i64 16] (by rfl) rfl rfl (by (try simp only [List.map_toArray, List.map_cons, List.map_nil]); first | done | rfl | (simp only [List.length_drop, List.length_take]; rfl)) ?_
    with_reducible refine (madrigalref1_Mul.calls k1 (rd l0 x4_1) (rd x3_1 x4_1) 16 t622 _ A22.out).mono ?_
    rintro e w' ⟨rfl, ⟨nd, rfl⟩⟩
    refine ⟨_, rfl, ?_⟩
    have p26 : 0 ≤ ((ji23) : Int) := of_decide_eq_true (by first | (with_reducible assumption) | assumption); have q26 : ((ji23) : Int) < ((x3_1.length : Int) : Int) := of_decide_eq_true (by first | (with_reducible assumption) | assumption)
    obtain ⟨hx26_0, hf26_0⟩ := Kd.R_celln 0 HO_3.out ((ji23) : Int) p26 q26
    replace p26 := eq_true p26; replace q26 := eq_true q26
    have HP28 := Kd.R_putn HO_3.out ((ji23) : Int) (wrap64 ((wrap64 (2 * (rd x3_1 (ji17)))) - t622))
    rw [← Ny623.out] at HP28; have HQ28 := Aside0.mk HP28; clear HP28
    refine hK.out _ _ ⟨hHeld.1, ((HB.out.cell (World.block_lt_of_cell? w _ hw620_0)).trans hw620_0), hHeld.2.2⟩ (fun hHeld => ?_)
    clear hK K
    refine norm_ (a' := ?_) ?_ ?_
    rotate_left
    ·
     show Act.put _ (some 41) _ = _
     simp only [Act.put, List.setIfInBounds_toArray, List.set_cons_zero, List.set_cons_succ, i64_w, i32_w]
     rfl
    refine pure_ (i := 18) (N := some 42) (v := ?_) (a' := ?_) #[true, true, true, true, true, true, true, true, true, true, true, true, true, true, true, true, true, true, true, false, false] rfl rfl (any_of HT_.out (by kernel_rfl)) (fun _ _ _ h => h) (Or.inl ⟨by rfl, ?_⟩) ?_ ?_
    rotate_left
    ·
     intro w'
     go_simp
     with_reducible rfl
    rotate_left
    ·
     simp only [Act.put, List.setIfInBounds_toArray, List.set_cons_zero, List.set_cons_succ, i64_w, i32_w]
     rfl
    refine pure_ (i := 19) (N := some 43) (v := ?_) (a' := ?_) #[true, true, true, true, true, true, true, true, true, true, true, true, true, true, true, true, true, true, true, true, false] rfl rfl (any_of HT_.out (by kernel_rfl)) (fun _ _ _ h => h) (Or.inl ⟨by rfl, ?_⟩) ?_ ?_
    rotate_left
    ·
     intro w'
     go_simp
     with_reducible rfl
    rotate_left
    ·
     simp only [Act.put, List.setIfInBounds_toArray, List.set_cons_zero, List.set_cons_succ, i64_w, i32_w]
     rfl
    refine last_ (i := 20) (N := none) #[true, true, true, true, true, true, true, true, true, true, true, true, true, true, true, true, true, true, true, true, true] rfl rfl (one_of HT_.out (by kernel_rfl)) (by decide) (fun K hK => ?_)
    refine skip_ (w1 := ?_) (by rfl) rfl ?_ ?_
    rotate_left
    ·
     go_simp
     rfl
    refine hK.out _ _ ?_
    clear hK K
    refine done_ (done_of HT_.out (by kernel_rfl)) ?_
    try go_wp2
    go_loopg [5] k1 (fun kq v5 w' => ∃ (x3_2 : List Int) (x5_2 : Int), v5 = .int .i64 x5_2 ∧ Aside0 (madrigalref6_poly.l1 kq l0 x3_2 x4_1 x5_2 = some r) ∧ Aside0 (kq ≤ k1) ∧ Aside0 (Kd.R (Kd.int .i64) 2 w' w.heap.size (fun _ => True) (.slice (some ⟨go6, 0, none⟩) x3_1.length co6) x3_2) ∧ Aside0 (Below w.heap.size w w'))
    case atStart => exact ⟨(y623), (x4_1), (by first | rfl | (simp; done) | (simp [*]; done)), H', ⟨Nat.le_refl _⟩, ⟨by (try simp only [hl3_1]); (with_reducible repeat first | apply Kd.R_alloc | apply Kd.R_drewN | apply Kd.R_drew); exact HQ28.out⟩, ⟨by repeat (first | (with_reducible first | exact HB.out | apply below_alloc | apply pw_below_drewN | apply below_drew1 | refine below_set ?_ GB6.out) | exact HB.out)⟩⟩
    case round =>
     clear H'
     (try clear c1); (try clear c2); (try clear p2); (try clear q2); (try clear hx2); (try clear hf2); (try clear c3); (try clear c3b0); (try clear c3b0z0); (try clear c3b1); (try clear c3b1z0); (try clear c4); (try clear c4b0); (try clear c4b0z0); (try clear c4b1); (try clear c4b1z0); (try clear c5); (try clear c5b0); (try clear c5b0z0); (try clear c5b1); (try clear c5b1z0); (try clear p6); (try clear q6); (try clear hx6); (try clear qi6); (try clear hf6); (try clear c7); (try clear c7b0); (try clear c7b0z0); (try clear c7b1); (try clear c7b1z0); (try clear c8); (try clear c8b0); (try clear c8b0z0); (try clear c8b1); (try clear c8b1z0); (try clear p9); (try clear q9); (try clear hx9); (try clear qi9); (try clear hf9); (try clear c16); (try clear c16b0); (try clear c16b0z0); (try clear c18); (try clear c18b0); (try clear c18b0z0); (try clear c19); (try clear c19b0); (try clear c19b0z0); (try clear c20); (try clear c20b0); (try clear c20b0z0); (try clear c21); (try clear c21b0); (try clear c21b0z0); (try clear c24); (try clear c24b0); (try clear c24b0z0); (try clear c25); (try clear c25b0); (try clear c25b0z0); (try clear p26); (try clear q26); (try clear hx26); (try clear hf26); (try clear hx26_0); (try clear hx617_0); (try clear hx619_0); (try clear hx620_0); (try clear hx621_0); (try clear hx6_0); (try clear hx9_0); (try clear p2); (try clear p26); (try clear p6); (try clear p617); (try clear p619); (try clear p620); (try clear p621); (try clear p9); (try clear q26); (try clear q6); (try clear q617); (try clear q619); (try clear q620); (try clear q621); (try clear q9)
     obtain ⟨x3_2, x5_2, rfl, HA, HK2, HO_3, HB⟩ := hrel
     have hl3_2 := (Kd.R_reads' HO_3.out).1
     rw [hl3_2] at HO_3; (try simp only [hl3_2])
     cases gk with
     | zero => exact absurd HA.out (by simp [madrigalref6_poly.l1])
     | succ k2 =>
      have H := HA.out; clear HA
      simp only [madrigalref6_poly.l1] at H
      by_cases c29 : x5_2 ≥ 2
      ·
       rw [if_pos c29] at H; have c29b0 : decide (2 ≤ x5_2) = true := decide_eq_true c29; clear c29
       by_cases c30 : 0 ≤ x5_2; rotate_left
       · rw [if_neg c30] at H; exact absurd H (by simp)
       rw [if_pos c30] at H; have c30b0 : decide (0 ≤ x5_2) = true := decide_eq_true c30; clear c30
       by_cases c31 : x5_2 < (x3_2.length : Int); rotate_left
       · rw [if_neg c31] at H; exact absurd H (by simp)
       rw [if_pos c31] at H; have c31b0 : decide (x5_2 < (x3_2.length : Int)) = true := decide_eq_true c31
       (try (have c31b0z0 := c31b0; rw [hl3_1] at c31b0z0))
       (try (have c31b0z1 := c31b0; rw [hl3_2] at c31b0z1))
       clear c31
       obtain ⟨ji32, hji32⟩ : ∃ j_ : Int, (wrap64 (x5_2 - 2)) = j_ := ⟨_, rfl⟩
       replace H : (if 0 ≤ (ji32) then (if (ji32) < (x3_2.length : Int) then (if 0 ≤ x4_1 then (if x4_1 < (l0.length : Int) then (if 0 ≤ (wrap64 (x5_2 - 1)) then (if (wrap64 (x5_2 - 1)) < (x3_2.length : Int) then ((madrigalref1_Mul.f k2 (rd l0 x4_1) (rd x3_2 (wrap64 (x5_2 - 1))) 16).bind fun t628 => (madrigalref6_poly.l1 k2 l0 (x3_2.set (x5_2 : Int).toNat (wrap64 ((wrap64 ((rd x3_2 x5_2) + (rd x3_2 (ji32)))) - t628))) x4_1 (wrap64 (x5_2 - 1)))) else (none)) else (none)) else (none)) else (none)) else (none)) else (none)) = some r := by first | (rw [hji32] at H; exact H) | (simp only [hji32] at H ⊢; exact H)
       have hji32w : (IntKind.i64.wrap (x5_2 - 2)) = ji32 := (i64_w _).trans hji32
       by_cases c33 : 0 ≤ (ji32); rotate_left
       · rw [if_neg c33] at H; exact absurd H (by simp)
       rw [if_pos c33] at H; have c33b0 : decide (0 ≤ (ji32)) = true := decide_eq_true c33; clear c33
       by_cases c34 : (ji32) < (x3_2.length : Int); rotate_left
       · rw [if_neg c34] at H; exact absurd H (by simp)
       rw [if_pos c34] at H; have c34b0 : decide ((ji32) < (x3_2.length : Int)) = true := decide_eq_true c34
       (try (have c34b0z0 := c34b0; rw [hl3_1] at c34b0z0))
       (try (have c34b0z1 := c34b0; rw [hl3_2] at c34b0z1))
       clear c34
       by_cases c35 : 0 ≤ x4_1; rotate_left
       · rw [if_neg c35] at H; exact absurd H (by simp)
       rw [if_pos c35] at H; have c35b0 : decide (0 ≤ x4_1) = true := decide_eq_true c35; clear c35
       by_cases c36 : x4_1 < (l0.length : Int); rotate_left
       · rw [if_neg c36] at H; exact absurd H (by simp)
       rw [if_pos c36] at H; have c36b0 : decide (x4_1 < (l0.length : Int)) = true := decide_eq_true c36
       (try (have c36b0z0 := c36b0; rw [hl3_1] at c36b0z0))
       (try (have c36b0z1 := c36b0; rw [hl3_2] at c36b0z1))
       clear c36
       obtain ⟨ji37, hji37⟩ : ∃ j_ : Int, (wrap64 (x5_2 - 1)) = j_ := ⟨_, rfl⟩
       replace H : (if 0 ≤ (ji37) then (if (ji37) < (x3_2.length : Int) then ((madrigalref1_Mul.f k2 (rd l0 x4_1) (rd x3_2 (ji37)) 16).bind fun t628 => (madrigalref6_poly.l1 k2 l0 (x3_2.set (x5_2 : Int).toNat (wrap64 ((wrap64 ((rd x3_2 x5_2) + (rd x3_2 (ji32)))) - t628))) x4_1 ji37)) else (none)) else (none)) = some r := by first | (rw [hji37] at H; exact H) | (simp only [hji37] at H ⊢; exact H)
       have hji37w : (IntKind.i64.wrap (x5_2 - 1)) = ji37 := (i64_w _).trans hji37
       by_cases c38 : 0 ≤ (ji37); rotate_left
       · rw [if_neg c38] at H; exact absurd H (by simp)
       rw [if_pos c38] at H; have c38b0 : decide (0 ≤ (ji37)) = true := decide_eq_true c38; clear c38
       by_cases c39 : (ji37) < (x3_2.length : Int); rotate_left
       · rw [if_neg c39] at H; exact absurd H (by simp)
       rw [if_pos c39] at H; have c39b0 : decide ((ji37) < (x3_2.length : Int)) = true := decide_eq_true c39
       (try (have c39b0z0 := c39b0; rw [hl3_1] at c39b0z0))
       (try (have c39b0z1 := c39b0; rw [hl3_2] at c39b0z1))
       clear c39; replace H := Option.bind_eq_some_iff.mp H; obtain ⟨t628, A400, H⟩ := H
       replace H : (madrigalref6_poly.l1 k2 l0 (x3_2.set (x5_2 : Int).toNat (wrap64 ((wrap64 ((rd x3_2 x5_2) + (rd x3_2 (ji32)))) - t628))) x4_1 ji37) = some r := H
       have A40 := Aside0.mk A400; clear A400
       obtain ⟨y629, hy629⟩ : ∃ y_ : List Int, y_ = (x3_2.set (x5_2 : Int).toNat (wrap64 ((wrap64 ((rd x3_2 x5_2) + (rd x3_2 (ji32)))) - t628))) := ⟨_, rfl⟩
       replace H : (madrigalref6_poly.l1 k2 l0 y629 x4_1 ji37) = some r := by first | (rw [hy629]; with_reducible exact H) | (have H2_ := (Option.bind_some _ _).symm.trans H; rw [hy629]; with_reducible exact H2_) | (have H2_ := (Option.bind_some _ _).symm.trans H; with_reducible exact H2_) | with_reducible exact H | (rw [hy629]; exact H) | exact H
       have Ny629 := Aside0.mk hy629; clear hy629; have H' := Aside0.mk H; clear H
       try go_wp2
       have n0_ := Aside0.mk (Kd.R_drew HO_3.out)
       have n1_ := Aside0.mk (below_drew1 HB.out)
       clear HO_3; clear HB
       have HO_3 := n0_
       have HB := n1_
       clear n0_ n1_; have p624 : 0 ≤ (x5_2 : Int) := of_decide_eq_true (by first | (with_reducible assumption) | assumption); have q624 : x5_2 < (x3_2.length : Int) := of_decide_eq_true (by first | (with_reducible assumption) | assumption)
       obtain ⟨ad624, e624, hx624_0⟩ := Kd.at_int (Kd.R_reads' HO_3.out).2.2 x5_2 p624 q624
       obtain rfl : (⟨go6, 0, none⟩ : Addr) = ad624 := (by injection e624)
       (first | simp only [add_plain] at hx624_0 | simp only [add_at] at hx624_0 | simp only [Addr.add, Nat.zero_add] at hx624_0 | skip)
       replace p624 := eq_true p624; replace q624 := eq_true q624; have p625 : 0 ≤ ((ji32) : Int) := of_decide_eq_true (by first | (with_reducible assumption) | assumption); have q625 : (ji32) < (x3_2.length : Int) := of_decide_eq_true (by first | (with_reducible assumption) | assumption)
       obtain ⟨ad625, e625, hx625_0⟩ := Kd.at_int (Kd.R_reads' HO_3.out).2.2 (ji32) p625 q625
       obtain rfl : (⟨go6, 0, none⟩ : Addr) = ad625 := (by injection e625)
       (first | simp only [add_plain] at hx625_0 | simp only [add_at] at hx625_0 | simp only [Addr.add, Nat.zero_add] at hx625_0 | skip)
       replace p625 := eq_true p625; replace q625 := eq_true q625; have p626 : 0 ≤ (x4_1 : Int) := of_decide_eq_true (by first | (with_reducible assumption) | assumption); have q626 : x4_1 < (l0.length : Int) := of_decide_eq_true (by first | (with_reducible assumption) | assumption)
       obtain ⟨ad626, e626, hx626_0⟩ := Kd.at_int HR0.out x4_1 p626 q626
       have hw626_0 := hx626_0
       obtain rfl : ad617 = ad626 := (by injection e626)
       replace hx626_0 := (HB.out.cell (World.block_lt_of_cell? w _ hx626_0)).trans hx626_0
       replace p626 := eq_true p626; replace q626 := eq_true q626; have p627 : 0 ≤ ((ji37) : Int) := of_decide_eq_true (by first | (with_reducible assumption) | assumption); have q627 : (ji37) < (x3_2.length : Int) := of_decide_eq_true (by first | (with_reducible assumption) | assumption)
       obtain ⟨ad627, e627, hx627_0⟩ := Kd.at_int (Kd.R_reads' HO_3.out).2.2 (ji37) p627 q627
       obtain rfl : (⟨go6, 0, none⟩ : Addr) = ad627 := (by injection e627)
       (first | simp only [add_plain] at hx627_0 | simp only [add_at] at hx627_0 | simp only [Addr.add, Nat.zero_add] at hx627_0 | skip)
       replace p627 := eq_true p627; replace q627 := eq_true q627
       refine start_ (n := 25) (S := fun w' => w'.cell? ⟨go6, (x5_2).toNat, none⟩ = some (.int .i64 (rd x3_2 x5_2)) ∧ w'.cell? ⟨go6, ((ji32)).toNat, none⟩ = some (.int .i64 (rd x3_2 (ji32))) ∧ w'.cell? (ad617.add (x4_1).toNat) = some (.int .i64 (rd l0 x4_1)) ∧ w'.cell? ⟨go6, ((ji37)).toNat, none⟩ = some (.int .i64 (rd x3_2 (ji37)))) (ds := [24]) #[false, false, false, false, false, false, false, false, false, false, false, false, false, false, false, false, false, false, false, false, false, false, false, false, false] (by kernel_rfl) rfl rfl ⟨hx624_0, hx625_0, ((HB.out.cell (World.block_lt_of_cell? w _ hw626_0)).trans hw626_0), hx627_0⟩ (fun hHeld => ?_); refine with_tabW madrigalref6_poly.tab11 madrigalref6_poly.bits11 (fun HT_ HW_ => ?_)
       generalize wr.drew = w42 at HO_3 HB hx624_0 hx625_0 hx626_0 hx627_0 hHeld ⊢
       refine pure_ (i := 0) (N := some 49) (v := ?_) (a' := ?_) #[true, false, false, false, false, false, false, false, false, false, false, false, false, false, false, false, false, false, false, false, false, false, false, false, false] rfl rfl (any_of HT_.out (by kernel_rfl)) (fun _ _ _ h => h) (Or.inl ⟨by rfl, ?_⟩) ?_ ?_
       rotate_left
       ·
        intro w'
        go_simp
        with_reducible rfl
       rotate_left
       ·
        simp only [Act.put, List.setIfInBounds_toArray, List.set_cons_zero, List.set_cons_succ, i64_w, i32_w]
        rfl
       refine pure_ (i := 1) (N := some 50) (v := ?_) (a' := ?_) #[true, true, false, false, false, false, false, false, false, false, false, false, false, false, false, false, false, false, false, false, false, false, false, false, false] rfl rfl (any_of HT_.out (by kernel_rfl)) (fun _ _ _ h => h) (Or.inl ⟨by rfl, ?_⟩) ?_ ?_
       rotate_left
       ·
        intro w'
        go_simp
        with_reducible rfl
       rotate_left
       ·
        simp only [Act.put, List.setIfInBounds_toArray, List.set_cons_zero, List.set_cons_succ, i64_w, i32_w]
        rfl
       refine pure_ (i := 2) (N := some 51) (v := ?_) (a' := ?_) #[true, true, true, false, false, false, false, false, false, false, false, false, false, false, false, false, false, false, false, false, false, false, false, false, false] rfl rfl (any_of HT_.out (by kernel_rfl)) (fun _ _ _ h => h) (Or.inl ⟨by rfl, ?_⟩) ?_ ?_
       rotate_left
       ·
        intro w'
        go_simp
        with_reducible rfl
       rotate_left
       ·
        simp only [Act.put, List.setIfInBounds_toArray, List.set_cons_zero, List.set_cons_succ, i64_w, i32_w]
        rfl
       refine pure_ (i := 3) (N := some 52) (v := ?_) (a' := ?_) #[true, true, true, true, false, false, false, false, false, false, false, false, false, false, false, false, false, false, false, false, false, false, false, false, false] rfl rfl (any_of HT_.out (by kernel_rfl)) (fun _ _ _ h => h) (Or.inl ⟨by rfl, ?_⟩) ?_ ?_
       rotate_left
       ·
        intro w'
        go_simp
        with_reducible rfl
       rotate_left
       ·
        simp only [Act.put, List.setIfInBounds_toArray, List.set_cons_zero, List.set_cons_succ, i64_w, i32_w]
        rfl
       refine pure_ (i := 4) (N := some 53) (v := ?_) (a' := ?_) #[true, true, true, true, true, false, false, false, false, false, false, false, false, false, false, false, false, false, false, false, false, false, false, false, false] rfl rfl (any_of HT_.out (by kernel_rfl)) (fun _ _ _ h => h) (Or.inl ⟨by rfl, ?_⟩) ?_ ?_
       rotate_left
       ·
        intro w'
        go_simp
        with_reducible rfl
       rotate_left
       ·
        simp only [Act.put, List.setIfInBounds_toArray, List.set_cons_zero, List.set_cons_succ, i64_w, i32_w]
        rfl
       refine pure_ (i := 6) (N := some 55) (v := ?_) (a' := ?_) #[true, true, true, true, true, false, true, false, false, false, false, false, false, false, false, false, false, false, false, false, false, false, false, false, false] rfl rfl (any_of HT_.out (by kernel_rfl)) (fun _ _ _ h => h) (Or.inl ⟨by rfl, ?_⟩) ?_ ?_
       rotate_left
       ·
        intro w'
        go_simp
        with_reducible rfl
       rotate_left
       ·
        simp only [Act.put, List.setIfInBounds_toArray, List.set_cons_zero, List.set_cons_succ, i64_w, i32_w]
        rfl
       refine pure_ (i := 7) (N := some 56) (v := ?_) (a' := ?_) #[true, true, true, true, true, false, true, true, false, false, false, false, false, false, false, false, false, false, false, false, false, false, false, false, false] rfl rfl (any_of HT_.out (by kernel_rfl)) (fun _ _ _ h => h) (Or.inl ⟨by rfl, ?_⟩) ?_ ?_
       rotate_left
       ·
        intro w'
        go_simp
        with_reducible rfl
       rotate_left
       ·
        simp only [Act.put, List.setIfInBounds_toArray, List.set_cons_zero, List.set_cons_succ, i64_w, i32_w]
        rfl
       refine pure_ (i := 8) (N := some 57) (v := ?_) (a' := ?_) #[true, true, true, true, true, false, true, true, true, false, false, false, false, false, false, false, false, false, false, false, false, false, false, false, false] rfl rfl (any_of HT_.out (by kernel_rfl)) (fun _ _ _ h => h) (Or.inl ⟨by rfl, ?_⟩) ?_ ?_
       rotate_left
       ·
        intro w'
        go_simp
        with_reducible rfl
       rotate_left
       ·
        simp only [Act.put, List.setIfInBounds_toArray, List.set_cons_zero, List.set_cons_succ, i64_w, i32_w]
        rfl
       refine pure_ (i := 9) (N := some 58) (v := ?_) (a' := ?_) #[true, true, true, true, true, false, true, true, true, true, false, false, false, false, false, false, false, false, false, false, false, false, false, false, false] rfl rfl (any_of HT_.out (by kernel_rfl)) (fun _ _ _ h => h) (Or.inl ⟨by rfl, ?_⟩) ?_ ?_
       rotate_left
       ·
        intro w'
        go_simp
        with_reducible rfl
       rotate_left
       ·
        simp only [Act.put, List.setIfInBounds_toArray, List.set_cons_zero, List.set_cons_succ, i64_w, i32_w]
        rfl
       refine pure_ (i := 12) (N := some 61) (v := ?_) (a' := ?_) #[true, true, true, true, true, false, true, true, true, true, false, false, true, false, false, false, false, false, false, false, false, false, false, false, false] rfl rfl (any_of HT_.out (by kernel_rfl)) (fun _ _ _ h => h) (Or.inl ⟨by rfl, ?_⟩) ?_ ?_
       rotate_left
       ·
        intro w'
        go_simp
        with_reducible rfl
       rotate_left
       ·
        simp only [Act.put, List.setIfInBounds_toArray, List.set_cons_zero, List.set_cons_succ, i64_w, i32_w]
        rfl
       refine pure_ (i := 13) (N := some 62) (v := ?_) (a' := ?_) #[true, true, true, true, true, false, true, true, true, true, false, false, true, true, false, false, false, false, false, false, false, false, false, false, false] rfl rfl (any_of HT_.out (by kernel_rfl)) (fun _ _ _ h => h) (Or.inl ⟨by rfl, ?_⟩) ?_ ?_
       rotate_left
       ·
        intro w'
        go_simp
        with_reducible rfl
       rotate_left
       ·
        simp only [Act.put, List.setIfInBounds_toArray, List.set_cons_zero, List.set_cons_succ, i64_w, i32_w]
        rfl
       refine pure_ (i := 14) (N := some 63) (v := ?_) (a' := ?_) #[true, true, true, true, true, false, true, true, true, true, false, false, true, true, true, false, false, false, false, false, false, false, false, false, false] rfl rfl (any_of HT_.out (by kernel_rfl)) (fun _ _ _ h => h) (Or.inl ⟨by rfl, ?_⟩) ?_ ?_
       rotate_left
       ·
        intro w'
        go_simp
        with_reducible rfl
       rotate_left
       ·
        simp only [Act.put, List.setIfInBounds_toArray, List.set_cons_zero, List.set_cons_succ, i64_w, i32_w]
        rfl
       refine pure_ (i := 16) (N := some 65) (v := ?_) (a' := ?_) #[true, true, true, true, true, false, true, true, true, true, false, false, true, true, true, false, true, false, false, false, false, false, false, false, false] rfl rfl (any_of HT_.out (by kernel_rfl)) (fun _ _ _ h => h) (Or.inl ⟨by rfl, ?_⟩) ?_ ?_
       rotate_left
       ·
        intro w'
        go_simp
        with_reducible rfl
       rotate_left
       ·
        simp only [Act.put, List.setIfInBounds_toArray, List.set_cons_zero, List.set_cons_succ, i64_w, i32_w]
        rfl
       refine pure_ (i := 17) (N := some 66) (v := ?_) (a' := ?_) #[true, true, true, true, true, false, true, true, true, true, false, false, true, true, true, false, true, true, false, false, false, false, false, false, false] rfl rfl (any_of HT_.out (by kernel_rfl)) (fun _ _ _ h => h) (Or.inl ⟨by rfl, ?_⟩) ?_ ?_
       rotate_left
       ·
        intro w'
        go_simp
        with_reducible rfl
       rotate_left
       ·
        simp only [Act.put, List.setIfInBounds_toArray, List.set_cons_zero, List.set_cons_succ, i64_w, i32_w]
        rfl
       refine pure_ (i := 18) (N := some 67) (v := ?_) (a' := ?_) #[true, true, true, true, true, false, true, true, true, true, false, false, true, true, true, false, true, true, true, false, false, false, false, false, false] rfl rfl (any_of HT_.out (by kernel_rfl)) (fun _ _ _ h => h) (Or.inl ⟨by rfl, ?_⟩) ?_ ?_
       rotate_left
       ·
        intro w'
        go_simp
        with_reducible rfl
       rotate_left
       ·
        simp only [Act.put, List.setIfInBounds_toArray, List.set_cons_zero, List.set_cons_succ, i64_w, i32_w]
        rfl
       refine pure_ (i := 19) (N := some 68) (v := ?_) (a' := ?_) #[true, true, true, true, true, false, true, true, true, true, false, false, true, true, true, false, true, true, true, true, false, false, false, false, false] rfl rfl (any_of HT_.out (by kernel_rfl)) (fun _ _ _ h => h) (Or.inl ⟨by rfl, ?_⟩) ?_ ?_
       rotate_left
       ·
        intro w'
        go_simp
        with_reducible rfl
       rotate_left
       ·
        simp only [Act.put, List.setIfInBounds_toArray, List.set_cons_zero, List.set_cons_succ, i64_w, i32_w]
        rfl
       refine take_ (i := 5) (N := some 54) (v := ?_) (a' := ?_) #[true, true, true, true, true, true, true, true, true, true, false, false, true, true, true, false, true, true, true, true, false, false, false, false, false] rfl rfl (take_ofW HT_.out HW_.out (by kernel_rfl)) (fun _ _ _ h => h) (Or.inl ⟨by rfl, ?_⟩) hHeld ?_ ?_
       rotate_left
       ·
        rintro w' ⟨s0, s1, s2, s3⟩
        go_simp
        with_reducible rfl
       rotate_left
       ·
        simp only [Act.put, List.setIfInBounds_toArray, List.set_cons_zero, List.set_cons_succ, i64_w, i32_w]
        rfl
       refine take_ (i := 10) (N := some 59) (v := ?_) (a' := ?_) #[true, true, true, true, true, true, true, true, true, true, true, false, true, true, true, false, true, true, true, true, false, false, false, false, false] rfl rfl (take_ofW HT_.out HW_.out (by kernel_rfl)) (fun _ _ _ h => h) (Or.inl ⟨by rfl, ?_⟩) hHeld ?_ ?_
       rotate_left
       ·
        rintro w' ⟨s0, s1, s2, s3⟩
        go_simp
        with_reducible rfl
       rotate_left
       ·
        simp only [Act.put, List.setIfInBounds_toArray, List.set_cons_zero, List.set_cons_succ, i64_w, i32_w]
        rfl
       refine pure_ (i := 11) (N := some 60) (v := ?_) (a' := ?_) #[true, true, true, true, true, true, true, true, true, true, true, true, true, true, true, false, true, true, true, true, false, false, false, false, false] rfl rfl (any_of HT_.out (by kernel_rfl)) (fun _ _ _ h => h) (Or.inl ⟨by rfl, ?_⟩) ?_ ?_
       rotate_left
       ·
        intro w'
        go_simp
        with_reducible rfl
       rotate_left
       ·
        simp only [Act.put, List.setIfInBounds_toArray, List.set_cons_zero, List.set_cons_succ, i64_w, i32_w]
        rfl
       refine take_ (i := 15) (N := some 64) (v := ?_) (a' := ?_) #[true, true, true, true, true, true, true, true, true, true, true, true, true, true, true, true, true, true, true, true, false, false, false, false, false] rfl rfl (take_ofW HT_.out HW_.out (by kernel_rfl)) (fun _ _ _ h => h) (Or.inl ⟨by rfl, ?_⟩) hHeld ?_ ?_
       rotate_left
       ·
        rintro w' ⟨s0, s1, s2, s3⟩
        go_simp
        with_reducible rfl
       rotate_left
       ·
        simp only [Act.put, List.setIfInBounds_toArray, List.set_cons_zero, List.set_cons_succ, i64_w, i32_w]
        rfl
       refine take_ (i := 20) (N := some 69) (v := ?_) (a' := ?_) #[true, true, true, true, true, true, true, true, true, true, true, true, true, true, true, true, true, true, true, true, true, false, false, false, false] rfl rfl (take_ofW HT_.out HW_.out (by kernel_rfl)) (fun _ _ _ h => h) (Or.inl ⟨by rfl, ?_⟩) hHeld ?_ ?_
       rotate_left
       ·
        rintro w' ⟨s0, s1, s2, s3⟩
        go_simp
        with_reducible rfl
       rotate_left
       ·
        simp only [Act.put, List.setIfInBounds_toArray, List.set_cons_zero, List.set_cons_succ, i64_w, i32_w]
        rfl
       refine one_ (i := 21) (N := some 70) #[true, true, true, true, true, true, true, true, true, true, true, true, true, true, true, true, true, true, true, true, true, true, false, false, false] rfl rfl (one_of HT_.out (by kernel_rfl)) (by decide) (fun K hK => ?_)
       refine goes_ Try.func34 (by kernel_rfl) rfl #[.int .i64 (rd l0 x4_1), .int .i64 (rd x3_2 (ji37)), .int .i64 16] (by rfl) rfl rfl (by (try simp only [List.map_toArray, List.map_cons, List.map_nil]); first | done | (simp only [hji37]; rfl) | rfl | (simp only [List.length_drop, List.length_take]; rfl)) ?_
       with_reducible refine (madrigalref1_Mul.calls k2 (rd l0 x4_1) (rd x3_2 (ji37)) 16 t628 _ A40.out).mono ?_
       rintro e w' ⟨rfl, ⟨nd, rfl⟩⟩
       refine ⟨_, rfl, ?_⟩
       have p41 : 0 ≤ (x5_2 : Int) := of_decide_eq_true (by first | (with_reducible assumption) | assumption); have q41 : (x5_2 : Int) < ((x3_2.length : Int) : Int) := of_decide_eq_true (by first | (with_reducible assumption) | assumption)
       obtain ⟨hx41_0, hf41_0⟩ := Kd.R_celln 0 HO_3.out (x5_2 : Int) p41 q41
       replace p41 := eq_true p41; replace q41 := eq_true q41
       have HP43 := Kd.R_putn HO_3.out (x5_2 : Int) (wrap64 ((wrap64 ((rd x3_2 x5_2) + (rd x3_2 (ji32)))) - t628))
       rw [← Ny629.out] at HP43; have HQ43 := Aside0.mk HP43; clear HP43
       refine hK.out _ _ ⟨hHeld.1, hHeld.2.1, ((HB.out.cell (World.block_lt_of_cell? w _ hw626_0)).trans hw626_0), hHeld.2.2.2⟩ (fun hHeld => ?_)
       clear hK K
       refine norm_ (a' := ?_) ?_ ?_
       rotate_left
       ·
        show Act.put _ (some 70) _ = _
        simp only [Act.put, List.setIfInBounds_toArray, List.set_cons_zero, List.set_cons_succ, i64_w, i32_w]
        rfl
       refine pure_ (i := 22) (N := some 71) (v := ?_) (a' := ?_) #[true, true, true, true, true, true, true, true, true, true, true, true, true, true, true, true, true, true, true, true, true, true, true, false, false] rfl rfl (any_of HT_.out (by kernel_rfl)) (fun _ _ _ h => h) (Or.inl ⟨by rfl, ?_⟩) ?_ ?_
       rotate_left
       ·
        intro w'
        go_simp
        with_reducible rfl
       rotate_left
       ·
        simp only [Act.put, List.setIfInBounds_toArray, List.set_cons_zero, List.set_cons_succ, i64_w, i32_w]
        rfl
       refine pure_ (i := 23) (N := some 72) (v := ?_) (a' := ?_) #[true, true, true, true, true, true, true, true, true, true, true, true, true, true, true, true, true, true, true, true, true, true, true, true, false] rfl rfl (any_of HT_.out (by kernel_rfl)) (fun _ _ _ h => h) (Or.inl ⟨by rfl, ?_⟩) ?_ ?_
       rotate_left
       ·
        intro w'
        go_simp
        with_reducible rfl
       rotate_left
       ·
        simp only [Act.put, List.setIfInBounds_toArray, List.set_cons_zero, List.set_cons_succ, i64_w, i32_w]
        rfl
       refine last_ (i := 24) (N := none) #[true, true, true, true, true, true, true, true, true, true, true, true, true, true, true, true, true, true, true, true, true, true, true, true, true] rfl rfl (one_of HT_.out (by kernel_rfl)) (by decide) (fun K hK => ?_)
       refine skip_ (w1 := ?_) (by rfl) rfl ?_ ?_
       rotate_left
       ·
        go_simp
        rfl
       refine hK.out _ _ ?_
       clear hK K
       refine done_ (done_of HT_.out (by kernel_rfl)) ?_
       try go_wp2
       (try simp only [← hl3_2])
       go_roundg k2
       case measure => have := HK1.out; have := HK2.out; omega
       case rel => exact ⟨(y629), (ji37), (by first | rfl | (simp; done) | (simp only [← hji37] <;> (first | rfl | simp)) | (simp [*]; done)), H', ⟨by have := HK1.out; have := HK2.out; omega⟩, ⟨by (try simp only [hl3_1]); (try simp only [hl3_2]); (with_reducible repeat first | apply Kd.R_alloc | apply Kd.R_drewN | apply Kd.R_drew); exact HQ43.out⟩, ⟨by repeat (first | (with_reducible first | exact HB.out | apply below_alloc | apply pw_below_drewN | apply below_drew1 | refine below_set ?_ GB6.out) | exact HB.out)⟩⟩
      ·
       rw [if_neg c29] at H; have c29b0 : decide (2 ≤ x5_2) = false := decide_eq_false c29; clear c29
       by_cases c44 : 1 < (x3_2.length : Int); rotate_left
       · rw [if_neg c44] at H; exact absurd H (by simp)
       rw [if_pos c44] at H; have c44b0 : decide (1 < (x3_2.length : Int)) = true := decide_eq_true c44
       (try (have c44b0z0 := c44b0; rw [hl3_1] at c44b0z0))
       (try (have c44b0z1 := c44b0; rw [hl3_2] at c44b0z1))
       have c44b1 : decide (1 < x3_2.length) = true := decide_eq_true (by omega)
       (try (have c44b1z0 := c44b1; rw [hl3_1] at c44b1z0))
       (try (have c44b1z1 := c44b1; rw [hl3_2] at c44b1z1))
       clear c44
       by_cases c45 : 0 ≤ x4_1; rotate_left
       · rw [if_neg c45] at H; exact absurd H (by simp)
       rw [if_pos c45] at H; have c45b0 : decide (0 ≤ x4_1) = true := decide_eq_true c45; clear c45
       by_cases c46 : x4_1 < (l0.length : Int); rotate_left
       · rw [if_neg c46] at H; exact absurd H (by simp)
       rw [if_pos c46] at H; have c46b0 : decide (x4_1 < (l0.length : Int)) = true := decide_eq_true c46
       (try (have c46b0z0 := c46b0; rw [hl3_1] at c46b0z0))
       (try (have c46b0z1 := c46b0; rw [hl3_2] at c46b0z1))
       clear c46
       obtain ⟨y632, hy632⟩ : ∃ y_ : List Int, y_ = (x3_2.set (1 : Int).toNat (wrap64 ((rd x3_2 1) - (rd l0 x4_1)))) := ⟨_, rfl⟩
       replace H : (madrigalref6_poly.l0 k2 l0 y632 (wrap64 (x4_1 + 1))) = some r := by first | (rw [hy632]; with_reducible exact H) | (have H2_ := (Option.bind_some _ _).symm.trans H; rw [hy632]; with_reducible exact H2_) | (have H2_ := (Option.bind_some _ _).symm.trans H; with_reducible exact H2_) | with_reducible exact H | (rw [hy632]; exact H) | exact H
       have Ny632 := Aside0.mk hy632; clear hy632; have H' := Aside0.mk H; clear H
       try go_wp2
       have n0_ := Aside0.mk (Kd.R_drew HO_3.out)
       have n1_ := Aside0.mk (below_drew1 HB.out)
       clear HO_3; clear HB
       have HO_3 := n0_
       have HB := n1_
       clear n0_ n1_
       have p630 : 0 ≤ (1 : Int) := (by omega)
       have q630 : 1 < (x3_2.length : Int) := of_decide_eq_true (by first | (with_reducible assumption) | assumption)
       obtain ⟨ad630, e630, hx630_0⟩ := Kd.at_int (Kd.R_reads' HO_3.out).2.2 1 p630 q630
       obtain rfl : (⟨go6, 0, none⟩ : Addr) = ad630 := (by injection e630)
       (first | simp only [add_plain] at hx630_0 | simp only [add_at] at hx630_0 | simp only [Addr.add, Nat.zero_add] at hx630_0 | skip)
       have qi630 : (1 < x3_2.length) = True := eq_true (by omega)
       (try rw [show ((1 : Int)).toNat = 1 from rfl] at hx630_0); replace p630 := eq_true p630; replace q630 := eq_true q630; have p631 : 0 ≤ (x4_1 : Int) := of_decide_eq_true (by first | (with_reducible assumption) | assumption); have q631 : x4_1 < (l0.length : Int) := of_decide_eq_true (by first | (with_reducible assumption) | assumption)
       obtain ⟨ad631, e631, hx631_0⟩ := Kd.at_int HR0.out x4_1 p631 q631
       have hw631_0 := hx631_0
       obtain rfl : ad617 = ad631 := (by injection e631)
       replace hx631_0 := (HB.out.cell (World.block_lt_of_cell? w _ hx631_0)).trans hx631_0
       replace p631 := eq_true p631; replace q631 := eq_true q631
       have p47 : 0 ≤ (1 : Int) := (by omega)
       have q47 : (1 : Int) < ((x3_2.length : Int) : Int) := of_decide_eq_true (by first | (with_reducible assumption) | assumption)
       have qi47 : (1 < x3_2.length) = True := eq_true (by omega)
       obtain ⟨hx47_0, hf47_0⟩ := Kd.R_celln 0 HO_3.out (1 : Int) p47 q47
       (try rw [show ((1 : Int)).toNat = 1 from rfl] at hx47_0); (try simp only [Nat.reduceMul, Nat.zero_mul, Nat.zero_add, Nat.reduceAdd] at hx47_0); (try rw [show ((1 : Int)).toNat = 1 from rfl] at hf47_0); (try simp only [Nat.reduceMul, Nat.zero_mul, Nat.zero_add, Nat.reduceAdd] at hf47_0); replace p47 := eq_true p47; replace q47 := eq_true q47
       have HP49 := Kd.R_putn HO_3.out (1 : Int) (wrap64 ((rd x3_2 1) - (rd l0 x4_1)))
       rw [← Ny632.out] at HP49; have HQ49 := Aside0.mk HP49; clear HP49
       refine start_ (n := 11) (S := fun w' => w'.cell? ⟨go6, 1, none⟩ = some (.int .i64 (rd x3_2 1)) ∧ w'.cell? (ad617.add (x4_1).toNat) = some (.int .i64 (rd l0 x4_1))) (ds := [10]) #[false, false, false, false, false, false, false, false, false, false, false] (by kernel_rfl) rfl rfl ⟨hx630_0, ((HB.out.cell (World.block_lt_of_cell? w _ hw631_0)).trans hw631_0)⟩ (fun hHeld => ?_); refine with_tabW madrigalref6_poly.tab12 madrigalref6_poly.bits12 (fun HT_ HW_ => ?_)
       generalize wr.drew = w48 at HO_3 HB HQ49 hf47_0 hx47_0 hx630_0 hx631_0 hHeld ⊢
       refine pure_ (i := 0) (N := some 73) (v := ?_) (a' := ?_) #[true, false, false, false, false, false, false, false, false, false, false] rfl rfl (any_of HT_.out (by kernel_rfl)) (fun _ _ _ h => h) (Or.inl ⟨by rfl, ?_⟩) ?_ ?_
       rotate_left
       ·
        intro w'
        go_simp
        with_reducible rfl
       rotate_left
       ·
        simp only [Act.put, List.setIfInBounds_toArray, List.set_cons_zero, List.set_cons_succ, i64_w, i32_w]
        rfl
       refine pure_ (i := 1) (N := some 74) (v := ?_) (a' := ?_) #[true, true, false, false, false, false, false, false, false, false, false] rfl rfl (any_of HT_.out (by kernel_rfl)) (fun _ _ _ h => h) (Or.inl ⟨by rfl, ?_⟩) ?_ ?_
       rotate_left
       ·
        intro w'
        go_simp
        with_reducible rfl
       rotate_left
       ·
        simp only [Act.put, List.setIfInBounds_toArray, List.set_cons_zero, List.set_cons_succ, i64_w, i32_w]
        rfl
       refine pure_ (i := 2) (N := some 75) (v := ?_) (a' := ?_) #[true, true, true, false, false, false, false, false, false, false, false] rfl rfl (any_of HT_.out (by kernel_rfl)) (fun _ _ _ h => h) (Or.inl ⟨by rfl, ?_⟩) ?_ ?_
       rotate_left
       ·
        intro w'
        go_simp
        with_reducible rfl
       rotate_left
       ·
        simp only [Act.put, List.setIfInBounds_toArray, List.set_cons_zero, List.set_cons_succ, i64_w, i32_w]
        rfl
       refine pure_ (i := 4) (N := some 77) (v := ?_) (a' := ?_) #[true, true, true, false, true, false, false, false, false, false, false] rfl rfl (any_of HT_.out (by kernel_rfl)) (fun _ _ _ h => h) (Or.inl ⟨by rfl, ?_⟩) ?_ ?_
       rotate_left
       ·
        intro w'
        go_simp
        with_reducible rfl
       rotate_left
       ·
        simp only [Act.put, List.setIfInBounds_toArray, List.set_cons_zero, List.set_cons_succ, i64_w, i32_w]
        rfl
       refine pure_ (i := 5) (N := some 78) (v := ?_) (a' := ?_) #[true, true, true, false, true, true, false, false, false, false, false] rfl rfl (any_of HT_.out (by kernel_rfl)) (fun _ _ _ h => h) (Or.inl ⟨by rfl, ?_⟩) ?_ ?_
       rotate_left
       ·
        intro w'
        go_simp
        with_reducible rfl
       rotate_left
       ·
        simp only [Act.put, List.setIfInBounds_toArray, List.set_cons_zero, List.set_cons_succ, i64_w, i32_w]
        rfl
       refine pure_ (i := 6) (N := some 79) (v := ?_) (a' := ?_) #[true, true, true, false, true, true, true, false, false, false, false] rfl rfl (any_of HT_.out (by kernel_rfl)) (fun _ _ _ h => h) (Or.inl ⟨by rfl, ?_⟩) ?_ ?_
       rotate_left
       ·
        intro w'
        go_simp
        with_reducible rfl
       rotate_left
       ·
        simp only [Act.put, List.setIfInBounds_toArray, List.set_cons_zero, List.set_cons_succ, i64_w, i32_w]
        rfl
       refine take_ (i := 3) (N := some 76) (v := ?_) (a' := ?_) #[true, true, true, true, true, true, true, false, false, false, false] rfl rfl (take_ofW HT_.out HW_.out (by kernel_rfl)) (fun _ _ _ h => h) (Or.inl ⟨by rfl, ?_⟩) hHeld ?_ ?_
       rotate_left
       ·
        rintro w' ⟨s0, s1⟩
        go_simp
        with_reducible rfl
       rotate_left
       ·
        simp only [Act.put, List.setIfInBounds_toArray, List.set_cons_zero, List.set_cons_succ, i64_w, i32_w]
        rfl
       refine take_ (i := 7) (N := some 80) (v := ?_) (a' := ?_) #[true, true, true, true, true, true, true, true, false, false, false] rfl rfl (take_ofW HT_.out HW_.out (by kernel_rfl)) (fun _ _ _ h => h) (Or.inl ⟨by rfl, ?_⟩) hHeld ?_ ?_
       rotate_left
       ·
        rintro w' ⟨s0, s1⟩
        go_simp
        with_reducible rfl
       rotate_left
       ·
        simp only [Act.put, List.setIfInBounds_toArray, List.set_cons_zero, List.set_cons_succ, i64_w, i32_w]
        rfl
       refine pure_ (i := 8) (N := some 81) (v := ?_) (a' := ?_) #[true, true, true, true, true, true, true, true, true, false, false] rfl rfl (any_of HT_.out (by kernel_rfl)) (fun _ _ _ h => h) (Or.inl ⟨by rfl, ?_⟩) ?_ ?_
       rotate_left
       ·
        intro w'
        go_simp
        with_reducible rfl
       rotate_left
       ·
        simp only [Act.put, List.setIfInBounds_toArray, List.set_cons_zero, List.set_cons_succ, i64_w, i32_w]
        rfl
       refine pure_ (i := 9) (N := some 82) (v := ?_) (a' := ?_) #[true, true, true, true, true, true, true, true, true, true, false] rfl rfl (any_of HT_.out (by kernel_rfl)) (fun _ _ _ h => h) (Or.inl ⟨by rfl, ?_⟩) ?_ ?_
       rotate_left
       ·
        intro w'
        go_simp
        with_reducible rfl
       rotate_left
       ·
        simp only [Act.put, List.setIfInBounds_toArray, List.set_cons_zero, List.set_cons_succ, i64_w, i32_w]
        rfl
       refine last_ (i := 10) (N := none) #[true, true, true, true, true, true, true, true, true, true, true] rfl rfl (one_of HT_.out (by kernel_rfl)) (by decide) (fun K hK => ?_)
       refine skip_ (w1 := ?_) (by rfl) rfl ?_ ?_
       rotate_left
       ·
        go_simp
        rfl
       refine hK.out _ _ ?_
       clear hK K
       refine done_ (done_of HT_.out (by kernel_rfl)) ?_
       try go_wp2
       (try simp only [← hl3_1, ← hl3_2])
       go_roundg k2
       case measure => have := HK1.out; have := HK2.out; omega
       case rel => exact ⟨(y632), (wrap64 (x4_1 + 1)), (by first | rfl | (simp; done) | (simp [*]; done)), H', ⟨by have := HK1.out; have := HK2.out; omega⟩, ⟨by (try simp only [hl3_1]); (try simp only [hl3_2]); (with_reducible repeat first | apply Kd.R_alloc | apply Kd.R_drewN | apply Kd.R_drew); exact HQ49.out⟩, ⟨by repeat (first | (with_reducible first | exact HB.out | apply below_alloc | apply pw_below_drewN | apply below_drew1 | refine below_set ?_ GB6.out) | exact HB.out)⟩⟩
   ·
    rw [if_neg c16] at H; have c16b0 : decide (x4_1 < (l0.length : Int)) = false := decide_eq_false c16
    (try (have c16b0z0 := c16b0; rw [hl3_1] at c16b0z0))
    clear c16
    obtain rfl := Option.some.inj H
    go_wp2
    go_ret
    exact ⟨_, by first | rfl | (simp [errW_none, errW_some] <;> rfl) | (simp only [← hji2]; first | rfl | (simp [errW_none, errW_some] <;> rfl)) | (simp [*, errW_none, errW_some] <;> rfl), by (with_reducible repeat first | apply Kd.R_alloc | apply Kd.R_drewN | apply Kd.R_drew); exact HO_3.out, by repeat (with_reducible first | exact HB.out | apply below_alloc | apply pw_below_drewN | apply below_drew1)⟩

end Go.Proofs.Ytgbdkefglmjdoaa.MA
