/- What levin.Solve comes to: the plain form. Condition: lists of 2 to 33 numbers, or what the call answers beyond. -/
import Derived.Test.YtgbdkefglmjdoaaReachB
namespace Go.Proofs.Ytgbdkefglmjdoaa.ReachC
open Go.RowKit Go.Proofs.YtgbdkefglmjdoaaW.PrintWords Go.Proofs.YtgbdkefglmjdoaaW.PrintLast Go.Proofs.YtgbdkefglmjdoaaW.PrintMore Go.Proofs.Ytgbdkefglmjdoaa.Core Go.Proofs.Ytgbdkefglmjdoaa.MA Go.Proofs.Ytgbdkefglmjdoaa.Base Go.Proofs.Ytgbdkefglmjdoaa.Plain Go.Proofs.Ytgbdkefglmjdoaa.Reach Go.Proofs.Ytgbdkefglmjdoaa.Filt Go.Proofs.Ytgbdkefglmjdoaa.ReachB

theorem solve_l3 (x0 : List Int) (hl : x0.length ≤ 32) (d : Nat) : ∀ (i : Nat) (y : List Int), i + d = x0.length → y.length = x0.length → (∀ j, i ≤ j → y.getD j 0 = x0.getD j 0) → (∀ j, j < i → y.getD j 0 = mulI (x0.getD j 0) 1 12) →
    Ev (fun k => levin_Solve.l3 k y (x0.length : Int) (i : Int)) (fitW (x0.map fun v => mulI v 1 12), 0) := by
  induction d with
  | zero =>
    intro i y h1 h2 h3 h4
    refine Ev.step (fun k => by rw [levin_Solve.l3]) ?_
    refine ev_neg (by omega) ?_
    have := fill_map (fun v => mulI v 1 12) 0 i x0 y h1 h2 h3 h4
    rw [fill] at this
    rw [this]
    exact Ev.bind (fit_ev _) (Ev.now _)
  | succ d ih =>
    intro i y h1 h2 h3 h4
    refine Ev.step (fun k => by rw [levin_Solve.l3]) ?_
    rw [wsucc (by omega), rd_nat, h3 i (Nat.le_refl _)]
    refine ev_pos (by omega) (ev_pos (by omega) (ev_pos (by omega) ?_))
    refine Ev.bind (mul_ev _ _ _ (by omega) (by omega)) ?_
    simp only [Int.toNat_natCast]
    refine ih (i + 1) _ (by omega) (by simpa using h2) (fun j hj => ?_) (fun j hj => ?_)
    · rw [gset_ne _ _ _ _ (by omega)]; exact h3 j (by omega)
    · by_cases hji : j = i
      · subst hji; exact gset_eq _ _ _ (by omega)
      · rw [gset_ne _ _ _ _ (by omega)]; exact h4 j (by omega)

theorem mx_one (a : Int) : mx a 1 = if a < 1 then 1 else a := rfl

theorem solve_l2 (r y0 : List Int) (e kv : Int) (m : Nat) (hm : m < y0.length) (hl : y0.length ≤ 32) (n : Int) (res : List Int × Int) (d : Nat) : ∀ (i : Nat) (y : List Int), i + d = m → y.length = y0.length →
    Ev (fun k => levin_Solve.l0 k r ((fill (nextA (y0.take m) m kv) y i d).set m kv) (nextE e kv) n ((m + 1 : Nat) : Int)) res →
    Ev (fun k => levin_Solve.l2 k r y e (m : Int) kv (y0.take m) n (m : Int) (m : Int) (i : Int)) res := by
  have hlt : (y0.take m).length = m := by simp; omega
  induction d with
  | zero =>
    intro i y h1 h2 hr
    refine Ev.step (fun k => by rw [levin_Solve.l2]) ?_
    refine ev_neg (by omega) (ev_pos (by omega) (ev_pos (by omega) ?_))
    refine Ev.bind (mul_ev _ _ _ (by omega) (by omega)) ?_
    refine Ev.bind (mul_ev _ _ _ (by omega) (by omega)) ?_
    rw [wsucc (by omega), mx_one]
    exact hr
  | succ d ih =>
    intro i y h1 h2 hr
    refine Ev.step (fun k => by rw [levin_Solve.l2]) ?_
    have e0 : wrap64 ((m : Int) - 1) = (m : Int) - 1 := wrap_id (by omega) (by omega)
    have e1 : wrap64 ((m : Int) - 1 - i) = ((m - 1 - i : Nat) : Int) := by rw [wrap_id] <;> omega
    rw [e0, e1, wsucc (by omega), rd_nat, rd_nat, hlt]
    refine ev_pos (by omega) (ev_pos (by omega) (ev_pos (by omega) (ev_pos (by omega) (ev_pos (by omega) ?_))))
    refine Ev.bind (mul_ev _ _ _ (by omega) (by omega)) ?_
    refine Ev.bind (clamp_ev _ _ _) ?_
    refine ev_pos (by omega) ?_
    simp only [Int.toNat_natCast]
    exact ih (i + 1) _ (by omega) (by simpa using h2) hr

theorem solve_l1 (r y : List Int) (e : Int) (m : Nat) (hm : m < y.length) (hl : y.length ≤ 32) (hr1 : m + 1 < r.length) (n : Int) (res : List Int × Int)
    (hres : Ev (fun k => levin_Solve.l0 k r ((fill (nextA (y.take m) m (kOf r (y.take m) m e)) y 0 m).set m (kOf r (y.take m) m e)) (nextE e (kOf r (y.take m) m e)) n ((m + 1 : Nat) : Int)) res) (d : Nat) :
    ∀ (i : Nat) (t : Int), i + d = m → tSum r (y.take m) m d i t = tSum r (y.take m) m m 0 (r.getD (m + 1) 0) →
    Ev (fun k => levin_Solve.l1 k r y e (m : Int) t n (m : Int) (m : Int) (i : Int)) res := by
  induction d with
  | zero =>
    intro i t h1 h2
    refine Ev.step (fun k => by rw [levin_Solve.l1]) ?_
    refine ev_neg (by omega) ?_
    rw [tSum] at h2
    refine Ev.bind (div_ev _ _ _ (by omega) (by omega)) ?_
    refine Ev.bind (clamp_ev _ _ _) ?_
    refine ev_some (ev_pos (by omega) (ev_pos (by omega) ?_))
    refine ev_some ?_
    simp only [Int.toNat_natCast]
    refine ev_pos (by simp; omega) ?_
    rw [List.nil_append, h2]
    exact solve_l2 r y e _ m hm hl n res m 0 y (by omega) rfl hres
  | succ d ih =>
    intro i t h1 h2
    refine Ev.step (fun k => by rw [levin_Solve.l1]) ?_
    rw [wsucc (by omega), wsub (by omega) (by omega), rd_nat, rd_nat]
    refine ev_pos (by omega) (ev_pos (by omega) (ev_pos (by omega) (ev_pos (by omega) (ev_pos (by omega) ?_))))
    refine Ev.bind (mul_ev _ _ _ (by omega) (by omega)) ?_
    refine ih (i + 1) _ (by omega) ?_
    rw [tSum, take_getD _ _ _ (by omega)] at h2
    exact h2

theorem take_fill (F : Nat → Int) (y : List Int) (m : Nat) (v : Int) (hm : m < y.length) : ((fill F y 0 m).set m v).take (m + 1) = (List.range m).map F ++ [v] := by
  apply List.ext_getElem?
  intro j
  rw [List.getElem?_take]
  by_cases hj : j < m
  · rw [if_pos (by omega), List.getElem?_set, if_neg (by omega), fill_get, if_pos (by omega), List.getElem?_append_left (by simpa using hj)]
    simp [hj]
  · by_cases hjm : j = m
    · subst hjm
      rw [if_pos (by omega), List.getElem?_set, if_pos rfl, if_pos (by rw [fill_length]; exact hm), List.getElem?_append_right (by simp)]
      simp
    · rw [if_neg (by omega), List.getElem?_eq_none (by simp; omega)]

theorem solve_l0 (r : List Int) (hr2 : r.length ≤ 33) (d : Nat) : ∀ (m : Nat) (y : List Int) (e : Int), m + d = y.length → y.length + 1 = r.length →
    Ev (fun k => levin_Solve.l0 k r y e (y.length : Int) (m : Int)) (fitW ((levinW r d m (y.take m) e).map fun v => mulI v 1 12), 0) := by
  induction d with
  | zero =>
    intro m y e h1 h2
    refine Ev.step (fun k => by rw [levin_Solve.l0]) ?_
    refine ev_neg (by omega) ?_
    have et : y.take m = y := List.take_of_length_le (by omega)
    rw [levinW, et]
    exact solve_l3 y (by omega) y.length 0 y (by omega) rfl (fun _ _ => rfl) (fun j hj => by omega)
  | succ d ih =>
    intro m y e h1 h2
    refine Ev.step (fun k => by rw [levin_Solve.l0]) ?_
    rw [wsucc (by omega), rd_nat]
    refine ev_pos (by omega) (ev_pos (by omega) (ev_pos (by omega) ?_))
    refine solve_l1 r y e m (by omega) (by omega) (by omega) _ _ ?_ m 0 _ (by omega) rfl
    have h := ih (m + 1) ((fill (nextA (y.take m) m (kOf r (y.take m) m e)) y 0 m).set m (kOf r (y.take m) m e)) (nextE e (kOf r (y.take m) m e)) (by rw [List.length_set, fill_length]; omega) (by rw [List.length_set, fill_length]; omega)
    rw [List.length_set, fill_length, take_fill _ _ _ _ (by omega)] at h
    rw [levinW]
    exact h

theorem scaledW_length (l : List Int) : (scaledW l).length = l.length := by
  unfold scaledW
  rw [List.length_set, halveW_length, dblW_length, List.length_map]

theorem solve_ev (l : List Int) (h1 : 2 ≤ l.length) (h2 : l.length ≤ 33) : Ev (fun k => levin_Solve.f k l) (solveW l, 0) := by
  unfold levin_Solve.f solveW
  refine ev_neg (by omega) ?_
  rw [decide_eq_false (by omega)]
  refine Ev.step (fun k => by rw [levin_Solve.j0]) ?_
  have e : wrap64 ((l.length : Int) - 1) = ((l.length - 1 : Nat) : Int) := by rw [wrap_id] <;> omega
  rw [e, show rd l 0 = l.getD 0 0 from rd_nat l 0]
  refine ev_neg (by decide) (ev_pos (by omega) (ev_pos (by omega) ?_))
  refine ev_some (ev_pos (by omega) ?_)
  simp only [Int.toNat_natCast]
  by_cases c : l.getD 0 0 < 1
  · rw [if_pos c]; exact ev_pos c (Ev.now _)
  · rw [if_neg c]
    refine ev_neg c ?_
    refine Ev.bind (scaled_ev l (by omega) (by omega) (by omega)) ?_
    have hsl := scaledW_length l
    refine ev_pos (by omega) ?_
    rw [show rd (scaledW l) 0 = (scaledW l).getD 0 0 from rd_nat _ 0]
    have h := solve_l0 (scaledW l) (by omega) (l.length - 1) 0 (List.replicate (l.length - 1) 0) ((scaledW l).getD 0 0) (by simp) (by simp; omega)
    rw [List.take_zero] at h
    exact h

theorem solve_bad (l : List Int) (h : l.length < 2 ∨ 33 < l.length) : Ev (fun k => levin_Solve.f k l) ([], 1) := by
  unfold levin_Solve.f
  by_cases h1 : (l.length : Int) < 2
  · refine ev_pos h1 (Ev.step (fun k => by rw [levin_Solve.j0]) ?_)
    exact ev_pos rfl (Ev.now _)
  · refine ev_neg h1 ?_
    rw [decide_eq_true (show (l.length : Int) > 33 by omega)]
    refine Ev.step (fun k => by rw [levin_Solve.j0]) ?_
    exact ev_pos rfl (Ev.now _)
end Go.Proofs.Ytgbdkefglmjdoaa.ReachC
