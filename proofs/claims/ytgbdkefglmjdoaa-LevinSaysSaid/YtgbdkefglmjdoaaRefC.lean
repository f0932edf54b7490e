/- What the references' Solve comes to: the same plain forms as the program's. Condition: lists of at most 33 numbers. -/
import Derived.Test.YtgbdkefglmjdoaaMAx15
import Derived.Test.YtgbdkefglmjdoaaRefB
namespace Go.Proofs.Ytgbdkefglmjdoaa.RefC
open Go.RowKit Go.Proofs.YtgbdkefglmjdoaaW.PrintWords Go.Proofs.YtgbdkefglmjdoaaW.PrintLast Go.Proofs.YtgbdkefglmjdoaaW.PrintMore Go.Proofs.Ytgbdkefglmjdoaa.Core Go.Proofs.Ytgbdkefglmjdoaa.MA Go.Proofs.Ytgbdkefglmjdoaa.Base Go.Proofs.Ytgbdkefglmjdoaa.Plain Go.Proofs.Ytgbdkefglmjdoaa.Reach Go.Proofs.Ytgbdkefglmjdoaa.Filt Go.Proofs.Ytgbdkefglmjdoaa.ReachB Go.Proofs.Ytgbdkefglmjdoaa.ReachC Go.Proofs.Ytgbdkefglmjdoaa.RefA Go.Proofs.Ytgbdkefglmjdoaa.RefB

theorem rsolve_l7 (x0 : List Int) (hl : x0.length ≤ 32) (d : Nat) : ∀ (i : Nat) (y : List Int), i + d = x0.length → y.length = x0.length → (∀ j, i ≤ j → y.getD j 0 = x0.getD j 0) → (∀ j, j < i → y.getD j 0 = mulI (x0.getD j 0) 1 12) →
    Ev (fun k => madrigalref6_Solve.l7 k y (i : Int)) (fitW (x0.map fun v => mulI v 1 12)) := by
  induction d with
  | zero =>
    intro i y h1 h2 h3 h4
    refine Ev.step (fun k => by rw [madrigalref6_Solve.l7]) ?_
    refine ev_neg (by omega) ?_
    have := fill_map (fun v => mulI v 1 12) 0 i x0 y h1 h2 h3 h4
    rw [fill] at this
    rw [this]
    exact Ev.bind (rfit_ev _) (Ev.now _)
  | succ d ih =>
    intro i y h1 h2 h3 h4
    refine Ev.step (fun k => by rw [madrigalref6_Solve.l7]) ?_
    rw [wsucc (by omega), rd_nat, h3 i (Nat.le_refl _)]
    refine ev_pos (by omega) (ev_pos (by omega) ?_)
    refine Ev.bind (rmul_ev _ _ _ (by omega) (by omega)) ?_
    simp only [Int.toNat_natCast]
    refine ih (i + 1) _ (by omega) (by simpa using h2) (fun j hj => ?_) (fun j hj => ?_)
    · rw [gset_ne _ _ _ _ (by omega)]; exact h3 j (by omega)
    · by_cases hji : j = i
      · subst hji; exact gset_eq _ _ _ (by omega)
      · rw [gset_ne _ _ _ _ (by omega)]; exact h4 j (by omega)

theorem rsolve_l6 (r a : List Int) (order e kv : Int) (m : Nat) (ha : a.length = m) (hm : m ≤ 100) (res : List Int) (d : Nat) : ∀ (i : Nat), i + d = m →
    Ev (fun k => madrigalref6_Solve.l4 k r order (nextE e kv) ((List.range m).map (nextA a m kv) ++ [kv]) ((m + 1 : Nat) : Int)) res →
    Ev (fun k => madrigalref6_Solve.l6 k r order e a (m : Int) kv ((List.range i).map (nextA a m kv)) (i : Int)) res := by
  induction d with
  | zero =>
    intro i h1 hr
    refine Ev.step (fun k => by rw [madrigalref6_Solve.l6]) ?_
    refine ev_neg (by omega) (ev_pos (by simp; omega) ?_)
    refine ev_some ?_
    refine Ev.bind (rmul_ev _ _ _ (by omega) (by omega)) ?_
    refine Ev.bind (rmul_ev _ _ _ (by omega) (by omega)) ?_
    rw [wsucc (by omega), show i = m by omega]
    unfold nextE at hr
    by_cases c : mulI e (wrap64 (16777216 - mulI kv kv 24)) 24 < 1
    · rw [if_pos c] at hr; exact ev_pos c hr
    · rw [if_neg c] at hr; exact ev_neg c hr
  | succ d ih =>
    intro i h1 hr
    refine Ev.step (fun k => by rw [madrigalref6_Solve.l6]) ?_
    have e0 : wrap64 ((m : Int) - 1) = (m : Int) - 1 := wrap_id (by omega) (by omega)
    have e1 : wrap64 ((m : Int) - 1 - i) = ((m - 1 - i : Nat) : Int) := by rw [wrap_id] <;> omega
    rw [e0, e1, wsucc (by omega), rd_nat, rd_nat]
    refine ev_pos (by omega) (ev_pos (by omega) (ev_pos (by omega) (ev_pos (by omega) (ev_pos (by omega) ?_))))
    refine Ev.bind (rmul_ev _ _ _ (by omega) (by omega)) ?_
    refine Ev.bind (rclamp_ev _ _ _) ?_
    refine ev_pos (by simp; omega) ?_
    have h := ih (i + 1) (by omega) hr
    rw [List.range_succ, List.map_append] at h
    exact h

theorem rsolve_l5 (r a : List Int) (order e : Int) (m : Nat) (ha : a.length = m) (hm : m ≤ 100) (hr1 : m + 1 < r.length) (res : List Int)
    (hres : Ev (fun k => madrigalref6_Solve.l4 k r order (nextE e (kOf r a m e)) ((List.range m).map (nextA a m (kOf r a m e)) ++ [kOf r a m e]) ((m + 1 : Nat) : Int)) res) (d : Nat) :
    ∀ (i : Nat) (t : Int), i + d = m → tSum r a m d i t = tSum r a m m 0 (r.getD (m + 1) 0) →
    Ev (fun k => madrigalref6_Solve.l5 k r order e a (m : Int) t (i : Int)) res := by
  induction d with
  | zero =>
    intro i t h1 h2
    refine Ev.step (fun k => by rw [madrigalref6_Solve.l5]) ?_
    refine ev_neg (by omega) ?_
    rw [tSum] at h2
    refine Ev.bind (rdiv_ev _ _ _ (by omega) (by omega)) ?_
    refine Ev.bind (rclamp_ev _ _ _) ?_
    rw [h2]
    exact rsolve_l6 r a order e _ m ha hm res m 0 (by omega) hres
  | succ d ih =>
    intro i t h1 h2
    refine Ev.step (fun k => by rw [madrigalref6_Solve.l5]) ?_
    rw [wsucc (by omega), wsub (by omega) (by omega), rd_nat, rd_nat]
    refine ev_pos (by omega) (ev_pos (by omega) (ev_pos (by omega) (ev_pos (by omega) (ev_pos (by omega) ?_))))
    refine Ev.bind (rmul_ev _ _ _ (by omega) (by omega)) ?_
    exact ih (i + 1) _ (by omega) h2

theorem rsolve_l4 (r : List Int) (order : Nat) (ho : order ≤ 32) (hr : order + 1 = r.length) (d : Nat) : ∀ (m : Nat) (a : List Int) (e : Int), m + d = order → a.length = m →
    Ev (fun k => madrigalref6_Solve.l4 k r (order : Int) e a (m : Int)) (fitW ((levinW r d m a e).map fun v => mulI v 1 12)) := by
  induction d with
  | zero =>
    intro m a e h1 h2
    refine Ev.step (fun k => by rw [madrigalref6_Solve.l4]) ?_
    refine ev_neg (by omega) ?_
    rw [levinW]
    exact rsolve_l7 a (by omega) a.length 0 a (by omega) rfl (fun _ _ => rfl) (fun j hj => by omega)
  | succ d ih =>
    intro m a e h1 h2
    refine Ev.step (fun k => by rw [madrigalref6_Solve.l4]) ?_
    rw [wsucc (by omega), rd_nat]
    refine ev_pos (by omega) (ev_pos (by omega) (ev_pos (by omega) ?_))
    refine rsolve_l5 r a order e m h2 (by omega) (by omega) _ ?_ m 0 _ (by omega) rfl
    rw [levinW]
    exact ih (m + 1) _ _ (by omega) (by simp)

theorem rsolve_l3 (x0 : List Int) (order : Int) (hl : x0.length ≤ 1000) (hb : ∀ j, -1125899906842624 ≤ x0.getD j 0 ∧ x0.getD j 0 ≤ 1125899906842624) (res : List Int) (d : Nat) : ∀ (i : Nat) (y : List Int), i + d = x0.length → y.length = x0.length → (∀ j, i ≤ j → y.getD j 0 = x0.getD j 0) → (∀ j, j < i → y.getD j 0 = x0.getD j 0 / 2) →
    Ev (fun k => madrigalref6_Solve.l2 k (halveL x0) order) res → Ev (fun k => madrigalref6_Solve.l3 k y order (i : Int)) res := by
  induction d with
  | zero =>
    intro i y h1 h2 h3 h4 hr
    refine Ev.step (fun k => by rw [madrigalref6_Solve.l3]) ?_
    refine ev_neg (by omega) ?_
    have := fill_map (· / 2) 0 i x0 y h1 h2 h3 h4
    rw [fill] at this
    rw [this]; exact hr
  | succ d ih =>
    intro i y h1 h2 h3 h4 hr
    refine Ev.step (fun k => by rw [madrigalref6_Solve.l3]) ?_
    have hbi := hb i
    rw [wsucc (by omega), rd_nat, h3 i (Nat.le_refl _), rdown_ev (by omega) (by omega)]
    refine ev_pos (by omega) (ev_pos (by omega) ?_)
    refine ev_some ?_
    simp only [Int.toNat_natCast]
    refine ih (i + 1) _ (by omega) (by simpa using h2) (fun j hj => ?_) (fun j hj => ?_) hr
    · rw [gset_ne _ _ _ _ (by omega)]; exact h3 j (by omega)
    · by_cases hji : j = i
      · subst hji; exact gset_eq _ _ _ (by omega)
      · rw [gset_ne _ _ _ _ (by omega)]; exact h4 j (by omega)

theorem halveL_bd {x : List Int} (hb : ∀ j, -1125899906842624 ≤ x.getD j 0 ∧ x.getD j 0 ≤ 1125899906842624) (j : Nat) : -1125899906842624 ≤ (halveL x).getD j 0 ∧ (halveL x).getD j 0 ≤ 1125899906842624 := by
  by_cases h : j < x.length
  · have := hb j
    rw [halveL, getD_map h]; omega
  · rw [getD_out (by simp [halveL]; omega)]; omega

theorem rsolve_l2 (order : Int) (res : List Int) (f : Nat) : ∀ (x : List Int), 0 < x.length → x.length ≤ 1000 → (∀ j, -1125899906842624 ≤ x.getD j 0 ∧ x.getD j 0 ≤ 1125899906842624) → (halveW f x).getD 0 0 < 1073741824 →
    Ev (fun k => madrigalref6_Solve.l4 k ((halveW f x).set 0 (wrap64 (wrap64 ((halveW f x).getD 0 0 + wrap64 (Int.tdiv ((halveW f x).getD 0 0) 1024)) + 1))) order (wrap64 (wrap64 ((halveW f x).getD 0 0 + wrap64 (Int.tdiv ((halveW f x).getD 0 0) 1024)) + 1)) [] 0) res →
    Ev (fun k => madrigalref6_Solve.l2 k x order) res := by
  induction f with
  | zero =>
    intro x h1 h2 hb h3 hr
    rw [halveW] at h3 hr
    refine Ev.step (fun k => by rw [madrigalref6_Solve.l2]) ?_
    rw [show rd x 0 = x.getD 0 0 from rd_nat x 0]
    exact ev_pos (by omega) (ev_neg (by omega) hr)
  | succ f ih =>
    intro x h1 h2 hb h3 hr
    rw [halveW] at h3 hr
    refine Ev.step (fun k => by rw [madrigalref6_Solve.l2]) ?_
    rw [show rd x 0 = x.getD 0 0 from rd_nat x 0]
    refine ev_pos (by omega) ?_
    by_cases c : x.getD 0 0 ≥ 1073741824
    · rw [if_pos c] at h3 hr
      refine ev_pos c ?_
      refine rsolve_l3 x order h2 hb _ x.length 0 x (by omega) rfl (fun _ _ => rfl) (fun j hj => by omega) ?_
      exact ih _ (by simpa [halveL] using h1) (by simpa [halveL] using h2) (halveL_bd hb) h3 hr
    · rw [if_neg c] at h3 hr
      exact ev_neg c hr

theorem rsolve_l1 (x0 : List Int) (order : Int) (hl : x0.length ≤ 1000) (res : List Int) (d : Nat) : ∀ (i : Nat) (y : List Int), i + d = x0.length → y.length = x0.length → (∀ j, i ≤ j → y.getD j 0 = x0.getD j 0) → (∀ j, j < i → y.getD j 0 = clamp (wrap64 (2 * x0.getD j 0)) (-1125899906842624) 1125899906842624) →
    Ev (fun k => madrigalref6_Solve.l0 k (dblL x0) order) res → Ev (fun k => madrigalref6_Solve.l1 k y order (i : Int)) res := by
  induction d with
  | zero =>
    intro i y h1 h2 h3 h4 hr
    refine Ev.step (fun k => by rw [madrigalref6_Solve.l1]) ?_
    refine ev_neg (by omega) ?_
    have := fill_map (fun v => clamp (wrap64 (2 * v)) (-1125899906842624) 1125899906842624) 0 i x0 y h1 h2 h3 h4
    rw [fill] at this
    rw [this]; exact hr
  | succ d ih =>
    intro i y h1 h2 h3 h4 hr
    refine Ev.step (fun k => by rw [madrigalref6_Solve.l1]) ?_
    rw [wsucc (by omega), rd_nat, h3 i (Nat.le_refl _), Int.mul_comm (x0.getD i 0) 2]
    refine ev_pos (by omega) (ev_pos (by omega) ?_)
    refine Ev.bind (rclamp_ev _ _ _) ?_
    simp only [Int.toNat_natCast]
    refine ih (i + 1) _ (by omega) (by simpa using h2) (fun j hj => ?_) (fun j hj => ?_) hr
    · rw [gset_ne _ _ _ _ (by omega)]; exact h3 j (by omega)
    · by_cases hji : j = i
      · subst hji; exact gset_eq _ _ _ (by omega)
      · rw [gset_ne _ _ _ _ (by omega)]; exact h4 j (by omega)

theorem rsolve_l0 (order : Int) (res : List Int) (f : Nat) : ∀ (x : List Int), 0 < x.length → x.length ≤ 1000 → 536870912 ≤ (dblW f x).getD 0 0 →
    Ev (fun k => madrigalref6_Solve.l2 k (dblW f x) order) res → Ev (fun k => madrigalref6_Solve.l0 k x order) res := by
  induction f with
  | zero =>
    intro x h1 h2 h3 hr
    rw [dblW] at h3 hr
    refine Ev.step (fun k => by rw [madrigalref6_Solve.l0]) ?_
    rw [show rd x 0 = x.getD 0 0 from rd_nat x 0]
    exact ev_pos (by omega) (ev_neg (by omega) hr)
  | succ f ih =>
    intro x h1 h2 h3 hr
    rw [dblW] at h3 hr
    refine Ev.step (fun k => by rw [madrigalref6_Solve.l0]) ?_
    rw [show rd x 0 = x.getD 0 0 from rd_nat x 0]
    refine ev_pos (by omega) ?_
    by_cases c : x.getD 0 0 < 536870912
    · rw [if_pos c] at h3 hr
      refine ev_pos c ?_
      refine rsolve_l1 x order h2 _ x.length 0 x (by omega) rfl (fun _ _ => rfl) (fun j hj => by omega) ?_
      exact ih _ (by simpa [dblL] using h1) (by simpa [dblL] using h2) h3 hr
    · rw [if_neg c] at h3 hr
      exact ev_neg c hr

theorem wrap_twice (a b : Int) : wrap64 (wrap64 (a + b) + 1) = wrap64 (a + wrap64 (b + 1)) := by
  unfold wrap64; omega

theorem dblW_bd : ∀ (f : Nat) (x : List Int), (∀ j, -1125899906842624 ≤ x.getD j 0 ∧ x.getD j 0 ≤ 1125899906842624) → ∀ j, -1125899906842624 ≤ (dblW f x).getD j 0 ∧ (dblW f x).getD j 0 ≤ 1125899906842624
  | 0, _, hb, j => hb j
  | f + 1, x, hb, j => by
    rw [dblW]; split
    · refine dblW_bd f _ (fun j => ?_) j
      by_cases h : j < x.length
      · rw [dblL, getD_map h]; exact clamp_bd (by omega)
      · rw [getD_out (by simp [dblL]; omega)]; omega
    · exact hb j

theorem set_getD_zero (l : List Int) (v : Int) (h : 0 < l.length) : (l.set 0 v).getD 0 0 = v := gset_eq l 0 v h

theorem rsolve_ev (l : List Int) (h1 : 2 ≤ l.length) (h2 : l.length ≤ 33) : Ev (fun k => madrigalref6_Solve.f k l) (solveW l) := by
  unfold madrigalref6_Solve.f solveW
  have e : wrap64 ((l.length : Int) - 1) = ((l.length - 1 : Nat) : Int) := by rw [wrap_id] <;> omega
  rw [e, show rd l 0 = l.getD 0 0 from rd_nat l 0]
  refine ev_pos (by omega) ?_
  by_cases c : l.getD 0 0 < 1
  · rw [if_pos c]
    refine ev_pos c (ev_pos (by omega) (ev_pos (by omega) ?_))
    rw [Int.toNat_natCast]
    exact Ev.now _
  · rw [if_neg c]
    refine ev_neg c ?_
    refine Ev.bind (clamped_ev l _ _ (by omega)) ?_
    have hm := scaled_mid l (by omega) (by omega)
    have hlen : (halveW 64 (dblW 64 (l.map fun v => clamp v (-2199023255552) 2199023255552))).length = l.length := by rw [halveW_length, dblW_length, List.length_map]
    refine rsolve_l0 _ _ 64 _ (by simp; omega) (by simp; omega) hm.1 ?_
    refine rsolve_l2 _ _ 64 _ (by rw [dblW_length]; simp; omega) (by rw [dblW_length]; simp; omega) (dblW_bd 64 _ (fun j => ?_)) hm.2 ?_
    · by_cases h : j < l.length
      · rw [getD_map h]; have := clamp_bd (a := l.getD j 0) (lo := -2199023255552) (hi := 2199023255552) (by omega); omega
      · rw [getD_out (by simp; omega)]; omega
    · have es : (halveW 64 (dblW 64 (l.map fun v => clamp v (-2199023255552) 2199023255552))).set 0 (wrap64 (wrap64 ((halveW 64 (dblW 64 (l.map fun v => clamp v (-2199023255552) 2199023255552))).getD 0 0 + wrap64 (Int.tdiv ((halveW 64 (dblW 64 (l.map fun v => clamp v (-2199023255552) 2199023255552))).getD 0 0) 1024)) + 1)) = scaledW l := by
        unfold scaledW; rw [wrap_twice]
      have eg : wrap64 (wrap64 ((halveW 64 (dblW 64 (l.map fun v => clamp v (-2199023255552) 2199023255552))).getD 0 0 + wrap64 (Int.tdiv ((halveW 64 (dblW 64 (l.map fun v => clamp v (-2199023255552) 2199023255552))).getD 0 0) 1024)) + 1) = (scaledW l).getD 0 0 := by
        rw [← es, set_getD_zero _ _ (by omega)]
      rw [es, eg]
      exact rsolve_l4 (scaledW l) (l.length - 1) (by omega) (by rw [scaledW_length]; omega) (l.length - 1) 0 [] _ (by omega) rfl
end Go.Proofs.Ytgbdkefglmjdoaa.RefC
