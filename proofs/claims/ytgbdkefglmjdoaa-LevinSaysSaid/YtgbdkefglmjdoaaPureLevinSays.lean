/- LevinSays: what a sound is like, the filter that foretells it, what is left, how strong it is, are what the document says. For every list of samples (at most 1000), order, list of numbers (at most 40) and filter (at most 40); else nothing is asked. -/
import Derived.Test.YtgbdkefglmjdoaaMAx17
import Derived.Test.YtgbdkefglmjdoaaRefC
namespace Go.Proofs.Ytgbdkefglmjdoaa.Pure
open Go.RowKit Go.Proofs.Ytgbdkefglmjdoaa.MA Go.Proofs.YtgbdkefglmjdoaaW.PrintWords Go.Proofs.YtgbdkefglmjdoaaW.PrintLast Go.Proofs.Ytgbdkefglmjdoaa.Core Go.Proofs.Ytgbdkefglmjdoaa.Base Go.Proofs.Ytgbdkefglmjdoaa.Plain Go.Proofs.Ytgbdkefglmjdoaa.Reach Go.Proofs.Ytgbdkefglmjdoaa.Filt Go.Proofs.Ytgbdkefglmjdoaa.ReachB Go.Proofs.Ytgbdkefglmjdoaa.ReachC Go.Proofs.Ytgbdkefglmjdoaa.RefA Go.Proofs.Ytgbdkefglmjdoaa.RefB Go.Proofs.Ytgbdkefglmjdoaa.RefC

theorem says_same_l0 (a : List Int) (hl : a.length ≤ 1000000) (d : Nat) : ∀ n, n + d = a.length → Ev (fun k => madrigallaw12_same.l0 k a a (n : Int)) true := by
  induction d with
  | zero =>
    intro n h1
    refine Ev.step (fun k => by rw [madrigallaw12_same.l0]) ?_
    exact ev_neg (by omega) (Ev.now _)
  | succ d ih =>
    intro n h1
    refine Ev.step (fun k => by rw [madrigallaw12_same.l0]) ?_
    rw [wsucc (by omega)]
    refine ev_pos (by omega) (ev_pos (by omega) (ev_pos (by omega) (ev_pos rfl ?_)))
    exact ih (n + 1) (by omega)
theorem says_same (a : List Int) (hl : a.length ≤ 1000000) : Ev (fun k => madrigallaw12_same.f k a a) true := by
  unfold madrigallaw12_same.f
  exact ev_pos rfl (says_same_l0 a hl a.length 0 (by omega))

theorem mulI_zz : mulI 0 0 24 = 0 := by decide
theorem divI_zero (d : Int) : divI 0 d 24 = 0 := by
  have h0 : fac 0 = 0 := by decide
  unfold divI
  rw [h0, Int.zero_mul]
  split
  · rfl
  · split
    · rw [Int.neg_zero, Int.zero_ediv]
    · rw [Int.zero_ediv]

theorem stabW_zeros : ∀ (m : Nat) (b : List Int), (∀ j, b.getD j 0 = 0) → stabW m b = true
  | 0, _, _ => rfl
  | m + 1, b, h => by
    rw [stabW, h m, if_neg (by omega)]
    refine stabW_zeros m _ (fun j => ?_)
    rw [List.getD_eq_getElem?_getD, fill_get]
    split
    · unfold stabStep
      rw [h j, h, mulI_zz, Int.add_zero, show wrap64 0 = 0 from wrap_id (by omega) (by omega), divI_zero]
      decide
    · rw [← List.getD_eq_getElem?_getD]; exact h j

theorem stable_zeros (n : Nat) (hn : n ≤ 32) : stableW (List.replicate n 0) = true := by
  unfold stableW
  rw [if_neg (by simp; omega)]
  refine stabW_zeros _ _ (fun j => ?_)
  rw [List.map_replicate, List.getD_eq_getElem?_getD, List.getElem?_replicate]
  split
  · show wrap64 (4096 * 0) = 0
    exact wrap_id (by omega) (by omega)
  · rfl

theorem fitL_stable : ∀ (d : Nat) (b : List Int), b.length ≤ 32 → stableW (fitL d b) = true
  | 0, b, h => by
    rw [fitL]
    split
    · assumption
    · exact stable_zeros _ h
  | d + 1, b, h => by
    rw [fitL]
    split
    · assumption
    · exact fitL_stable d _ (by rw [chirpW_length]; exact h)

theorem solve_stable (l : List Int) (h1 : 2 ≤ l.length) (h2 : l.length ≤ 33) : stableW (solveW l) = true ∧ (solveW l).length ≤ 33 := by
  unfold solveW
  split
  · exact ⟨stable_zeros _ (by omega), by simp; omega⟩
  · unfold fitW
    have hl : (levinW (scaledW l) (l.length - 1) 0 [] ((scaledW l).getD 0 0)).length = l.length - 1 := by have h := levinW_length (scaledW l) (l.length - 1) 0 [] ((scaledW l).getD 0 0) rfl; omega
    rw [if_neg (by rw [List.length_map, hl]; omega)]
    exact ⟨fitL_stable _ _ (by rw [List.length_map, List.length_map, hl]; omega), by rw [fitL_length, List.length_map, List.length_map, hl]; omega⟩

theorem says_j67 (x : List Int) : Ev (fun k => madrigallaw12_LevinSays.j6 k x false) true ∧ Ev (fun k => madrigallaw12_LevinSays.j7 k x false) true := by
  constructor
  · refine Ev.step (fun k => by rw [madrigallaw12_LevinSays.j6]) ?_
    refine ev_neg (by decide) ?_
    refine Ev.bind (power_ev x) ?_
    refine Ev.bind (rpower_ev x) ?_
    simp only [beq_self_eq_true]
    exact Ev.now _
  · refine Ev.step (fun k => by rw [madrigallaw12_LevinSays.j7]) ?_
    refine ev_neg (by decide) ?_
    refine Ev.bind (power_ev x) ?_
    refine Ev.bind (rpower_ev x) ?_
    simp only [beq_self_eq_true]
    exact Ev.now _

theorem restW_length (xs a : List Int) : (restW xs a).length = xs.length := by simp [restW]

theorem says_j4 (x a : List Int) (hx : x.length ≤ 1000) (ha : a.length ≤ 40) : Ev (fun k => madrigallaw12_LevinSays.j4 k x a) true := by
  refine Ev.step (fun k => by rw [madrigallaw12_LevinSays.j4]) ?_
  by_cases c : 960 < x.length ∨ 32 < a.length
  · refine Ev.bind (rest_bad x a c) ?_
    have hj : Ev (fun k => madrigallaw12_LevinSays.j5 k x a 1 [] true) true := by
      refine Ev.step (fun k => by rw [madrigallaw12_LevinSays.j5]) ?_
      exact ev_pos rfl (ev_pos rfl (says_j67 x).1)
    by_cases c1 : (x.length : Int) > 960
    · exact ev_pos c1 hj
    · refine ev_neg c1 ?_
      rw [decide_eq_true (show (a.length : Int) > 32 by omega)]
      exact hj
  · refine Ev.bind (rest_ev x a (by omega) (by omega)) ?_
    refine ev_neg (by omega) ?_
    rw [decide_eq_false (show ¬ (a.length : Int) > 32 by omega)]
    refine Ev.step (fun k => by rw [madrigallaw12_LevinSays.j5]) ?_
    refine ev_neg (by decide) (ev_pos rfl ?_)
    refine Ev.bind (rrest_ev x a (by omega) (by omega)) ?_
    refine Ev.bind (says_same _ (by rw [restW_length]; simp; omega)) ?_
    exact (says_j67 x).2

theorem says_j2 (x r a : List Int) (hx : x.length ≤ 1000) (hr : r.length ≤ 40) (ha : a.length ≤ 40) : Ev (fun k => madrigallaw12_LevinSays.j2 k x r a) true := by
  refine Ev.step (fun k => by rw [madrigallaw12_LevinSays.j2]) ?_
  refine ev_some (ev_pos (by simp; omega) ?_)
  rw [List.nil_append]
  by_cases c : r.length < 2 ∨ 33 < r.length
  · refine Ev.bind (solve_bad r c) ?_
    have hj : Ev (fun k => madrigallaw12_LevinSays.j3 k x r a 1 [] true) true := by
      refine Ev.step (fun k => by rw [madrigallaw12_LevinSays.j3]) ?_
      exact ev_pos rfl (ev_pos rfl (ev_pos rfl (says_j4 x a hx ha)))
    by_cases c1 : (r.length : Int) < 2
    · exact ev_pos c1 hj
    · refine ev_neg c1 ?_
      rw [decide_eq_true (show (r.length : Int) > 33 by omega)]
      exact hj
  · refine Ev.bind (solve_ev r (by omega) (by omega)) ?_
    refine ev_neg (by omega) ?_
    rw [decide_eq_false (show ¬ (r.length : Int) > 33 by omega)]
    refine Ev.step (fun k => by rw [madrigallaw12_LevinSays.j3]) ?_
    refine ev_neg (by decide) (ev_pos rfl ?_)
    have hs := solve_stable r (by omega) (by omega)
    refine Ev.bind (rsolve_ev r (by omega) (by omega)) ?_
    refine Ev.bind (says_same (solveW r) (by omega)) ?_
    refine ev_pos rfl ?_
    have h := stable_ev (solveW r)
    rw [hs.1] at h
    refine Ev.bind h ?_
    exact ev_pos rfl (says_j4 x a hx ha)

theorem says_j0 (x : List Int) (order : Int) (r a : List Int) (hx : x.length ≤ 1000) (hr : r.length ≤ 40) (ha : a.length ≤ 40) : Ev (fun k => madrigallaw12_LevinSays.j0 k x order r a false) true := by
  refine Ev.step (fun k => by rw [madrigallaw12_LevinSays.j0]) ?_
  refine ev_neg (by decide) ?_
  refine ev_some (ev_pos (by simp; omega) ?_)
  rw [List.nil_append]
  by_cases c : 960 < x.length ∨ order < 1 ∨ 32 < order
  · refine Ev.bind (auto_bad x order c) ?_
    have hj : Ev (fun k => madrigallaw12_LevinSays.j1 k x order r a [] 1 true) true := by
      refine Ev.step (fun k => by rw [madrigallaw12_LevinSays.j1]) ?_
      exact ev_pos rfl (ev_pos rfl (ev_pos rfl (says_j2 x r a hx hr ha)))
    by_cases c1 : (x.length : Int) > 960
    · exact ev_pos c1 hj
    · refine ev_neg c1 ?_
      by_cases c2 : order < 1
      · exact ev_pos c2 hj
      · refine ev_neg c2 ?_
        rw [decide_eq_true (show order > 32 by omega)]
        exact hj
  · refine Ev.bind (auto_ev x order (by omega) (by omega) (by omega)) ?_
    refine ev_neg (by omega) (ev_neg (by omega) ?_)
    rw [decide_eq_false (show ¬ order > 32 by omega)]
    refine Ev.step (fun k => by rw [madrigallaw12_LevinSays.j1]) ?_
    refine ev_neg (by decide) (ev_pos rfl ?_)
    refine Ev.bind (rauto_ev x order (by omega) (by omega) (by omega)) ?_
    refine Ev.bind (says_same _ (by simp [autoW]; omega)) ?_
    exact ev_pos rfl (says_j2 x r a hx hr ha)

theorem LevinSays : madrigallaw12_LevinSays.Pure := by
  intro x order r a _ _ _ _ _ _ _ _ _ _
  refine Ev.rounds ?_
  unfold madrigallaw12_LevinSays.f madrigallaw12_awake.f
  refine ev_some (ev_pos rfl ?_)
  have hj : Ev (fun k => madrigallaw12_LevinSays.j0 k x order r a true) true := by
    refine Ev.step (fun k => by rw [madrigallaw12_LevinSays.j0]) ?_
    exact ev_pos rfl (Ev.now _)
  by_cases h1 : (x.length : Int) > 1000
  · exact ev_pos h1 hj
  · refine ev_neg h1 ?_
    by_cases h2 : (r.length : Int) > 40
    · exact ev_pos h2 hj
    · refine ev_neg h2 ?_
      by_cases h3 : (a.length : Int) > 40
      · rw [decide_eq_true h3]; exact hj
      · rw [decide_eq_false h3]
        exact says_j0 x order r a (by omega) (by omega) (by omega)

end Go.Proofs.Ytgbdkefglmjdoaa.Pure
