/- LevinNothing: with a filter of noughts, or none, all is left; what is left of silence is silence; a sound twice as loud has four times the power. For every list of at most 400 numbers below 16384 and every n from 0 to 32; else nothing is asked. -/
import Derived.Test.YtgbdkefglmjdoaaMAx21
import Derived.Test.YtgbdkefglmjdoaaReach
namespace Go.Proofs.Ytgbdkefglmjdoaa.Pure
open Go.RowKit Go.Proofs.Ytgbdkefglmjdoaa.MA Go.Proofs.YtgbdkefglmjdoaaW.PrintWords Go.Proofs.YtgbdkefglmjdoaaW.PrintLast Go.Proofs.Ytgbdkefglmjdoaa.Core Go.Proofs.Ytgbdkefglmjdoaa.Base Go.Proofs.Ytgbdkefglmjdoaa.Plain Go.Proofs.Ytgbdkefglmjdoaa.Reach

theorem same_l0 (a b : List Int) (hl : a.length ≤ 1000000) (hs : b.length = a.length) (h : ∀ i, i < a.length → a.getD i 0 = b.getD i 0) (d : Nat) : ∀ n, n + d = a.length → Ev (fun k => madrigallaw12_same.l0 k a b (n : Int)) true := by
  induction d with
  | zero =>
    intro n h1
    refine Ev.step (fun k => by rw [madrigallaw12_same.l0]) ?_
    exact ev_neg (by omega) (Ev.now _)
  | succ d ih =>
    intro n h1
    refine Ev.step (fun k => by rw [madrigallaw12_same.l0]) ?_
    rw [rd_nat, rd_nat, wsucc (by omega)]
    refine ev_pos (by omega) (ev_pos (by omega) (ev_pos (by omega) (ev_pos (h n (by omega)) ?_)))
    exact ih (n + 1) (by omega)
theorem same_ev (a : List Int) (hl : a.length ≤ 1000000) : Ev (fun k => madrigallaw12_same.f k a a) true := by
  unfold madrigallaw12_same.f
  exact ev_pos rfl (same_l0 a a hl rfl (fun _ _ => rfl) a.length 0 (by omega))

theorem zeros_getD (n i : Nat) : (List.replicate n (0 : Int)).getD i 0 = 0 := by
  rw [List.getD_eq_getElem?_getD, List.getElem?_replicate]; split <;> rfl

theorem mulI_zero_left (b : Int) : mulI 0 b 12 = 0 := by
  have : fac 0 = 0 := by decide
  unfold mulI; rw [this, Int.zero_mul]; decide
theorem mulI_zero_right (a : Int) : mulI a 0 12 = 0 := by
  have : fac 0 = 0 := by decide
  unfold mulI; rw [this, Int.mul_zero]; decide

/-- Nothing is taken off. -/
theorem restAt_id (xs a : List Int) (n : Nat) (h : ∀ k, mulI (clamp (a.getD k 0) (-131072) 131072) (xs.getD (n - 1 - k) 0) 12 = 0) (d : Nat) : ∀ (k : Nat) (v : Int), -32768 ≤ v → v ≤ 32768 → restAt xs a n d k v = v := by
  induction d with
  | zero => intro k v _ _; rfl
  | succ d ih =>
    intro k v h1 h2
    rw [restAt, h k, Int.sub_zero, wrap_id (by omega) (by omega), ite_self]
    exact ih (k + 1) v h1 h2

theorem restW_zero_filter (l : List Int) (n : Nat) : restW (l.map sat) (List.replicate n 0) = l.map sat := by
  unfold restW
  apply List.ext_getElem
  · simp
  · intro i h1 h2
    have hb := sat_getD_bd l i
    simp only [List.getElem_map, List.getElem_range]
    rw [restAt_id _ _ _ (fun k => by rw [zeros_getD, clamp_id (by omega) (by omega)]; exact mulI_zero_left _) _ _ _ hb.1 hb.2]
    have hi : i < l.length := by simpa using h2
    rw [getD_map hi]
    simp [List.getD, hi]

theorem restW_silence (n : Nat) (a : List Int) : restW ((List.replicate n 0).map sat) a = List.replicate n 0 := by
  have e : (List.replicate n (0 : Int)).map sat = List.replicate n 0 := by rw [List.map_replicate]; rfl
  rw [e]
  unfold restW
  apply List.ext_getElem
  · simp
  · intro i h1 h2
    simp only [List.getElem_map, List.getElem_range, zeros_getD]
    rw [restAt_id _ _ _ (fun k => by rw [zeros_getD]; exact mulI_zero_right _) _ _ _ (by omega) (by omega)]
    simp

theorem nothing_l1 (l : List Int) (hl : l.length ≤ 400) (hb : ∀ i, -16383 ≤ l.getD i 0 ∧ l.getD i 0 ≤ 16383) (d : Nat) : ∀ n, n + d = l.length →
    Ev (fun k => madrigallaw12_LevinNothing.l1 k l l 0 (List.replicate l.length 0) 0 ((l.take n).map (fun v => 2 * v)) (n : Int)) true := by
  induction d with
  | zero =>
    intro n hn
    refine Ev.step (fun k => by rw [madrigallaw12_LevinNothing.l1]) ?_
    refine ev_neg (by omega) (ev_pos rfl (ev_pos rfl ?_))
    refine Ev.bind (same_ev l (by omega)) ?_
    refine ev_pos rfl (ev_pos (by omega) (ev_pos (by omega) ?_))
    simp only [Int.toNat_natCast]
    refine Ev.bind (same_ev (List.replicate l.length 0) (by simp; omega)) ?_
    refine ev_pos rfl ?_
    have et : l.take n = l := List.take_of_length_le (by omega)
    rw [et]
    refine Ev.bind (power_ev _) ?_
    refine Ev.bind (power_ev _) ?_
    have e1 : l.take 960 = l := List.take_of_length_le (by omega)
    have e2 : (l.map fun v => 2 * v).take 960 = l.map fun v => 2 * v := List.take_of_length_le (by simp; omega)
    have eg : ∀ i, (l.map fun v => 2 * v).getD i 0 = 2 * l.getD i 0 := by
      intro i
      by_cases hi : i < l.length
      · exact getD_map hi
      · rw [getD_out (by simp; omega), getD_out (by omega)]; rfl
    have p1 : powerW l = own l 0 l.length := by
      unfold powerW
      rw [e1, powW_exact (fun i => by have := hb i; omega) _ _ _ (by omega) (by omega)]; omega
    have p2 : powerW (l.map fun v => 2 * v) = own (l.map fun v => 2 * v) 0 l.length := by
      unfold powerW
      rw [e2, powW_exact (fun i => by rw [eg]; have := hb i; omega) _ _ _ (by omega) (by simp; omega)]
      simp
    have p3 : own (l.map fun v => 2 * v) 0 l.length = 4 * own l 0 l.length := by
      unfold own
      rw [← sumFrom_mul]
      refine sumFrom_congr _ _ (fun j _ _ => ?_)
      rw [eg, Int.mul_assoc, ← Int.mul_assoc (l.getD j 0), Int.mul_comm (l.getD j 0) 2, Int.mul_assoc, ← Int.mul_assoc 2 2]; rfl
    have p4 : 0 ≤ own l 0 l.length ∧ own l 0 l.length ≤ 268435456 * l.length := by
      refine ⟨sumFrom_nonneg _ _ (fun i => sq_nonneg _), ?_⟩
      exact (sumFrom_bd (M := 268435456) (by omega) (fun i => by
        have := mul_le_of (x := l.getD i 0) (y := l.getD i 0) (A := 16384) (B := 16384) (by have := hb i; omega) (show -16384 ≤ l.getD i 0 ∧ l.getD i 0 ≤ 16384 by have := hb i; omega)
        omega) l.length 0).2
    rw [p2, p1, p3, wrap_id (n := 4 * own l 0 l.length) (by omega) (by omega)]
    simp only [beq_self_eq_true]
    exact Ev.now _
  | succ d ih =>
    intro n hn
    refine Ev.step (fun k => by rw [madrigallaw12_LevinNothing.l1]) ?_
    rw [rd_nat, wsucc (by omega)]
    refine ev_pos (by omega) (ev_pos (by omega) (ev_pos (by simp; omega) ?_))
    have e : (l.take n).map (fun v => 2 * v) ++ [wrap64 (2 * l.getD n 0)] = (l.take (n + 1)).map (fun v => 2 * v) := by
      have hnl : n < l.length := by omega
      have := hb n
      rw [List.take_succ_eq_append_getElem hnl, List.map_append, wrap_id (by omega) (by omega)]
      simp [List.getD, hnl]
    rw [e]
    exact ih (n + 1) (by omega)

theorem nothing_l0 (l : List Int) (m : Int) (hl : l.length ≤ 400) (h1 : 0 ≤ m) (h2 : m ≤ 32) (d : Nat) : ∀ n, n + d = l.length → (∀ i, i < n → -16383 ≤ l.getD i 0 ∧ l.getD i 0 ≤ 16383) →
    Ev (fun k => madrigallaw12_LevinNothing.l0 k l m (n : Int)) true := by
  induction d with
  | zero =>
    intro n hn hb
    refine Ev.step (fun k => by rw [madrigallaw12_LevinNothing.l0]) ?_
    refine ev_neg (by omega) (ev_pos h1 (ev_pos (by omega) ?_))
    have hall : ∀ i, -16383 ≤ l.getD i 0 ∧ l.getD i 0 ≤ 16383 := by
      intro i
      by_cases hi : i < l.length
      · exact hb i (by omega)
      · rw [getD_out (by omega)]; omega
    refine Ev.bind (rest_ev l _ (by omega) (by simp; omega)) ?_
    refine ev_pos (by omega) (ev_pos (by omega) ?_)
    simp only [Int.toNat_natCast]
    refine Ev.bind (rest_ev (List.replicate l.length 0) [4000, -900] (by simp; omega) (by simp)) ?_
    rw [restW_zero_filter, restW_silence]
    have es : l.map sat = l := by
      apply List.ext_getElem
      · simp
      · intro i h1 h2
        have := hall i
        simp only [List.getD, List.getElem?_eq_getElem h2, Option.getD_some] at this
        rw [List.getElem_map]
        exact clamp_id (by omega) (by omega)
    rw [es]
    exact nothing_l1 l hl hall l.length 0 (by omega)
  | succ d ih =>
    intro n hn hb
    refine Ev.step (fun k => by rw [madrigallaw12_LevinNothing.l0]) ?_
    rw [rd_nat, wsucc (by omega)]
    refine ev_pos (by omega) (ev_pos (by omega) ?_)
    by_cases c1 : l.getD n 0 < -16383
    · exact ev_pos c1 (Ev.now _)
    · refine ev_neg c1 ?_
      by_cases c2 : l.getD n 0 > 16383
      · exact ev_pos c2 (Ev.now _)
      · refine ev_neg c2 ?_
        refine ih (n + 1) (by omega) (fun i hi => ?_)
        by_cases hin : i = n
        · subst hin; omega
        · exact hb i (by omega)

theorem LevinNothing : madrigallaw12_LevinNothing.Pure := by
  intro l m _ _ _ _
  refine Ev.rounds ?_
  unfold madrigallaw12_LevinNothing.f madrigallaw12_awake.f
  refine ev_some (ev_pos rfl ?_)
  have hj : Ev (fun k => madrigallaw12_LevinNothing.j0 k l m true) true := by
    refine Ev.step (fun k => by rw [madrigallaw12_LevinNothing.j0]) ?_
    exact ev_pos rfl (Ev.now _)
  by_cases h1 : (l.length : Int) > 400
  · exact ev_pos h1 hj
  · refine ev_neg h1 ?_
    by_cases h2 : m < 0
    · exact ev_pos h2 hj
    · refine ev_neg h2 ?_
      by_cases h3 : m > 32
      · rw [decide_eq_true h3]; exact hj
      · rw [decide_eq_false h3]
        refine Ev.step (fun k => by rw [madrigallaw12_LevinNothing.j0]) ?_
        refine ev_neg (by decide) ?_
        exact nothing_l0 l m (by omega) (by omega) (by omega) l.length 0 (by omega) (fun i hi => by omega)

end Go.Proofs.Ytgbdkefglmjdoaa.Pure
