/- LevinTwice: a sound twice as loud is four times as much like itself, at every lag. For every list of at most 300 numbers below 16384 and every order from 1 to 16; else nothing is asked. -/
import Derived.Test.YtgbdkefglmjdoaaMAx23
import Derived.Test.YtgbdkefglmjdoaaReach
namespace Go.Proofs.Ytgbdkefglmjdoaa.Pure
open Go.RowKit Go.Proofs.Ytgbdkefglmjdoaa.MA Go.Proofs.YtgbdkefglmjdoaaW.PrintWords Go.Proofs.YtgbdkefglmjdoaaW.PrintLast Go.Proofs.Ytgbdkefglmjdoaa.Core Go.Proofs.Ytgbdkefglmjdoaa.Base Go.Proofs.Ytgbdkefglmjdoaa.Plain Go.Proofs.Ytgbdkefglmjdoaa.Reach

theorem autoW_getD' (xs : List Int) (order k : Nat) (h : k ≤ order) : (autoW xs order).getD k 0 = corrW xs k (xs.length - k) k 0 := by
  simp [autoW, List.getD, show k < order + 1 by omega]
theorem autoW_length' (xs : List Int) (order : Nat) : (autoW xs order).length = order + 1 := by simp [autoW]

theorem twice_l1 (r s : List Int) (hr : r.length ≤ 1000) (hs : s.length = r.length) (h : ∀ i, i < r.length → s.getD i 0 = wrap64 (4 * r.getD i 0)) (d : Nat) : ∀ n, n + d = r.length → Ev (fun k => madrigallaw12_LevinTwice.l1 k r s (n : Int)) true := by
  induction d with
  | zero =>
    intro n h1
    refine Ev.step (fun k => by rw [madrigallaw12_LevinTwice.l1]) ?_
    exact ev_neg (by omega) (Ev.now _)
  | succ d ih =>
    intro n h1
    refine Ev.step (fun k => by rw [madrigallaw12_LevinTwice.l1]) ?_
    rw [rd_nat, rd_nat, wsucc (by omega)]
    refine ev_pos (by omega) (ev_pos (by omega) (ev_pos (by omega) (ev_pos (h n (by omega)) ?_)))
    exact ih (n + 1) (by omega)

theorem twice_l0 (l : List Int) (order : Int) (hl : l.length ≤ 300) (h1 : 1 ≤ order) (h2 : order ≤ 16) (d : Nat) : ∀ n, n + d = l.length → (∀ i, i < n → -16383 ≤ l.getD i 0 ∧ l.getD i 0 ≤ 16383) →
    Ev (fun k => madrigallaw12_LevinTwice.l0 k l order ((l.take n).map (fun v => 2 * v)) (n : Int)) true := by
  induction d with
  | zero =>
    intro n hn hb
    refine Ev.step (fun k => by rw [madrigallaw12_LevinTwice.l0]) ?_
    refine ev_neg (by omega) ?_
    have hall : ∀ i, -16383 ≤ l.getD i 0 ∧ l.getD i 0 ≤ 16383 := by
      intro i
      by_cases hi : i < l.length
      · exact hb i (by omega)
      · rw [getD_out (by omega)]; omega
    have et : l.take n = l := List.take_of_length_le (by omega)
    rw [et]
    refine Ev.bind (auto_ev l order (by omega) (by omega) (by omega)) ?_
    refine Ev.bind (auto_ev (l.map fun v => 2 * v) order (by simp; omega) (by omega) (by omega)) ?_
    refine ev_pos rfl (ev_pos rfl ?_)
    refine Ev.step (fun k => by rw [madrigallaw12_LevinTwice.j2]) ?_
    simp only [autoW_length', bne_self_eq_false]
    refine ev_neg (by decide) ?_
    refine twice_l1 _ _ (by rw [autoW_length']; omega) (by rw [autoW_length', autoW_length']) ?_ _ 0 (Nat.zero_add _)
    intro i hi
    rw [autoW_length'] at hi
    rw [autoW_getD' _ _ _ (by omega), autoW_getD' _ _ _ (by omega)]
    have hx := sat_getD_bd l
    have hy := sat_getD_bd (l.map fun v => 2 * v)
    rw [corr_exact hx _ _ _ (by simp; omega), corr_exact hy _ _ _ (by simp; omega)]
    have es : ∀ j, (l.map sat).getD j 0 = l.getD j 0 := by
      intro j
      by_cases hj : j < l.length
      · rw [getD_map hj]; have := hall j; exact clamp_id (by omega) (by omega)
      · rw [getD_out (by simp; omega), getD_out (by omega)]
    have es2 : ∀ j, ((l.map fun v => 2 * v).map sat).getD j 0 = 2 * l.getD j 0 := by
      intro j
      by_cases hj : j < l.length
      · rw [getD_map (by simpa using hj), getD_map hj]; have := hall j; exact clamp_id (by omega) (by omega)
      · rw [getD_out (by simp; omega), getD_out (by omega)]; rfl
    have el : ((l.map fun v => 2 * v).map sat).length = (l.map sat).length := by simp
    rw [el]
    have e4 : sumFrom (fun j => ((l.map fun v => 2 * v).map sat).getD j 0 * ((l.map fun v => 2 * v).map sat).getD (j - i) 0) i ((l.map sat).length - i) = 4 * sumFrom (fun j => (l.map sat).getD j 0 * (l.map sat).getD (j - i) 0) i ((l.map sat).length - i) := by
      rw [← sumFrom_mul]
      refine sumFrom_congr _ _ (fun j _ _ => ?_)
      rw [es2, es2, es, es]
      rw [Int.mul_assoc, ← Int.mul_assoc (l.getD j 0), Int.mul_comm (l.getD j 0) 2, Int.mul_assoc, ← Int.mul_assoc 2 2]; rfl
    rw [e4]
    have hbd := sumFrom_bd (M := 1073741824) (by omega) (f := fun j => (l.map sat).getD j 0 * (l.map sat).getD (j - i) 0) (fun j => by
      have := mul_le_of (A := 32768) (B := 32768) (by have := hx j; omega) (show -32768 ≤ (l.map sat).getD (j - i) 0 ∧ (l.map sat).getD (j - i) 0 ≤ 32768 from hx _)
      omega) ((l.map sat).length - i) i
    have hll : ((l.map sat).length - i : Nat) ≤ 300 := by simp; omega
    generalize sumFrom (fun j => (l.map sat).getD j 0 * (l.map sat).getD (j - i) 0) i ((l.map sat).length - i) = S at *
    generalize ((l.map sat).length - i : Nat) = q at *
    rw [wrap_id] <;> omega
  | succ d ih =>
    intro n hn hb
    refine Ev.step (fun k => by rw [madrigallaw12_LevinTwice.l0]) ?_
    rw [rd_nat, wsucc (by omega)]
    refine ev_pos (by omega) (ev_pos (by omega) ?_)
    by_cases c1 : l.getD n 0 < -16383
    · exact ev_pos c1 (Ev.now _)
    · refine ev_neg c1 ?_
      by_cases c2 : l.getD n 0 > 16383
      · exact ev_pos c2 (Ev.now _)
      · refine ev_neg c2 (ev_pos (by simp; omega) ?_)
        have e : (l.take n).map (fun v => 2 * v) ++ [wrap64 (2 * l.getD n 0)] = (l.take (n + 1)).map (fun v => 2 * v) := by
          have hnl : n < l.length := by omega
          rw [List.take_succ_eq_append_getElem hnl, List.map_append, wrap_id (by omega) (by omega)]
          simp [List.getD, hnl]
        rw [e]
        refine ih (n + 1) (by omega) (fun i hi => ?_)
        by_cases hin : i = n
        · subst hin; omega
        · exact hb i (by omega)

theorem LevinTwice : madrigallaw12_LevinTwice.Pure := by
  intro l order _ _ _ _
  refine Ev.rounds ?_
  unfold madrigallaw12_LevinTwice.f madrigallaw12_awake.f
  refine ev_some (ev_pos rfl ?_)
  have hj : Ev (fun k => madrigallaw12_LevinTwice.j0 k l order true) true := by
    refine Ev.step (fun k => by rw [madrigallaw12_LevinTwice.j0]) ?_
    exact ev_pos rfl (Ev.now _)
  by_cases h1 : (l.length : Int) > 300
  · exact ev_pos h1 hj
  · refine ev_neg h1 ?_
    by_cases h2 : order < 1
    · exact ev_pos h2 hj
    · refine ev_neg h2 ?_
      by_cases h3 : order > 16
      · rw [decide_eq_true h3]; exact hj
      · rw [decide_eq_false h3]
        refine Ev.step (fun k => by rw [madrigallaw12_LevinTwice.j0]) ?_
        refine ev_neg (by decide) ?_
        exact twice_l0 l order (by omega) (by omega) (by omega) l.length 0 (by omega) (fun i hi => by omega)

end Go.Proofs.Ytgbdkefglmjdoaa.Pure
