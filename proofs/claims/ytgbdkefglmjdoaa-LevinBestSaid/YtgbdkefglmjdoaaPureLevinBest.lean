/- LevinBest: the first table's frequencies that are found leave the least, by the document's own reckoning. For every list of at most 200 samples and every order; else nothing is asked. -/
import Derived.Test.YtgbdkefglmjdoaaMAx24
import Derived.Test.YtgbdkefglmjdoaaMAxmono
import Derived.Test.YtgbdkefglmjdoaaRefA
namespace Go.Proofs.Ytgbdkefglmjdoaa.Pure
open Go.RowKit Go.Proofs.Ytgbdkefglmjdoaa.MA Go.Proofs.YtgbdkefglmjdoaaW.PrintWords Go.Proofs.YtgbdkefglmjdoaaW.PrintLast Go.Proofs.Ytgbdkefglmjdoaa.Core Go.Proofs.Ytgbdkefglmjdoaa.Base Go.Proofs.Ytgbdkefglmjdoaa.Plain Go.Proofs.Ytgbdkefglmjdoaa.Reach Go.Proofs.Ytgbdkefglmjdoaa.RefA

/-- The filters of a book's frequencies, by the program and by the reference: closed, reckoned. -/
def book (order i : Int) : Bool :=
  match lsf_Decode.f 2000 order i (List.replicate order.toNat 0), madrigalref6_Decode.f 2000 order i (List.replicate order.toNat 0) with
  | some (l, _), some l' => match lpc_From.f 2000 l, madrigalref6_From.f 2000 l' with
    | some (a, _), some a' => decide (a = a') && decide (a.length = order.toNat)
    | _, _ => false
  | _, _ => false

set_option maxRecDepth 1000000 in
theorem book10 : (List.range 16).all (fun i => book 10 (i : Int)) = true := by kernel_rfl
set_option maxRecDepth 1000000 in
theorem book16 : (List.range 16).all (fun i => book 16 (i : Int)) = true := by kernel_rfl

theorem book_says {order i : Int} (h : book order i = true) : ∃ l e l' a e', Ev (fun k => lsf_Decode.f k order i (List.replicate order.toNat 0)) (l, e) ∧ Ev (fun k => madrigalref6_Decode.f k order i (List.replicate order.toNat 0)) l' ∧
    Ev (fun k => lpc_From.f k l) (a, e') ∧ Ev (fun k => madrigalref6_From.f k l') a ∧ a.length = order.toNat := by
  unfold book at h
  split at h
  · rename_i l e l' h1 h2
    split at h
    · rename_i a e' a' h3 h4
      rw [Bool.and_eq_true, decide_eq_true_eq, decide_eq_true_eq] at h
      obtain ⟨rfl, hl⟩ := h
      exact ⟨l, e, l', a, e', Ev.of (fun k => lsf_Decode.mono _ _ _ k) h1, Ev.of (fun k => madrigalref6_Decode.mono _ _ _ k) h2, Ev.of (fun k => lpc_From.mono _ k) h3, Ev.of (fun k => madrigalref6_From.mono _ k) h4, hl⟩
    · exact absurd h (by decide)
  · exact absurd h (by decide)

theorem best_l0 (x : List Int) (hx : x.length ≤ 200) (order : Int) (ho : 0 ≤ order ∧ order ≤ 32) (hb : ∀ i : Nat, i < 16 → book order i = true) (d : Nat) : ∀ (i : Nat) (best least : Int), i + d = 16 →
    ∃ r, Ev (fun k => levin_Best.l0 k x order best least (i : Int)) (r, 0) ∧ Ev (fun k => madrigalref6_Found.l0 k x order best least (i : Int)) r := by
  induction d with
  | zero =>
    intro i best least h1
    refine ⟨best, ?_, ?_⟩
    · refine Ev.step (fun k => by rw [levin_Best.l0]) ?_
      exact ev_neg (by omega) (Ev.now _)
    · refine Ev.step (fun k => by rw [madrigalref6_Found.l0]) ?_
      exact ev_neg (by omega) (Ev.now _)
  | succ d ih =>
    intro i best least h1
    obtain ⟨l, e, l', a, e', p1, p2, p3, p4, hl⟩ := book_says (hb i (by omega))
    have q1 := rest_ev x a (by omega) (by omega)
    have q2 := rrest_ev x a (by omega) (by omega)
    have hw := wsucc (n := i) (by omega)
    by_cases c : least < 0 ∨ powerW (restW (x.map sat) a) < least
    · obtain ⟨r, r1, r2⟩ := ih (i + 1) i (powerW (restW (x.map sat) a)) (by omega)
      refine ⟨r, ?_, ?_⟩
      · refine Ev.step (fun k => by rw [levin_Best.l0]) ?_
        refine ev_pos (by omega) (ev_pos ho.1 (ev_pos (by omega) ?_))
        refine Ev.bind p1 (Ev.bind p3 (Ev.bind q1 (Ev.bind (power_ev _) ?_)))
        rw [hw]
        by_cases c1 : least < 0
        · exact ev_pos c1 r1
        · exact ev_neg c1 (ev_pos (show powerW (restW (x.map sat) a) < least by omega) r1)
      · refine Ev.step (fun k => by rw [madrigalref6_Found.l0]) ?_
        refine ev_pos (by omega) (ev_pos ho.1 (ev_pos (by omega) ?_))
        refine Ev.bind p2 (Ev.bind p4 (Ev.bind q2 (Ev.bind (rpower_ev _) ?_)))
        rw [hw]
        by_cases c1 : least < 0
        · exact ev_pos c1 r2
        · exact ev_neg c1 (ev_pos (by omega) r2)
    · obtain ⟨r, r1, r2⟩ := ih (i + 1) best least (by omega)
      refine ⟨r, ?_, ?_⟩
      · refine Ev.step (fun k => by rw [levin_Best.l0]) ?_
        refine ev_pos (by omega) (ev_pos ho.1 (ev_pos (by omega) ?_))
        refine Ev.bind p1 (Ev.bind p3 (Ev.bind q1 (Ev.bind (power_ev _) ?_)))
        rw [hw]
        exact ev_neg (by omega) (ev_neg (show ¬ powerW (restW (x.map sat) a) < least by omega) r1)
      · refine Ev.step (fun k => by rw [madrigalref6_Found.l0]) ?_
        refine ev_pos (by omega) (ev_pos ho.1 (ev_pos (by omega) ?_))
        refine Ev.bind p2 (Ev.bind p4 (Ev.bind q2 (Ev.bind (rpower_ev _) ?_)))
        rw [hw]
        exact ev_neg (by omega) (ev_neg (by omega) r2)

theorem best_j0 (x : List Int) (hx : x.length ≤ 200) (order : Int) (ho : 0 ≤ order ∧ order ≤ 32) (hb : ∀ i : Nat, i < 16 → book order i = true) :
    ∃ r, Ev (fun k => levin_Best.j0 k x order (decide ((x.length : Int) > 960))) (r, 0) ∧ Ev (fun k => madrigalref6_Found.f k x order) r := by
  obtain ⟨r, r1, r2⟩ := best_l0 x hx order ho hb 16 0 0 (-1) (by omega)
  refine ⟨r, ?_, r2⟩
  rw [decide_eq_false (show ¬ (x.length : Int) > 960 by omega)]
  refine Ev.step (fun k => by rw [levin_Best.j0]) ?_
  exact ev_neg (by decide) r1

theorem books {order : Int} (h : (List.range 16).all (fun i => book order (i : Int)) = true) (i : Nat) (hi : i < 16) : book order i = true :=
  List.all_eq_true.1 h i (List.mem_range.2 hi)

theorem LevinBest : madrigallaw12_LevinBest.Pure := by
  intro x order _ _ _ _
  refine Ev.rounds ?_
  unfold madrigallaw12_LevinBest.f madrigallaw12_awake.f
  refine ev_some (ev_pos rfl ?_)
  by_cases h1 : (x.length : Int) > 200
  · exact ev_pos h1 (Ev.now _)
  · refine ev_neg h1 (ev_some (ev_pos (by simp; omega) ?_))
    rw [List.nil_append]
    by_cases h2 : order = 10
    · obtain ⟨r, r1, r2⟩ := best_j0 x (by omega) order (by omega) (by subst h2; exact books book10)
      have hf : Ev (fun k => levin_Best.f k x order) (r, 0) := by
        unfold levin_Best.f
        exact ev_pos h2 r1
      refine Ev.bind hf (ev_pos h2 (ev_pos rfl (Ev.bind r2 ?_)))
      simp only [beq_self_eq_true]
      exact Ev.now _
    · by_cases h3 : order = 16
      · obtain ⟨r, r1, r2⟩ := best_j0 x (by omega) order (by omega) (by subst h3; exact books book16)
        have hf : Ev (fun k => levin_Best.f k x order) (r, 0) := by
          unfold levin_Best.f
          exact ev_neg h2 (ev_pos h3 r1)
        refine Ev.bind hf (ev_neg h2 (ev_pos h3 (ev_pos rfl (Ev.bind r2 ?_))))
        simp only [beq_self_eq_true]
        exact Ev.now _
      · have hf : Ev (fun k => levin_Best.f k x order) (0, 1) := by
          unfold levin_Best.f
          refine ev_neg h2 (ev_neg h3 (Ev.step (fun k => by rw [levin_Best.j0]) ?_))
          exact ev_pos rfl (Ev.now _)
        refine Ev.bind hf (ev_neg h2 (ev_neg h3 (ev_pos rfl ?_)))
        exact Ev.now _

end Go.Proofs.Ytgbdkefglmjdoaa.Pure
