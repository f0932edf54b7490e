/- The law of the tables: program and reference come to the same. No condition. -/
import Derived.Test.YtmfjmbdicjeooaaMAx7
import Derived.Test.YtmfjmbdicjeooaaTabs
import Derived.DataShut
namespace Go.Proofs.Ytmfjmbdicjeooaa.Pure
open Go.RowKit Go.Proofs.Ytmfjmbdicjeooaa.MA Go.Proofs.YtmfjmbdicjeooaaW.PrintWords Go.Proofs.YtmfjmbdicjeooaaW.PrintLast Go.Proofs.Ytmfjmbdicjeooaa.Core Go.Proofs.Ytmfjmbdicjeooaa.Base Go.Proofs.Ytmfjmbdicjeooaa.RefA Go.Proofs.Ytmfjmbdicjeooaa.Cos Go.Proofs.Ytmfjmbdicjeooaa.Tabs

theorem same_l0 (a : List Int) (hl : a.length ≤ 1000000) (d : Nat) : ∀ n, n + d = a.length → Ev (fun k => madrigallaw2_same.l0 k a a (n : Int)) true := by
  induction d with
  | zero =>
    intro n h
    refine Ev.step (fun k => by rw [madrigallaw2_same.l0]) ?_
    exact ev_neg (by omega) (Ev.now _)
  | succ d ih =>
    intro n h
    refine Ev.step (fun k => by rw [madrigallaw2_same.l0]) ?_
    refine ev_pos (by omega) (ev_pos (by omega) (ev_pos (by omega) (ev_pos rfl ?_)))
    rw [wsucc (by omega)]
    exact ih (n + 1) (by omega)
theorem same_ev (a : List Int) (hl : a.length ≤ 1000000) : Ev (fun k => madrigallaw2_same.f k a a) true := by
  unfold madrigallaw2_same.f
  exact ev_pos rfl (same_l0 a hl a.length 0 (by omega))

theorem windowW_length (l : Int) : (windowW l).length ≤ 480 := by
  unfold windowW
  split
  · simp
  · simp; omega
theorem lsfW_length (o i : Int) : (lsfW o i).length ≤ 16 := by
  unfold lsfW lsfT
  split
  · simp; omega
  · simp

theorem taps_some (i : Int) : ∃ t, tabs_Taps.f i = some t := by
  unfold tabs_Taps.f
  repeat' split
  all_goals exact ⟨_, rfl⟩
theorem icdf_some (i : Int) : ∃ l, tabs_Icdf.f i = some l ∧ l.length ≤ 100 := by
  unfold tabs_Icdf.f
  repeat' split
  all_goals exact ⟨_, rfl, by simp⟩
theorem rate_some (r : Int) : ∃ b, tabs_Rate.f r = some b := by
  unfold tabs_Rate.f
  repeat' split
  all_goals exact ⟨_, rfl⟩
theorem order_some (r : Int) : ∃ b, tabs_Order.f r = some b := by
  unfold tabs_Order.f
  repeat' split
  all_goals exact ⟨_, rfl⟩

theorem ev_bind' {α β : Type} {x : Option α} {a : α} {f : Nat → α → Option β} {r : β} (hx : x = some a) (h : Ev (fun k => f k a) r) : Ev (fun k => x.bind (f k)) r := by
  subst hx; exact h

theorem says_end (a0 a1 a2 a3 : Int) (w0 : -9223372036854775808 ≤ a0 ∧ a0 ≤ 9223372036854775807) (es : List Int) (hl : es.length ≤ 1000000) (d : Nat) : ∀ n, n + d = es.length → Ev (fun k => madrigallaw2_TabsSays.l1 k a0 a1 a2 a3 es es (n : Int)) true := by
  induction d with
  | zero =>
    intro n h
    refine Ev.step (fun k => by rw [madrigallaw2_TabsSays.l1]) ?_
    refine ev_neg (by omega) ?_
    obtain ⟨b, hb1, hb2⟩ := bins_same a1 a2 a0 w0.1 w0.2
    refine ev_bind' hb1 (ev_bind' hb2 (ev_pos rfl (ev_pos rfl ?_)))
    obtain ⟨rt, hrt⟩ := rate_some a1
    refine ev_bind' hrt (ev_bind' (show madrigalref1_Rate.f a1 = some rt from hrt) (ev_pos (by simp) ?_))
    obtain ⟨od, hod⟩ := order_some a1
    refine ev_bind' hod (ev_bind' (show madrigalref1_Order.f a1 = some od from hod) (ev_pos rfl ?_))
    refine Ev.bind (window_ev a3) (Ev.bind (rwindow_ev a3) (Ev.bind (same_ev _ (by have := windowW_length a3; omega)) (ev_pos rfl ?_)))
    refine Ev.bind (lsf_ev a3 a0) (Ev.bind (rlsf_ev a3 a0) (Ev.bind (same_ev _ (by have := lsfW_length a3 a0; omega)) (ev_pos rfl ?_)))
    refine Ev.bind (lsf_ev 10 a0) (Ev.bind (rlsf_ev 10 a0) (Ev.bind (same_ev _ (by have := lsfW_length 10 a0; omega)) (ev_pos rfl ?_)))
    refine Ev.bind (lsf_ev 16 a0) (Ev.bind (rlsf_ev 16 a0) (Ev.bind (same_ev _ (by have := lsfW_length 16 a0; omega)) (ev_pos rfl ?_)))
    obtain ⟨tp, htp⟩ := taps_some a0
    refine ev_bind' htp (ev_bind' (show madrigalref1_Taps.f a0 = some tp from htp) ?_)
    refine ⟨0, fun _ _ => ?_⟩
    simp
  | succ d ih =>
    intro n h
    refine Ev.step (fun k => by rw [madrigallaw2_TabsSays.l1]) ?_
    refine ev_pos (by omega) (ev_pos (by omega) (ev_pos (by omega) (ev_pos rfl ?_)))
    rw [wsucc (by omega)]
    exact ih (n + 1) (by omega)

theorem says_head (a0 a1 a2 a3 : Int) (w0 : -9223372036854775808 ≤ a0 ∧ a0 ≤ 9223372036854775807) (cs : List Int) (hl : cs.length ≤ 1000000) (d : Nat) : ∀ n, n + d = cs.length → Ev (fun k => madrigallaw2_TabsSays.l0 k a0 a1 a2 a3 cs cs (n : Int)) true := by
  induction d with
  | zero =>
    intro n h
    refine Ev.step (fun k => by rw [madrigallaw2_TabsSays.l0]) ?_
    refine ev_neg (by omega) ?_
    refine ev_bind' (edges_f a1) (ev_bind' (redges_f a1) (ev_pos rfl ?_))
    have hl : (edgesW a1).length ≤ 20 := by
      rcases edges_len a1 with h | h | h | h
      · omega
      · omega
      · omega
      · rw [h]; simp
    exact says_end a0 a1 a2 a3 w0 _ (by omega) (edgesW a1).length 0 (by omega)
  | succ d ih =>
    intro n h
    refine Ev.step (fun k => by rw [madrigallaw2_TabsSays.l0]) ?_
    refine ev_pos (by omega) (ev_pos (by omega) (ev_pos (by omega) (ev_pos rfl ?_)))
    rw [wsucc (by omega)]
    exact ih (n + 1) (by omega)

theorem TabsSays : madrigallaw2_TabsSays.Pure := by
  intro a0 a1 a2 a3 w0 _ _ _
  refine Ev.rounds ?_
  unfold madrigallaw2_TabsSays.f madrigallaw2_awake.f
  refine ev_some (ev_pos rfl ?_)
  obtain ⟨cs, hc, hl⟩ := icdf_some a0
  refine ev_bind' hc (ev_bind' (show madrigalref1_Icdf.f a0 = some cs from hc) (ev_pos rfl ?_))
  exact says_head a0 a1 a2 a3 ((Lit.wf_int_iff .i64 a0).1 w0) cs (by omega) cs.length 0 (by omega)

end Go.Proofs.Ytmfjmbdicjeooaa.Pure
