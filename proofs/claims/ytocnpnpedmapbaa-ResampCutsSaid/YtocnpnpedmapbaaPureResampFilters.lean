/- Filters of all phases are what the reference says, and are one together: the plain law. No condition. -/
import Derived.Test.YtocnpnpedmapbaaFiltersW
import Derived.Test.YtocnpnpedmapbaaTabl
import Derived.Test.YtocnpnpedmapbaaBase
import Derived.DataShut
namespace Go.Proofs.Ytocnpnpedmapbaa.Pure
open Go.RowKit Go.Proofs.YtocnpnpedmapbaaW.PrintWords Go.Proofs.YtocnpnpedmapbaaW.PrintLast Go.Proofs.YtocnpnpedmapbaaW.PrintMore Go.Proofs.Ytocnpnpedmapbaa.MA Go.Proofs.Ytocnpnpedmapbaa.Core Go.Proofs.Ytocnpnpedmapbaa.Base Go.Proofs.Ytocnpnpedmapbaa.Tabl

theorem ev60 {α : Type} {g : Nat → Option α} {r : α} (h : ∀ k, g (k + 60) = some r) : Ev g r :=
  ⟨60, fun k hk => by obtain ⟨j, rfl⟩ : ∃ j, k = j + 60 := ⟨k - 60, by omega⟩; exact h j⟩

theorem same_l0 (a : List Int) (hl : a.length ≤ 1000000) (d : Nat) : ∀ n, n + d = a.length → Ev (fun k => madrigallaw22_same.l0 k a a (n : Int)) true := by
  induction d with
  | zero =>
    intro n h
    refine Ev.step (fun k => by rw [madrigallaw22_same.l0]) ?_
    exact ev_neg (by omega) (Ev.now _)
  | succ d ih =>
    intro n h
    refine Ev.step (fun k => by rw [madrigallaw22_same.l0]) ?_
    refine ev_pos (by omega) (ev_pos (by omega) (ev_pos (by omega) (ev_pos rfl ?_)))
    rw [wsucc (by omega)]
    exact ih (n + 1) (by omega)
theorem same_ev (a : List Int) (hl : a.length ≤ 1000000) : Ev (fun k => madrigallaw22_same.f k a a) true := by
  unfold madrigallaw22_same.f
  exact ev_pos rfl (same_l0 a hl a.length 0 (by omega))

theorem j1_false (a b p : Int) : Ev (fun k => madrigallaw22_ResampFilters.j1 k a b p [] false) true := by
  refine Ev.step (fun k => by rw [madrigallaw22_ResampFilters.j1]) ?_
  exact ev_neg (by decide) (Ev.now _)

theorem filter_none {a b : Int} (h : resamp_Good.f a b = some false) (p : Int) : Ev (fun k => resamp_Filter.f k a b p) [] := by
  unfold resamp_Filter.f
  exact ev_bind' h (ev_neg (by decide) (Ev.now _))

theorem filter_out {a b : Int} {L M : Nat} (hg : resamp_Good.f a b = some true) (hr : RateIs a b L M) {p : Int} (hp : p < 0 ∨ (L : Int) ≤ p) : Ev (fun k => resamp_Filter.f k a b p) [] := by
  unfold resamp_Filter.f
  have hj : Ev (fun k => resamp_Filter.j0 k a b p (L : Int) true) [] := by
    refine Ev.step (fun k => by rw [resamp_Filter.j0]) ?_
    exact ev_pos rfl (Ev.now _)
  refine ev_bind' hg (ev_pos rfl (Ev.bind (ev60 hr.2.2.2.2.1) ?_))
  by_cases h : p < 0
  · exact ev_pos h hj
  · refine ev_neg h ?_
    rw [decide_eq_true (show p ≥ (L : Int) by omega)]
    exact hj

theorem ResampFilters : madrigallaw22_ResampFilters.Pure := by
  intro a b p _ _ _
  refine Ev.rounds ?_
  unfold madrigallaw22_ResampFilters.f madrigallaw22_awake.f
  refine ev_some (ev_pos rfl ?_)
  obtain ⟨s, h1, k1⟩ := rate_some a
  obtain ⟨t, h2, k2⟩ := rate_some b
  have hg := good_of a b h1 h2
  cases s with
  | false =>
    rw [Bool.false_and] at hg
    refine Ev.bind (filter_none hg p) (ev_bind' k1 (ev_neg (by decide) ?_))
    refine Ev.step (fun k => by rw [madrigallaw22_ResampFilters.j0]) ?_
    exact ev_bind' hg (ev_neg (by decide) (ev_neg (by decide) (j1_false _ _ _)))
  | true =>
    rw [Bool.true_and] at hg
    cases t with
    | false =>
      refine Ev.bind (filter_none hg p) (ev_bind' k1 (ev_pos rfl (ev_bind' k2 ?_)))
      refine Ev.step (fun k => by rw [madrigallaw22_ResampFilters.j0]) ?_
      exact ev_bind' hg (ev_neg (by decide) (ev_neg (by decide) (j1_false _ _ _)))
    | true =>
      obtain ⟨L, M, hr⟩ := rates h1 h2
      by_cases hp : p < 0 ∨ (L : Int) ≤ p
      · refine Ev.bind (filter_out hg hr hp) (ev_bind' k1 (ev_pos rfl (ev_bind' k2 ?_)))
        refine Ev.step (fun k => by rw [madrigallaw22_ResampFilters.j0]) ?_
        refine ev_bind' hg (ev_neg (by decide) (ev_pos rfl (Ev.bind (ev60 hr.2.2.2.2.2.1) ?_)))
        by_cases h0 : p ≥ 0
        · refine ev_pos h0 ?_
          rw [decide_eq_false (show ¬ p < (L : Int) by omega)]
          exact j1_false _ _ _
        · exact ev_neg h0 (j1_false _ _ _)
      · obtain ⟨P, rfl⟩ : ∃ P : Nat, p = P := ⟨p.toNat, by omega⟩
        obtain ⟨F, hl, hf, hq, _, hs, _⟩ := hr.2.2.2.2.2.2 P (by omega)
        refine Ev.bind (ev60 hf) (ev_bind' k1 (ev_pos rfl (ev_bind' k2 ?_)))
        refine Ev.step (fun k => by rw [madrigallaw22_ResampFilters.j0]) ?_
        refine ev_bind' hg (ev_neg (by decide) (ev_pos rfl (Ev.bind (ev60 hr.2.2.2.2.2.1) (ev_pos (by omega) ?_))))
        rw [decide_eq_true (show (P : Int) < (L : Int) by omega)]
        refine Ev.step (fun k => by rw [madrigallaw22_ResampFilters.j1]) ?_
        refine ev_pos rfl (Ev.bind (ev60 hq) (Ev.bind (same_ev F (by omega)) (ev_pos rfl (Ev.bind (ev60 hs) ?_))))
        exact Ev.now _

end Go.Proofs.Ytocnpnpedmapbaa.Pure
