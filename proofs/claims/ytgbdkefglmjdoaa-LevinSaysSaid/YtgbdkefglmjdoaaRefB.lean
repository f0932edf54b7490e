/- What the references' Stable, Chirp and Fit come to: the same plain forms as the program's. Condition: lists of at most 33 numbers. -/
import Derived.Test.YtgbdkefglmjdoaaMAx14
import Derived.Test.YtgbdkefglmjdoaaRefA
namespace Go.Proofs.Ytgbdkefglmjdoaa.RefB
open Go.RowKit Go.Proofs.YtgbdkefglmjdoaaW.PrintWords Go.Proofs.YtgbdkefglmjdoaaW.PrintLast Go.Proofs.YtgbdkefglmjdoaaW.PrintMore Go.Proofs.Ytgbdkefglmjdoaa.Core Go.Proofs.Ytgbdkefglmjdoaa.MA Go.Proofs.Ytgbdkefglmjdoaa.Base Go.Proofs.Ytgbdkefglmjdoaa.Plain Go.Proofs.Ytgbdkefglmjdoaa.Reach Go.Proofs.Ytgbdkefglmjdoaa.Filt Go.Proofs.Ytgbdkefglmjdoaa.ReachB Go.Proofs.Ytgbdkefglmjdoaa.ReachC Go.Proofs.Ytgbdkefglmjdoaa.RefA

theorem rstable_l2 (b0 : List Int) (m : Nat) (r dd : Int) (hm : m < b0.length) (hl : b0.length ≤ 1000) (res : Bool) (d : Nat) : ∀ (i : Nat) (b : List Int), i + d = m → b.length = b0.length →
    Ev (fun k => madrigalref6_Stable.l1 k (fill (stabStep r dd b0 m) b i d) (wrap64 ((m : Int) - 1))) res → Ev (fun k => madrigalref6_Stable.l2 k b (m : Int) r dd b0 (i : Int)) res := by
  induction d with
  | zero =>
    intro i b h1 h2 hr
    refine Ev.step (fun k => by rw [madrigalref6_Stable.l2]) ?_
    exact ev_neg (by omega) hr
  | succ d ih =>
    intro i b h1 h2 hr
    refine Ev.step (fun k => by rw [madrigalref6_Stable.l2]) ?_
    have e0 : wrap64 ((m : Int) - 1) = (m : Int) - 1 := wrap_id (by omega) (by omega)
    have e1 : wrap64 ((m : Int) - 1 - i) = ((m - 1 - i : Nat) : Int) := by rw [wrap_id] <;> omega
    rw [e0, e1, wsucc (by omega), rd_nat, rd_nat]
    refine ev_pos (by omega) (ev_pos (by omega) (ev_pos (by omega) (ev_pos (by omega) (ev_pos (by omega) ?_))))
    refine Ev.bind (rmul_ev _ _ _ (by omega) (by omega)) ?_
    refine Ev.bind (rdiv_ev _ _ _ (by omega) (by omega)) ?_
    refine Ev.bind (rclamp_ev _ _ _) ?_
    refine ev_pos (by omega) ?_
    simp only [Int.toNat_natCast]
    exact ih (i + 1) _ (by omega) (by simpa using h2) hr

theorem rstable_l1 : ∀ (m : Nat) (b : List Int), m ≤ b.length → b.length ≤ 1000 → Ev (fun k => madrigalref6_Stable.l1 k b (wrap64 ((m : Int) - 1))) (stabW m b) := by
  intro m
  induction m with
  | zero =>
    intro b h1 h2
    have e0 : wrap64 (((0 : Nat) : Int) - 1) = -1 := wrap_id (by omega) (by omega)
    rw [e0]
    refine Ev.step (fun k => by rw [madrigalref6_Stable.l1]) ?_
    exact ev_neg (by omega) (Ev.now _)
  | succ m ih =>
    intro b h1 h2
    have e0 : wrap64 (((m + 1 : Nat) : Int) - 1) = (m : Int) := by rw [wrap_id] <;> omega
    rw [e0]
    refine Ev.step (fun k => by rw [madrigalref6_Stable.l1]) ?_
    rw [rd_nat]
    refine ev_pos (by omega) (ev_pos (by omega) (ev_pos (by omega) ?_))
    rw [stabW]
    by_cases c1 : b.getD m 0 > 16760438
    · rw [if_pos (Or.inl c1)]
      refine ev_pos c1 (Ev.step (fun k => by rw [madrigalref6_Stable.j2]) ?_)
      exact ev_pos rfl (Ev.now _)
    · refine ev_neg c1 ?_
      by_cases c2 : b.getD m 0 < -16760438
      · rw [if_pos (Or.inr c2), decide_eq_true c2]
        refine Ev.step (fun k => by rw [madrigalref6_Stable.j2]) ?_
        exact ev_pos rfl (Ev.now _)
      · rw [if_neg (by omega), decide_eq_false c2]
        refine Ev.step (fun k => by rw [madrigalref6_Stable.j2]) ?_
        refine ev_neg (by decide) ?_
        refine Ev.bind (rmul_ev _ _ _ (by omega) (by omega)) ?_
        refine ev_some ?_
        refine ev_pos (by simp; omega) ?_
        rw [List.nil_append]
        refine rstable_l2 b m _ _ (by omega) h2 _ m 0 b (by omega) rfl ?_
        exact ih _ (by rw [fill_length]; omega) (by rw [fill_length]; exact h2)

theorem rstable_l0 (c : List Int) (hl : c.length ≤ 1000) (d : Nat) : ∀ (i : Nat) (y : List Int), i + d = c.length → y.length = c.length → (∀ j, i ≤ j → y.getD j 0 = c.getD j 0) → (∀ j, j < i → y.getD j 0 = wrap64 (c.getD j 0 * 4096)) →
    Ev (fun k => madrigalref6_Stable.l0 k y (i : Int)) (stabW c.length (c.map fun v => wrap64 (v * 4096))) := by
  induction d with
  | zero =>
    intro i y h1 h2 h3 h4
    refine Ev.step (fun k => by rw [madrigalref6_Stable.l0]) ?_
    refine ev_neg (by omega) ?_
    have := fill_map (fun v => wrap64 (v * 4096)) 0 i c y h1 h2 h3 h4
    rw [fill] at this
    rw [this]
    have h := rstable_l1 c.length (c.map fun v => wrap64 (v * 4096)) (by simp) (by simpa using hl)
    rw [List.length_map]
    exact h
  | succ d ih =>
    intro i y h1 h2 h3 h4
    refine Ev.step (fun k => by rw [madrigalref6_Stable.l0]) ?_
    rw [wsucc (by omega), rd_nat, h3 i (Nat.le_refl _)]
    refine ev_pos (by omega) (ev_pos (by omega) ?_)
    simp only [Int.toNat_natCast]
    refine ih (i + 1) _ (by omega) (by simpa using h2) (fun j hj => ?_) (fun j hj => ?_)
    · rw [gset_ne _ _ _ _ (by omega)]; exact h3 j (by omega)
    · by_cases hji : j = i
      · subst hji; exact gset_eq _ _ _ (by omega)
      · rw [gset_ne _ _ _ _ (by omega)]; exact h4 j (by omega)

theorem rstable_ev (l : List Int) : Ev (fun k => madrigalref6_Stable.f k l) (stableW l) := by
  unfold madrigalref6_Stable.f stableW
  by_cases c : (l.length : Int) > 32
  · rw [if_pos c]; exact ev_pos c (Ev.now _)
  · rw [if_neg c]
    refine ev_neg c ?_
    refine Ev.bind (clamped_ev l _ _ (by omega)) ?_
    have h := rstable_l0 (l.map fun v => clamp v (-131072) 131072) (by simp; omega) _ 0 _ (Nat.zero_add _) rfl (fun _ _ => rfl) (fun j hj => by omega)
    rw [List.map_map, List.length_map] at h
    have e : (l.map fun v => wrap64 (4096 * clamp v (-131072) 131072)) = l.map ((fun v => wrap64 (v * 4096)) ∘ fun v => clamp v (-131072) 131072) :=
      List.map_congr_left (fun v _ => by show _ = wrap64 (_ * _); rw [Int.mul_comm])
    rw [e]
    exact h

theorem rchirp_l1 (c : Int) (l acc : List Int) (n : Nat) (hn : n ≤ 1000) (ha : acc.length ≤ 1000) (res : List Int) (d : Nat) : ∀ (i : Nat) (v : Int), i + d = n + 1 →
    Ev (fun k => madrigalref6_Chirp.l0 k l c (acc ++ [chirpN c d v]) ((n + 1 : Nat) : Int)) res → Ev (fun k => madrigalref6_Chirp.l1 k l c acc (n : Int) v (i : Int)) res := by
  induction d with
  | zero =>
    intro i v h1 hr
    refine Ev.step (fun k => by rw [madrigalref6_Chirp.l1]) ?_
    refine ev_neg (by omega) (ev_pos (by omega) ?_)
    rw [wsucc (by omega)]
    exact hr
  | succ d ih =>
    intro i v h1 hr
    refine Ev.step (fun k => by rw [madrigalref6_Chirp.l1]) ?_
    refine ev_pos (by omega) ?_
    refine Ev.bind (rmul_ev _ _ _ (by omega) (by omega)) ?_
    rw [wsucc (by omega)]
    exact ih (i + 1) _ (by omega) hr

theorem rchirp_l0 (c : Int) (l : List Int) (hl : l.length ≤ 1000) (d : Nat) : ∀ (i : Nat), i + d = l.length →
    Ev (fun k => madrigalref6_Chirp.l0 k l c ((List.range i).map fun j => chirpN c (j + 1) (l.getD j 0)) (i : Int)) ((List.range l.length).map fun j => chirpN c (j + 1) (l.getD j 0)) := by
  induction d with
  | zero =>
    intro i h1
    refine Ev.step (fun k => by rw [madrigalref6_Chirp.l0]) ?_
    refine ev_neg (by omega) ?_
    rw [show i = l.length by omega]
    exact Ev.now _
  | succ d ih =>
    intro i h1
    refine Ev.step (fun k => by rw [madrigalref6_Chirp.l0]) ?_
    refine ev_pos (by omega) (ev_pos (by omega) ?_)
    rw [rd_nat]
    refine rchirp_l1 c l _ i (by omega) (by simp; omega) _ (i + 1) 0 _ (by omega) ?_
    have h := ih (i + 1) (by omega)
    rw [List.range_succ, List.map_append] at h
    exact h

theorem rchirp_ev (l : List Int) (c : Int) (hl : l.length ≤ 32) : Ev (fun k => madrigalref6_Chirp.f k l c) (chirpW l c) := by
  unfold madrigalref6_Chirp.f chirpW
  refine ev_neg (by omega) ?_
  refine Ev.bind (rclamp_ev _ _ _) ?_
  exact rchirp_l0 _ l (by omega) l.length 0 (by omega)

theorem rfit_l0 (x0 : List Int) (hx : x0.length ≤ 32) (d : Nat) : ∀ (b : List Int), b.length = x0.length → d ≤ 16 → Ev (fun k => madrigalref6_Fit.l0 k x0 b (17 - (d : Int))) (fitL d b) := by
  induction d with
  | zero =>
    intro b h1 h2
    refine Ev.step (fun k => by rw [madrigalref6_Fit.l0]) ?_
    refine ev_neg (by omega) ?_
    refine Ev.bind (rstable_ev b) ?_
    rw [fitL]
    cases stableW b
    · refine ev_neg (by decide) (ev_pos (by omega) (ev_pos (by omega) ?_))
      rw [Int.toNat_natCast, ← h1]
      exact Ev.now _
    · exact ev_pos rfl (Ev.now _)
  | succ d ih =>
    intro b h1 h2
    refine Ev.step (fun k => by rw [madrigalref6_Fit.l0]) ?_
    refine ev_pos (by omega) ?_
    refine Ev.bind (rstable_ev b) ?_
    rw [fitL]
    cases hb : stableW b
    · refine ev_neg (by decide) ?_
      refine Ev.bind (rchirp_ev b _ (by omega)) ?_
      have e : wrap64 (17 - ((d + 1 : Nat) : Int) + 1) = 17 - (d : Int) := by rw [wrap_id] <;> omega
      rw [e, show (17 - ((d + 1 : Nat) : Int)) = 16 - d by omega]
      exact ih _ (by rw [chirpW_length]; exact h1) (by omega)
    · exact ev_pos rfl (Ev.now _)

theorem rfit_ev (l : List Int) : Ev (fun k => madrigalref6_Fit.f k l) (fitW l) := by
  unfold madrigalref6_Fit.f fitW
  by_cases c : (l.length : Int) > 32
  · rw [if_pos c]; exact ev_pos c (Ev.now _)
  · rw [if_neg c]
    refine ev_neg c ?_
    refine Ev.bind (clamped_ev l _ _ (by omega)) ?_
    exact rfit_l0 l (by omega) 16 _ (by simp) (Nat.le_refl _)

end Go.Proofs.Ytgbdkefglmjdoaa.RefB
