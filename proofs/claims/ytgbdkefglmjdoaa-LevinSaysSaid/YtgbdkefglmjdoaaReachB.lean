/- What lpc.Stable, Chirp, Fit and levin.Solve come to: the plain forms. Condition: lists of at most 33 numbers, or what the calls answer beyond. -/
import Derived.Test.YtgbdkefglmjdoaaMAx5
import Derived.Test.YtgbdkefglmjdoaaReach
import Derived.Test.YtgbdkefglmjdoaaFilt
namespace Go.Proofs.Ytgbdkefglmjdoaa.ReachB
open Go.RowKit Go.Proofs.YtgbdkefglmjdoaaW.PrintWords Go.Proofs.YtgbdkefglmjdoaaW.PrintLast Go.Proofs.YtgbdkefglmjdoaaW.PrintMore Go.Proofs.Ytgbdkefglmjdoaa.Core Go.Proofs.Ytgbdkefglmjdoaa.MA Go.Proofs.Ytgbdkefglmjdoaa.Base Go.Proofs.Ytgbdkefglmjdoaa.Plain Go.Proofs.Ytgbdkefglmjdoaa.Reach Go.Proofs.Ytgbdkefglmjdoaa.Filt

theorem take_getD (b : List Int) (m j : Nat) (h : j < m) : (b.take m).getD j 0 = b.getD j 0 := by
  simp [List.getD, h]
theorem gset_ne (b : List Int) (i j : Nat) (v : Int) (h : i ≠ j) : (b.set i v).getD j 0 = b.getD j 0 := by
  simp [List.getD, h]
theorem gset_eq (b : List Int) (i : Nat) (v : Int) (h : i < b.length) : (b.set i v).getD i 0 = v := by
  simp [List.getD, h]

theorem stable_l2 (b0 : List Int) (m : Nat) (r dd : Int) (hm : m < b0.length) (hl : b0.length ≤ 1000) (res : Bool) (d : Nat) : ∀ (i : Nat) (b : List Int), i + d = m → b.length = b0.length →
    Ev (fun k => lpc_Stable.l1 k (fill (stabStep r dd b0 m) b i d) (wrap64 ((m : Int) - 1))) res → Ev (fun k => lpc_Stable.l2 k b (m : Int) r dd (b0.take m) (m : Int) (i : Int)) res := by
  have hlt : (b0.take m).length = m := by simp; omega
  induction d with
  | zero =>
    intro i b h1 h2 hr
    refine Ev.step (fun k => by rw [lpc_Stable.l2]) ?_
    exact ev_neg (by omega) hr
  | succ d ih =>
    intro i b h1 h2 hr
    refine Ev.step (fun k => by rw [lpc_Stable.l2]) ?_
    have e0 : wrap64 ((m : Int) - 1) = (m : Int) - 1 := wrap_id (by omega) (by omega)
    have e1 : wrap64 ((m : Int) - 1 - i) = ((m - 1 - i : Nat) : Int) := by rw [wrap_id] <;> omega
    rw [e0, e1, wsucc (by omega), rd_nat, rd_nat, hlt]
    refine ev_pos (by omega) (ev_pos (by omega) (ev_pos (by omega) (ev_pos (by omega) (ev_pos (by omega) ?_))))
    refine Ev.bind (mul_ev _ _ _ (by omega) (by omega)) ?_
    refine Ev.bind (div_ev _ _ _ (by omega) (by omega)) ?_
    refine Ev.bind (clamp_ev _ _ _) ?_
    refine ev_pos (by omega) ?_
    rw [take_getD _ _ _ (by omega), take_getD _ _ _ (by omega)]
    simp only [Int.toNat_natCast]
    exact ih (i + 1) _ (by omega) (by simpa using h2) hr

theorem stable_l1 : ∀ (m : Nat) (b : List Int), m ≤ b.length → b.length ≤ 1000 → Ev (fun k => lpc_Stable.l1 k b (wrap64 ((m : Int) - 1))) (stabW m b) := by
  intro m
  induction m with
  | zero =>
    intro b h1 h2
    have e0 : wrap64 (((0 : Nat) : Int) - 1) = -1 := wrap_id (by omega) (by omega)
    rw [e0]
    refine Ev.step (fun k => by rw [lpc_Stable.l1]) ?_
    exact ev_neg (by omega) (Ev.now _)
  | succ m ih =>
    intro b h1 h2
    have e0 : wrap64 (((m + 1 : Nat) : Int) - 1) = (m : Int) := by rw [wrap_id] <;> omega
    rw [e0]
    refine Ev.step (fun k => by rw [lpc_Stable.l1]) ?_
    rw [rd_nat]
    refine ev_pos (by omega) (ev_pos (by omega) (ev_pos (by omega) ?_))
    rw [stabW]
    by_cases c1 : b.getD m 0 > 16760438
    · rw [if_pos (Or.inl c1)]
      refine ev_pos c1 (Ev.step (fun k => by rw [lpc_Stable.j2]) ?_)
      exact ev_pos rfl (Ev.now _)
    · refine ev_neg c1 ?_
      by_cases c2 : b.getD m 0 < -16760438
      · rw [if_pos (Or.inr c2), decide_eq_true c2]
        refine Ev.step (fun k => by rw [lpc_Stable.j2]) ?_
        exact ev_pos rfl (Ev.now _)
      · rw [if_neg (by omega), decide_eq_false c2]
        refine Ev.step (fun k => by rw [lpc_Stable.j2]) ?_
        refine ev_neg (by decide) ?_
        refine Ev.bind (mul_ev _ _ _ (by omega) (by omega)) ?_
        refine ev_some ?_
        refine ev_pos (by omega) (ev_pos (by omega) ?_)
        refine ev_some ?_
        simp only [Int.toNat_natCast]
        refine ev_pos (by simp; omega) ?_
        rw [List.nil_append]
        refine stable_l2 b m _ _ (by omega) h2 _ m 0 b (by omega) rfl ?_
        exact ih _ (by rw [fill_length]; omega) (by rw [fill_length]; exact h2)

theorem stable_l0 (l : List Int) (hl : l.length ≤ 1000) (d : Nat) : ∀ (i : Nat) (out : List Int), i + d = l.length → out.length = l.length →
    Ev (fun k => lpc_Stable.l0 k out l (l.length : Int) (i : Int)) (stabW l.length (fill (fun j => wrap64 (4096 * clamp (l.getD j 0) (-131072) 131072)) out i d)) := by
  induction d with
  | zero =>
    intro i out h1 h2
    refine Ev.step (fun k => by rw [lpc_Stable.l0]) ?_
    refine ev_neg (by omega) ?_
    rw [fill, ← h2]
    exact stable_l1 out.length out (Nat.le_refl _) (by omega)
  | succ d ih =>
    intro i out h1 h2
    refine Ev.step (fun k => by rw [lpc_Stable.l0]) ?_
    refine ev_pos (by omega) (ev_pos (by omega) (ev_pos (by omega) ?_))
    refine Ev.bind (clamp_ev _ _ _) ?_
    refine ev_pos (by omega) ?_
    rw [wsucc (by omega), rd_nat]
    exact ih (i + 1) _ (by omega) (by simpa using h2)

theorem fill_rep (f : Int → Int) (l : List Int) : fill (fun j => f (l.getD j 0)) (List.replicate l.length 0) 0 l.length = l.map f := by
  have h := fill_all (fun j => f (l.getD j 0)) (List.replicate l.length 0)
  rw [List.length_replicate] at h
  rw [h, range_getD]

theorem stable_ev (l : List Int) : Ev (fun k => lpc_Stable.f k l) (stableW l) := by
  unfold lpc_Stable.f stableW
  by_cases c : (l.length : Int) > 32
  · rw [if_pos c]; exact ev_pos c (Ev.now _)
  · rw [if_neg c]
    refine ev_neg c (ev_pos (by omega) (ev_pos (by omega) ?_))
    have h := stable_l0 l (by omega) l.length 0 (List.replicate (l.length : Int).toNat 0) (by omega) (by simp)
    rw [Int.toNat_natCast, fill_rep (fun v => wrap64 (4096 * clamp v (-131072) 131072))] at h
    rw [Int.toNat_natCast]
    exact h

theorem chirp_l1 (c : Int) (l out : List Int) (n : Nat) (hn : n < out.length) (m : Int) (hl : out.length ≤ 1000) (res : List Int) (d : Nat) : ∀ (i : Nat) (v : Int), i + d = n + 1 →
    Ev (fun k => lpc_Chirp.l0 k c (out.set n (chirpN c d v)) l m ((n + 1 : Nat) : Int)) res → Ev (fun k => lpc_Chirp.l1 k c out (n : Int) v l m (n : Int) ((n + 1 : Nat) : Int) (i : Int)) res := by
  induction d with
  | zero =>
    intro i v h1 hr
    refine Ev.step (fun k => by rw [lpc_Chirp.l1]) ?_
    refine ev_neg (by omega) (ev_pos (by omega) (ev_pos (by omega) ?_))
    rw [wsucc (by omega)]
    exact hr
  | succ d ih =>
    intro i v h1 hr
    refine Ev.step (fun k => by rw [lpc_Chirp.l1]) ?_
    refine ev_pos (by omega) ?_
    refine Ev.bind (mul_ev _ _ _ (by omega) (by omega)) ?_
    rw [wsucc (by omega)]
    exact ih (i + 1) _ (by omega) hr

theorem chirp_l0 (c : Int) (l : List Int) (hl : l.length ≤ 1000) (d : Nat) : ∀ (i : Nat) (out : List Int), i + d = l.length → out.length = l.length →
    Ev (fun k => lpc_Chirp.l0 k c out l (l.length : Int) (i : Int)) (fill (fun j => chirpN c (j + 1) (l.getD j 0)) out i d) := by
  induction d with
  | zero =>
    intro i out h1 h2
    refine Ev.step (fun k => by rw [lpc_Chirp.l0]) ?_
    exact ev_neg (by omega) (Ev.now _)
  | succ d ih =>
    intro i out h1 h2
    refine Ev.step (fun k => by rw [lpc_Chirp.l0]) ?_
    refine ev_pos (by omega) (ev_pos (by omega) (ev_pos (by omega) ?_))
    rw [wsucc (by omega), rd_nat]
    refine chirp_l1 c l out i (by omega) _ (by omega) _ (i + 1) 0 _ (by omega) ?_
    exact ih (i + 1) _ (by omega) (by simpa using h2)

theorem chirp_ev (l : List Int) (c : Int) (hl : l.length ≤ 32) : Ev (fun k => lpc_Chirp.f k l c) (chirpW l c) := by
  unfold lpc_Chirp.f chirpW
  refine ev_neg (by omega) ?_
  refine Ev.bind (clamp_ev _ _ _) ?_
  refine ev_pos (by omega) (ev_pos (by omega) ?_)
  have h := chirp_l0 (clamp c 0 65536) l (by omega) l.length 0 (List.replicate (l.length : Int).toNat 0) (by omega) (by simp)
  have h2 := fill_all (fun j => chirpN (clamp c 0 65536) (j + 1) (l.getD j 0)) (List.replicate l.length 0)
  rw [List.length_replicate] at h2
  rw [Int.toNat_natCast, h2] at h
  rw [Int.toNat_natCast]
  exact h

theorem fit_l1 (d : Nat) : ∀ (b : List Int), b.length ≤ 32 → d ≤ 16 → Ev (fun k => lpc_Fit.l1 k b (17 - (d : Int))) (fitL d b) := by
  induction d with
  | zero =>
    intro b h1 h2
    refine Ev.step (fun k => by rw [lpc_Fit.l1]) ?_
    refine ev_neg (by omega) ?_
    refine Ev.bind (stable_ev b) ?_
    rw [fitL]
    cases stableW b
    · exact ev_neg (by decide) (Ev.now _)
    · exact ev_pos rfl (Ev.now _)
  | succ d ih =>
    intro b h1 h2
    refine Ev.step (fun k => by rw [lpc_Fit.l1]) ?_
    refine ev_pos (by omega) ?_
    have hs := stable_ev b
    refine Ev.bind hs ?_
    rw [fitL]
    cases hb : stableW b
    · refine ev_neg (by decide) ?_
      refine Ev.bind (chirp_ev b _ h1) ?_
      have e : wrap64 (17 - ((d + 1 : Nat) : Int) + 1) = 17 - (d : Int) := by rw [wrap_id] <;> omega
      rw [e, show (17 - ((d + 1 : Nat) : Int)) = 16 - d by omega]
      exact ih _ (by rw [chirpW_length]; exact h1) (by omega)
    · refine ev_pos rfl ?_
      refine Ev.bind hs ?_
      rw [hb]
      exact ev_pos rfl (Ev.now _)

theorem fit_l0 (l : List Int) (hl : l.length ≤ 32) (d : Nat) : ∀ (i : Nat) (out : List Int), i + d = l.length → out.length = l.length →
    Ev (fun k => lpc_Fit.l0 k out l (l.length : Int) (i : Int)) (fitL 16 (fill (fun j => clamp (l.getD j 0) (-131072) 131072) out i d)) := by
  induction d with
  | zero =>
    intro i out h1 h2
    refine Ev.step (fun k => by rw [lpc_Fit.l0]) ?_
    refine ev_neg (by omega) ?_
    exact fit_l1 16 out (by omega) (Nat.le_refl _)
  | succ d ih =>
    intro i out h1 h2
    refine Ev.step (fun k => by rw [lpc_Fit.l0]) ?_
    refine ev_pos (by omega) (ev_pos (by omega) (ev_pos (by omega) ?_))
    refine Ev.bind (clamp_ev _ _ _) ?_
    refine ev_pos (by omega) ?_
    rw [wsucc (by omega), rd_nat]
    exact ih (i + 1) _ (by omega) (by simpa using h2)

theorem fit_ev (l : List Int) : Ev (fun k => lpc_Fit.f k l) (fitW l) := by
  unfold lpc_Fit.f fitW
  by_cases c : (l.length : Int) > 32
  · rw [if_pos c]; exact ev_pos c (Ev.now _)
  · rw [if_neg c]
    refine ev_neg c (ev_pos (by omega) (ev_pos (by omega) ?_))
    have h := fit_l0 l (by omega) l.length 0 (List.replicate (l.length : Int).toNat 0) (by omega) (by simp)
    rw [Int.toNat_natCast, fill_rep (fun v => clamp v (-131072) 131072)] at h
    rw [Int.toNat_natCast]
    exact h

theorem fill_map (f : Int → Int) (d : Nat) : ∀ (i : Nat) (xs ys : List Int), i + d = xs.length → ys.length = xs.length → (∀ j, i ≤ j → ys.getD j 0 = xs.getD j 0) → (∀ j, j < i → ys.getD j 0 = f (xs.getD j 0)) → fill (fun j => f (xs.getD j 0)) ys i d = xs.map f := by
  intro i xs ys h1 h2 h3 h4
  apply List.ext_getElem?
  intro j
  rw [fill_get, List.getElem?_map]
  by_cases hj : j < xs.length
  · by_cases hij : i ≤ j
    · rw [if_pos ⟨hij, by omega, by omega⟩, List.getElem?_eq_getElem hj]
      simp [List.getD, hj]
    · rw [if_neg (by omega)]
      have := h4 j (by omega)
      simp only [List.getD, List.getElem?_eq_getElem (show j < ys.length by omega), List.getElem?_eq_getElem hj, Option.getD_some] at this
      rw [List.getElem?_eq_getElem (show j < ys.length by omega), List.getElem?_eq_getElem hj, this]; rfl
  · rw [if_neg (by omega), List.getElem?_eq_none (by omega), List.getElem?_eq_none (by omega)]; rfl

theorem scaled_l4 (x0 : List Int) (hl : x0.length ≤ 1000) (res : List Int) (d : Nat) : ∀ (i : Nat) (y : List Int), i + d = x0.length → y.length = x0.length → (∀ j, i ≤ j → y.getD j 0 = x0.getD j 0) → (∀ j, j < i → y.getD j 0 = x0.getD j 0 / 2) →
    Ev (fun k => levin_scaled.l3 k (halveL x0)) res → Ev (fun k => levin_scaled.l4 k y (x0.length : Int) (i : Int)) res := by
  induction d with
  | zero =>
    intro i y h1 h2 h3 h4 hr
    refine Ev.step (fun k => by rw [levin_scaled.l4]) ?_
    refine ev_neg (by omega) ?_
    have := fill_map (· / 2) 0 i x0 y h1 h2 h3 h4
    rw [fill] at this
    rw [this]; exact hr
  | succ d ih =>
    intro i y h1 h2 h3 h4 hr
    refine Ev.step (fun k => by rw [levin_scaled.l4]) ?_
    rw [wsucc (by omega), rd_nat, h3 i (Nat.le_refl _)]
    refine ev_pos (by omega) (ev_pos (by omega) (ev_pos (by omega) ?_))
    simp only [Int.toNat_natCast]
    refine ih (i + 1) _ (by omega) (by simpa using h2) (fun j hj => ?_) (fun j hj => ?_) hr
    · rw [gset_ne _ _ _ _ (by omega)]; exact h3 j (by omega)
    · by_cases hji : j = i
      · subst hji; exact gset_eq _ _ _ (by omega)
      · rw [gset_ne _ _ _ _ (by omega)]; exact h4 j (by omega)

theorem scaled_l3 (f : Nat) : ∀ (x : List Int), 0 < x.length → x.length ≤ 1000 → (halveW f x).getD 0 0 < 1073741824 →
    Ev (fun k => levin_scaled.l3 k x) ((halveW f x).set 0 (wrap64 ((halveW f x).getD 0 0 + wrap64 (wrap64 (Int.tdiv ((halveW f x).getD 0 0) 1024) + 1)))) := by
  induction f with
  | zero =>
    intro x h1 h2 h3
    rw [halveW] at h3 ⊢
    refine Ev.step (fun k => by rw [levin_scaled.l3]) ?_
    rw [show rd x 0 = x.getD 0 0 from rd_nat x 0]
    exact ev_pos (by omega) (ev_neg (by omega) (Ev.now _))
  | succ f ih =>
    intro x h1 h2 h3
    rw [halveW] at h3 ⊢
    refine Ev.step (fun k => by rw [levin_scaled.l3]) ?_
    rw [show rd x 0 = x.getD 0 0 from rd_nat x 0]
    refine ev_pos (by omega) ?_
    by_cases c : x.getD 0 0 ≥ 1073741824
    · rw [if_pos c] at h3 ⊢
      refine ev_pos c ?_
      refine scaled_l4 x h2 _ x.length 0 x (by omega) rfl (fun _ _ => rfl) (fun j hj => by omega) ?_
      exact ih _ (by simpa [halveL] using h1) (by simpa [halveL] using h2) h3
    · rw [if_neg c] at h3 ⊢
      exact ev_neg c (Ev.now _)

theorem scaled_l2 (x0 : List Int) (hl : x0.length ≤ 1000) (res : List Int) (d : Nat) : ∀ (i : Nat) (y : List Int), i + d = x0.length → y.length = x0.length → (∀ j, i ≤ j → y.getD j 0 = x0.getD j 0) → (∀ j, j < i → y.getD j 0 = clamp (wrap64 (2 * x0.getD j 0)) (-1125899906842624) 1125899906842624) →
    Ev (fun k => levin_scaled.l1 k (dblL x0)) res → Ev (fun k => levin_scaled.l2 k y (x0.length : Int) (i : Int)) res := by
  induction d with
  | zero =>
    intro i y h1 h2 h3 h4 hr
    refine Ev.step (fun k => by rw [levin_scaled.l2]) ?_
    refine ev_neg (by omega) ?_
    have := fill_map (fun v => clamp (wrap64 (2 * v)) (-1125899906842624) 1125899906842624) 0 i x0 y h1 h2 h3 h4
    rw [fill] at this
    rw [this]; exact hr
  | succ d ih =>
    intro i y h1 h2 h3 h4 hr
    refine Ev.step (fun k => by rw [levin_scaled.l2]) ?_
    rw [wsucc (by omega), rd_nat, h3 i (Nat.le_refl _)]
    refine ev_pos (by omega) (ev_pos (by omega) (ev_pos (by omega) ?_))
    refine Ev.bind (clamp_ev _ _ _) ?_
    simp only [Int.toNat_natCast]
    refine ih (i + 1) _ (by omega) (by simpa using h2) (fun j hj => ?_) (fun j hj => ?_) hr
    · rw [gset_ne _ _ _ _ (by omega)]; exact h3 j (by omega)
    · by_cases hji : j = i
      · subst hji; exact gset_eq _ _ _ (by omega)
      · rw [gset_ne _ _ _ _ (by omega)]; exact h4 j (by omega)

theorem scaled_l1 (res : List Int) (f : Nat) : ∀ (x : List Int), 0 < x.length → x.length ≤ 1000 → 536870912 ≤ (dblW f x).getD 0 0 →
    Ev (fun k => levin_scaled.l3 k (dblW f x)) res → Ev (fun k => levin_scaled.l1 k x) res := by
  induction f with
  | zero =>
    intro x h1 h2 h3 hr
    rw [dblW] at h3 hr
    refine Ev.step (fun k => by rw [levin_scaled.l1]) ?_
    rw [show rd x 0 = x.getD 0 0 from rd_nat x 0]
    exact ev_pos (by omega) (ev_neg (by omega) hr)
  | succ f ih =>
    intro x h1 h2 h3 hr
    rw [dblW] at h3 hr
    refine Ev.step (fun k => by rw [levin_scaled.l1]) ?_
    rw [show rd x 0 = x.getD 0 0 from rd_nat x 0]
    refine ev_pos (by omega) ?_
    by_cases c : x.getD 0 0 < 536870912
    · rw [if_pos c] at h3 hr
      refine ev_pos c ?_
      refine scaled_l2 x h2 _ x.length 0 x (by omega) rfl (fun _ _ => rfl) (fun j hj => by omega) ?_
      exact ih _ (by simpa [dblL] using h1) (by simpa [dblL] using h2) h3 hr
    · rw [if_neg c] at h3 hr
      exact ev_neg c hr

theorem scaled_l0 (l : List Int) (hl : l.length ≤ 1000) (res : List Int) (d : Nat) : ∀ (i : Nat) (out : List Int), i + d = l.length → out.length = l.length →
    Ev (fun k => levin_scaled.l1 k (fill (fun j => clamp (l.getD j 0) (-2199023255552) 2199023255552) out i d)) res → Ev (fun k => levin_scaled.l0 k out l (l.length : Int) (i : Int)) res := by
  induction d with
  | zero =>
    intro i out h1 h2 hr
    refine Ev.step (fun k => by rw [levin_scaled.l0]) ?_
    exact ev_neg (by omega) hr
  | succ d ih =>
    intro i out h1 h2 hr
    refine Ev.step (fun k => by rw [levin_scaled.l0]) ?_
    refine ev_pos (by omega) (ev_pos (by omega) (ev_pos (by omega) ?_))
    refine Ev.bind (clamp_ev _ _ _) ?_
    refine ev_pos (by omega) ?_
    rw [wsucc (by omega), rd_nat]
    exact ih (i + 1) _ (by omega) (by simpa using h2) hr

/-- What is scaled has ended: its first number is from 2^29 on and below 2^30. -/
theorem scaled_mid (l : List Int) (hl : 0 < l.length) (h1 : 1 ≤ l.getD 0 0) :
    536870912 ≤ (dblW 64 (l.map fun v => clamp v (-2199023255552) 2199023255552)).getD 0 0 ∧ (halveW 64 (dblW 64 (l.map fun v => clamp v (-2199023255552) 2199023255552))).getD 0 0 < 1073741824 := by
  have hc : 1 ≤ (l.map fun v => clamp v (-2199023255552) 2199023255552).getD 0 0 := by
    rw [getD_map hl]; unfold clamp; split; omega; split; omega; split <;> omega
  refine ⟨dbl64 _ (by simpa using hl) hc, ?_⟩
  refine halve_ends 64 _ (by rw [dblW_length]; simpa using hl) ?_
  have hb : ∀ (f : Nat) (x : List Int), 0 < x.length → x.getD 0 0 ≤ 1125899906842624 → (dblW f x).getD 0 0 ≤ 1125899906842624 := by
    intro f
    induction f with
    | zero => intro x _ h; simpa [dblW] using h
    | succ f ih =>
      intro x hx h
      rw [dblW]; split
      · refine ih _ (by simpa [dblL] using hx) ?_
        rw [dblL, getD_map hx]
        exact (clamp_bd (by omega)).2
      · exact h
  have h2 := hb 64 (l.map fun v => clamp v (-2199023255552) 2199023255552) (by simpa using hl) (by
    rw [getD_map hl]; have := (clamp_bd (a := l.getD 0 0) (lo := -2199023255552) (hi := 2199023255552) (by omega)).2; omega)
  have : (1073741824 : Int) * 2 ^ 64 = 19807040628566084398385987584 := by decide
  rw [this]; omega

theorem scaled_ev (l : List Int) (hl : 0 < l.length) (h2 : l.length ≤ 1000) (h1 : 1 ≤ l.getD 0 0) : Ev (fun k => levin_scaled.f k l) (scaledW l) := by
  unfold levin_scaled.f scaledW
  refine ev_pos (by omega) (ev_pos (by omega) ?_)
  have hm := scaled_mid l hl h1
  refine scaled_l0 l h2 _ l.length 0 _ (by omega) (by simp) ?_
  rw [Int.toNat_natCast, fill_rep (fun v => clamp v (-2199023255552) 2199023255552)]
  refine scaled_l1 _ 64 _ (by simpa using hl) (by simpa using h2) hm.1 ?_
  exact scaled_l3 64 _ (by rw [dblW_length]; simpa using hl) (by rw [dblW_length]; simpa using h2) hm.2
end Go.Proofs.Ytgbdkefglmjdoaa.ReachB
