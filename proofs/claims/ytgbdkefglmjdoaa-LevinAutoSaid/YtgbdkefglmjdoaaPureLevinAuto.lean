/- LevinAuto: no lag's number is greater, without its sign, than the first one, which is the power. For every list and order. -/
import Derived.Test.YtgbdkefglmjdoaaMAx22
import Derived.Test.YtgbdkefglmjdoaaReach
namespace Go.Proofs.Ytgbdkefglmjdoaa.Pure
open Go.RowKit Go.Proofs.Ytgbdkefglmjdoaa.MA Go.Proofs.YtgbdkefglmjdoaaW.PrintWords Go.Proofs.YtgbdkefglmjdoaaW.PrintLast Go.Proofs.Ytgbdkefglmjdoaa.Core Go.Proofs.Ytgbdkefglmjdoaa.Base Go.Proofs.Ytgbdkefglmjdoaa.Plain Go.Proofs.Ytgbdkefglmjdoaa.Reach

theorem autoW_getD (xs : List Int) (order k : Nat) (h : k ≤ order) : (autoW xs order).getD k 0 = corrW xs k (xs.length - k) k 0 := by
  simp [autoW, List.getD, show k < order + 1 by omega]
theorem autoW_length (xs : List Int) (order : Nat) : (autoW xs order).length = order + 1 := by simp [autoW]

theorem own_bd {xs : List Int} (hb : ∀ i, -32768 ≤ xs.getD i 0 ∧ xs.getD i 0 ≤ 32768) (n d : Nat) : 0 ≤ own xs n d ∧ own xs n d ≤ 1073741824 * d := by
  refine ⟨sumFrom_nonneg _ _ (fun i => sq_nonneg _), ?_⟩
  exact (sumFrom_bd (M := 1073741824) (by omega) (fun i => by
    have := mul_le_of (A := 32768) (B := 32768) (by have := hb i; omega) (show -32768 ≤ xs.getD i 0 ∧ xs.getD i 0 ≤ 32768 from hb _)
    omega) d n).2

theorem zero_lag (xs : List Int) (hb : ∀ i, -32768 ≤ xs.getD i 0 ∧ xs.getD i 0 ≤ 32768) (hl : xs.length ≤ 960) : corrW xs 0 xs.length 0 0 = own xs 0 xs.length := by
  rw [corr_exact hb 0 _ _ (by omega)]; rfl

theorem powerW_sound (l : List Int) (hl : l.length ≤ 960) (h : ∀ i, i < l.length → -32768 ≤ l.getD i 0 ∧ l.getD i 0 ≤ 32767) : powerW l = own (l.map sat) 0 l.length := by
  have e : l.take 960 = l := List.take_of_length_le hl
  have e2 : l.map sat = l := by
    apply List.ext_getElem
    · simp
    · intro i h1 h2
      have := h i h2
      simp only [List.getD, List.getElem?_eq_getElem h2, Option.getD_some] at this
      rw [List.getElem_map]
      exact clamp_id this.1 this.2
  unfold powerW
  rw [e, powW_exact (fun i => by
    by_cases hi : i < l.length
    · have := h i hi; omega
    · rw [getD_out (by omega)]; omega) _ _ _ (by omega) (by omega), e2]
  omega

theorem auto_law_l1 (l : List Int) (r : List Int) (hl : l.length ≤ 960) (hr : 0 < r.length) (h0 : 0 ≤ r.getD 0 0) (hp : (∀ i, i < l.length → -32768 ≤ l.getD i 0 ∧ l.getD i 0 ≤ 32767) → r.getD 0 0 = powerW l) (d : Nat) : ∀ n, n + d = l.length → (∀ i, i < n → -32768 ≤ l.getD i 0 ∧ l.getD i 0 ≤ 32767) →
    Ev (fun k => madrigallaw12_LevinAuto.l1 k l r (n : Int)) true := by
  induction d with
  | zero =>
    intro n h1 h2
    refine Ev.step (fun k => by rw [madrigallaw12_LevinAuto.l1]) ?_
    refine ev_neg (by omega) (ev_pos (by omega) ?_)
    have e := hp (fun i hi => h2 i (by omega))
    rw [show (0 : Int) = ((0 : Nat) : Int) by rfl, rd_nat, e]
    refine Ev.bind (power_ev l) ?_
    simp only [beq_self_eq_true]
    exact Ev.now _
  | succ d ih =>
    intro n h1 h2
    refine Ev.step (fun k => by rw [madrigallaw12_LevinAuto.l1]) ?_
    refine ev_pos (by omega) (ev_pos (by omega) ?_)
    rw [rd_nat, wsucc (by omega), show (0 : Int) = ((0 : Nat) : Int) by rfl, rd_nat]
    have hd : decide (r.getD 0 0 ≥ ((0 : Nat) : Int)) = true := decide_eq_true h0
    by_cases c1 : l.getD n 0 < -32768
    · refine ev_pos c1 (ev_pos (by omega) ?_)
      rw [hd]; exact Ev.now _
    · refine ev_neg c1 ?_
      by_cases c2 : l.getD n 0 > 32767
      · refine ev_pos c2 (ev_pos (by omega) ?_)
        rw [hd]; exact Ev.now _
      · refine ev_neg c2 ?_
        refine ih (n + 1) (by omega) (fun i hi => ?_)
        by_cases hin : i = n
        · subst hin; omega
        · exact h2 i (by omega)

theorem auto_law_l0 (l : List Int) (r : List Int) (hrl : r.length ≤ 1000) (B : Int) (hB : B ≤ 4611686018427387904) (h0 : 0 < r.length → r.getD 0 0 ≤ B) (hle : ∀ i, i < r.length → r.getD i 0 ≤ r.getD 0 0 ∧ -(r.getD i 0) ≤ r.getD 0 0) (hend : Ev (fun k => madrigallaw12_LevinAuto.l1 k l r ((0 : Nat) : Int)) true) (d : Nat) : ∀ n, n + d = r.length →
    Ev (fun k => madrigallaw12_LevinAuto.l0 k l r (n : Int)) true := by
  induction d with
  | zero =>
    intro n h1
    refine Ev.step (fun k => by rw [madrigallaw12_LevinAuto.l0]) ?_
    exact ev_neg (by omega) hend
  | succ d ih =>
    intro n h1
    refine Ev.step (fun k => by rw [madrigallaw12_LevinAuto.l0]) ?_
    have hn := hle n (by omega)
    have hz := h0 (by omega)
    rw [rd_nat, wsucc (by omega), show (rd r 0) = r.getD 0 0 from rd_nat r 0, wrap_id (n := - r.getD n 0) (by omega) (by omega)]
    refine ev_pos (by omega) (ev_pos (by omega) (ev_pos (by omega) (ev_neg (by omega) (ev_neg (by omega) ?_))))
    exact ih (n + 1) (by omega)

theorem LevinAuto : madrigallaw12_LevinAuto.Pure := by
  intro l order _ _ _ _
  refine Ev.rounds ?_
  unfold madrigallaw12_LevinAuto.f madrigallaw12_awake.f
  refine ev_some (ev_pos rfl ?_)
  by_cases h : 960 < l.length ∨ order < 1 ∨ 32 < order
  · refine Ev.bind (auto_bad l order h) ?_
    exact ev_neg (by decide) (Ev.now _)
  · refine Ev.bind (auto_ev l order (by omega) (by omega) (by omega)) ?_
    refine ev_pos rfl ?_
    have hb := sat_getD_bd l
    have hlen : (l.map sat).length = l.length := by simp
    have hz : (autoW (l.map sat) order.toNat).getD 0 0 = own (l.map sat) 0 l.length := by
      rw [autoW_getD _ _ _ (Nat.zero_le _), Nat.sub_zero, zero_lag _ hb (by omega), hlen]
    have hob := own_bd hb 0 l.length
    refine auto_law_l0 l (autoW (l.map sat) order.toNat) (by rw [autoW_length]; omega) 1030792151040 (by omega) (fun _ => by rw [hz]; omega) ?_ ?_ order.toNat 1 (by rw [autoW_length]; omega)
    · intro i hi
      rw [autoW_length] at hi
      rw [hz, autoW_getD _ _ _ (by omega), corr_exact hb _ _ _ (by omega)]
      have := corr_le (l.map sat) i
      rw [hlen] at this ⊢
      exact this
    · refine auto_law_l1 l _ (by omega) (by rw [autoW_length]; omega) (by rw [hz]; exact hob.1) (fun hs => by rw [hz, powerW_sound l (by omega) hs]) l.length 0 (by omega) (fun i hi => by omega)

end Go.Proofs.Ytgbdkefglmjdoaa.Pure
