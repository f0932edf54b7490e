/- What levin.Power and levin.Rest come to: a sum of squares, and what a filter leaves. Condition: the lists are of at most 1000 numbers. -/
import Derived.Test.YtgbdkefglmjdoaaMAx6
import Derived.Test.YtgbdkefglmjdoaaBase
import Derived.Test.YtgbdkefglmjdoaaPlain
namespace Go.Proofs.Ytgbdkefglmjdoaa.Reach
open Go.RowKit Go.Proofs.YtgbdkefglmjdoaaW.PrintWords Go.Proofs.YtgbdkefglmjdoaaW.PrintLast Go.Proofs.YtgbdkefglmjdoaaW.PrintMore Go.Proofs.Ytgbdkefglmjdoaa.Core Go.Proofs.Ytgbdkefglmjdoaa.MA Go.Proofs.Ytgbdkefglmjdoaa.Base Go.Proofs.Ytgbdkefglmjdoaa.Plain

theorem ev_pos {α : Type} {c : Prop} [Decidable c] {f g : Nat → Option α} {r : α} (h : c) (hf : Ev f r) : Ev (fun k => if c then f k else g k) r := by
  simpa only [if_pos h] using hf
theorem ev_neg {α : Type} {c : Prop} [Decidable c] {f g : Nat → Option α} {r : α} (h : ¬ c) (hf : Ev g r) : Ev (fun k => if c then f k else g k) r := by
  simpa only [if_neg h] using hf
theorem ev_some {α β : Type} {x : α} {f : Nat → α → Option β} {r : β} (h : Ev (fun k => f k x) r) : Ev (fun k => (some x).bind (f k)) r := h

theorem take_getD (b : List Int) (m j : Nat) (h : j < m) : (b.take m).getD j 0 = b.getD j 0 := by
  simp [List.getD, h]
theorem rd_nat (xs : List Int) (n : Nat) : rd xs (n : Int) = xs.getD n 0 := by simp [rd]
theorem wsucc {n : Nat} (h : n < 4611686018427387904) : wrap64 ((n : Int) + 1) = ((n + 1 : Nat) : Int) := by rw [wrap_id] <;> omega
theorem wsub {n k : Nat} (h : n < 4611686018427387904) (hk : k ≤ n) : wrap64 ((n : Int) - k) = ((n - k : Nat) : Int) := by rw [wrap_id] <;> omega

theorem sat_ev (a : Int) : Ev (fun k => fix_Sat16.f k a) (sat a) := by
  unfold fix_Sat16.f
  exact Ev.bind (clamp_ev a _ _) (Ev.now _)

theorem sound_l0 (xs : List Int) (hl : xs.length ≤ 1000000) (d : Nat) : ∀ (i : Nat) (out : List Int), i + d = xs.length → out.length = xs.length →
    Ev (fun k => levin_sound.l0 k out xs (xs.length : Int) (i : Int)) (fill (fun j => sat (xs.getD j 0)) out i d) := by
  induction d with
  | zero =>
    intro i out h1 h2
    refine Ev.step (fun k => by rw [levin_sound.l0]) ?_
    refine ev_neg (by omega) ?_
    exact Ev.now _
  | succ d ih =>
    intro i out h1 h2
    refine Ev.step (fun k => by rw [levin_sound.l0]) ?_
    refine ev_pos (by omega) (ev_pos (by omega) (ev_pos (by omega) ?_))
    refine Ev.bind (sat_ev _) ?_
    refine ev_pos (by omega) ?_
    rw [wsucc (by omega), rd_nat]
    exact ih (i + 1) _ (by omega) (by simpa using h2)

theorem sound_ev (xs : List Int) (hl : xs.length ≤ 1000000) : Ev (fun k => levin_sound.f k xs) (xs.map sat) := by
  unfold levin_sound.f
  refine ev_pos (by omega) (ev_pos (by omega) ?_)
  have h := sound_l0 xs hl xs.length 0 (List.replicate ((xs.length : Int)).toNat 0) (by omega) (by simp)
  have e : fill (fun j => sat (xs.getD j 0)) (List.replicate ((xs.length : Int)).toNat 0) 0 xs.length = xs.map sat := by
    have h2 := fill_all (fun j => sat (xs.getD j 0)) (List.replicate ((xs.length : Int)).toNat 0)
    simp only [List.length_replicate, Int.toNat_natCast] at h2
    simp only [Int.toNat_natCast]
    rw [h2, range_getD]
  rw [e] at h
  exact h

theorem power_l0 (xs : List Int) (hl : xs.length ≤ 1000000) (d : Nat) : ∀ (n : Nat) (s : Int), n + d = xs.length →
    Ev (fun k => levin_Power.l0 k s xs (xs.length : Int) (n : Int)) (powW xs d n s) := by
  induction d with
  | zero =>
    intro n s h1
    refine Ev.step (fun k => by rw [levin_Power.l0]) ?_
    exact ev_neg (by omega) (Ev.now _)
  | succ d ih =>
    intro n s h1
    refine Ev.step (fun k => by rw [levin_Power.l0]) ?_
    refine ev_pos (by omega) (ev_pos (by omega) (ev_pos (by omega) ?_))
    refine Ev.bind (clamp_ev _ _ _) ?_
    rw [wsucc (by omega), rd_nat]
    exact ih (n + 1) _ (by omega)

def powerW (l : List Int) : Int := powW (l.take 960) (l.take 960).length 0 0

theorem power_ev (l : List Int) : Ev (fun k => levin_Power.f k l) (powerW l) := by
  unfold levin_Power.f
  have hm : mn (l.length : Int) 960 = ((min l.length 960 : Nat) : Int) := by unfold mn; split <;> omega
  rw [hm]
  refine ev_pos (by omega) (ev_pos (by omega) ?_)
  simp only [Int.toNat_natCast]
  have e : l.take (min l.length 960) = l.take 960 := by
    apply List.ext_getElem?
    intro j
    simp only [List.getElem?_take]
    by_cases h1 : j < l.length
    · by_cases h2 : j < 960
      · rw [if_pos (by omega), if_pos h2]
      · rw [if_neg (by omega), if_neg h2]
    · rw [List.getElem?_eq_none (by omega)]; split <;> split <;> rfl
  rw [e]
  exact power_l0 (l.take 960) (by simp; omega) _ 0 0 (by omega)

/-- what a filter a leaves of sample n: places k, k + 1, .. (d of them) are taken off v -/
def restAt (xs a : List Int) (n : Nat) : Nat → Nat → Int → Int
  | 0, _, v => v
  | d + 1, k, v => restAt xs a n d (k + 1) (if k < n then wrap64 (v - mulI (clamp (a.getD k 0) (-131072) 131072) (xs.getD (n - 1 - k) 0) 12) else v)
def restW (xs a : List Int) : List Int := (List.range xs.length).map fun n => restAt xs a n a.length 0 (xs.getD n 0)

theorem rest_l1 (xs a : List Int) (hl : xs.length ≤ 1000000) (ha : a.length ≤ 1000000) (out : List Int) (n : Nat) (hn : n < xs.length) (ho : n < out.length) (m : Int) (res : List Int × Int) (d : Nat) : ∀ (kk : Nat) (v : Int), kk + d = a.length →
    Ev (fun k => levin_Rest.l0 k xs a (out.set n (restAt xs a n d kk v)) xs m ((n + 1 : Nat) : Int)) res → Ev (fun k => levin_Rest.l1 k xs a out (n : Int) v xs m (n : Int) a (a.length : Int) (kk : Int)) res := by
  induction d with
  | zero =>
    intro kk v h1 hr
    refine Ev.step (fun k => by rw [levin_Rest.l1]) ?_
    refine ev_neg (by omega) (ev_pos (by omega) (ev_pos (by omega) ?_))
    rw [wsucc (by omega)]
    simpa only [Int.toNat_natCast, restAt] using hr
  | succ d ih =>
    intro kk v h1 hr
    refine Ev.step (fun k => by rw [levin_Rest.l1]) ?_
    refine ev_pos (by omega) (ev_pos (by omega) (ev_pos (by omega) ?_))
    have e0 : wrap64 ((n : Int) - 1) = (n : Int) - 1 := wrap_id (by omega) (by omega)
    have e1 : wrap64 ((n : Int) - 1 - kk) = (n : Int) - 1 - kk := wrap_id (by omega) (by omega)
    rw [e0, e1, wsucc (by omega), rd_nat]
    rw [restAt] at hr
    by_cases hkn : kk < n
    · rw [if_pos hkn] at hr
      refine ev_pos (by omega) ?_
      refine Ev.bind (clamp_ev _ _ _) ?_
      refine ev_pos (by omega) (ev_pos (by omega) ?_)
      rw [show (n : Int) - 1 - kk = ((n - 1 - kk : Nat) : Int) by omega, rd_nat]
      refine Ev.bind (mul_ev _ _ _ (by omega) (by omega)) ?_
      exact ih (kk + 1) _ (by omega) hr
    · rw [if_neg hkn] at hr
      refine ev_neg (by omega) ?_
      exact ih (kk + 1) _ (by omega) hr

theorem rest_l0 (xs a : List Int) (hl : xs.length ≤ 1000000) (ha : a.length ≤ 1000000) (d : Nat) : ∀ (n : Nat) (out : List Int), n + d = xs.length → out.length = xs.length →
    Ev (fun k => levin_Rest.l0 k xs a out xs (xs.length : Int) (n : Int)) (fill (fun j => restAt xs a j a.length 0 (xs.getD j 0)) out n d, 0) := by
  induction d with
  | zero =>
    intro n out h1 h2
    refine Ev.step (fun k => by rw [levin_Rest.l0]) ?_
    exact ev_neg (by omega) (Ev.now _)
  | succ d ih =>
    intro n out h1 h2
    refine Ev.step (fun k => by rw [levin_Rest.l0]) ?_
    refine ev_pos (by omega) (ev_pos (by omega) (ev_pos (by omega) ?_))
    rw [rd_nat]
    refine rest_l1 xs a hl ha out n (by omega) (by omega) _ _ a.length 0 _ (by omega) ?_
    exact ih (n + 1) _ (by omega) (by simpa using h2)

theorem rest_ev (l a : List Int) (h1 : l.length ≤ 960) (h2 : a.length ≤ 32) : Ev (fun k => levin_Rest.f k l a) (restW (l.map sat) a, 0) := by
  unfold levin_Rest.f
  refine ev_neg (by omega) ?_
  rw [decide_eq_false (by omega)]
  refine Ev.step (fun k => by rw [levin_Rest.j0]) ?_
  refine ev_neg (by decide) ?_
  refine Ev.bind (sound_ev l (by omega)) ?_
  refine ev_pos (by omega) (ev_pos (by simp; omega) ?_)
  have h := rest_l0 (l.map sat) a (by simp; omega) (by omega) (l.map sat).length 0 (List.replicate ((l.map sat).length : Int).toNat 0) (by omega) (by simp)
  have h4 := fill_all (fun j => restAt (l.map sat) a j a.length 0 ((l.map sat).getD j 0)) (List.replicate ((l.map sat).length : Int).toNat 0)
  rw [List.length_replicate, Int.toNat_natCast] at h4
  rw [Int.toNat_natCast, h4] at h
  rw [Int.toNat_natCast]
  exact h

theorem rest_bad (l a : List Int) (h : 960 < l.length ∨ 32 < a.length) : Ev (fun k => levin_Rest.f k l a) ([], 1) := by
  unfold levin_Rest.f
  by_cases h1 : (l.length : Int) > 960
  · refine ev_pos h1 (Ev.step (fun k => by rw [levin_Rest.j0]) ?_)
    exact ev_pos rfl (Ev.now _)
  · refine ev_neg h1 ?_
    rw [decide_eq_true (show (a.length : Int) > 32 by omega)]
    refine Ev.step (fun k => by rw [levin_Rest.j0]) ?_
    exact ev_pos rfl (Ev.now _)
end Go.Proofs.Ytgbdkefglmjdoaa.Reach
