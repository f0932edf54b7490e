/- The shapes of blocks, of the program and of the reference: one plain form. Condition: blocks that are good. -/
import Derived.Test.YtnliianjljgcbaaMAx7
import Derived.Test.YtnliianjljgcbaaMAx2
import Derived.Test.YtnliianjljgcbaaWin
namespace Go.Proofs.Ytnliianjljgcbaa.Shape
open Go.RowKit Go.Proofs.YtnliianjljgcbaaW.PrintWords Go.Proofs.YtnliianjljgcbaaW.PrintLast Go.Proofs.YtnliianjljgcbaaW.PrintMore Go.Proofs.Ytnliianjljgcbaa.Core Go.Proofs.Ytnliianjljgcbaa.MA Go.Proofs.Ytnliianjljgcbaa.Base Go.Proofs.Ytnliianjljgcbaa.RefA Go.Proofs.Ytnliianjljgcbaa.Cos Go.Proofs.Ytnliianjljgcbaa.Win

def goodW (n l : Int) : Bool := decide (4 ≤ n ∧ n ≤ 480 ∧ 2 ≤ l ∧ l ≤ n ∧ Int.tmod (n - l) 2 = 0)

theorem good_f (n l : Int) (_hl : -9223372036854775808 ≤ l) : mdct_Good.f n l = some (goodW n l) := by
  unfold mdct_Good.f goodW
  by_cases h1 : n ≥ 4
  · rw [if_pos h1]
    by_cases h2 : n ≤ 480
    · rw [if_pos h2]
      by_cases h3 : l ≥ 2
      · rw [if_pos h3]
        by_cases h4 : l ≤ n
        · rw [if_pos h4, wrap_id (by omega) (by omega)]
          by_cases h5 : Int.tmod (n - l) 2 = 0
          · rw [decide_eq_true (show 4 ≤ n ∧ n ≤ 480 ∧ 2 ≤ l ∧ l ≤ n ∧ Int.tmod (n - l) 2 = 0 from ⟨h1, h2, h3, h4, h5⟩), h5]; rfl
          · rw [decide_eq_false (fun h => h5 h.2.2.2.2)]; simp [h5]
        · rw [if_neg h4, decide_eq_false (fun h => h4 h.2.2.2.1)]
      · rw [if_neg h3, decide_eq_false (fun h => h3 h.2.2.1)]
    · rw [if_neg h2, decide_eq_false (fun h => h2 h.2.1)]
  · rw [if_neg h1, decide_eq_false (fun h => h1 h.1)]
theorem rgood_f (n l : Int) (hl : -9223372036854775808 ≤ l) : madrigalref10_GoodBlock.f n l = some (goodW n l) := good_f n l hl

theorem good_nat {n l : Int} (h : goodW n l = true) : ∃ N L Z : Nat, n = N ∧ l = L ∧ 2 * Z + L = N ∧ N ≤ 480 ∧ 2 ≤ L ∧ 4 ≤ N := by
  unfold goodW at h
  obtain ⟨h1, h2, h3, h4, h5⟩ := of_decide_eq_true h
  rw [Int.tmod_eq_emod_of_nonneg (by omega)] at h5
  exact ⟨n.toNat, l.toNat, ((n - l) / 2).toNat, by omega, by omega, by omega, by omega, by omega, by omega⟩

def put2 (w : List Int) (n z : Nat) : List Int → Nat → Nat → List Int
  | xs, _, 0 => xs
  | xs, i, d + 1 => put2 w n z ((xs.set (z + i) (w.getD i 0)).set (2 * n - 1 - z - i) (w.getD i 0)) (i + 1) d

theorem put2_length (w : List Int) (n z : Nat) : ∀ (d i : Nat) (xs : List Int), (put2 w n z xs i d).length = xs.length
  | 0, _, _ => rfl
  | d + 1, i, xs => by rw [put2, put2_length w n z d]; simp

def shapeN (n l z : Nat) : List Int := fill (fun _ => 32768) (put2 (windowW l) n z (List.replicate (2 * n) 0) 0 l) (z + l) (2 * n - z - l - (z + l))

theorem windowW_len {l : Nat} (h1 : 1 ≤ l) (h2 : l ≤ 480) : (windowW (l : Int)).length = l := by
  unfold windowW
  rw [if_neg (by omega)]
  simp

section
variable (n l z : Nat) (hz : 2 * z + l = n) (hn : n ≤ 480) (hl : 2 ≤ l)
include hz hn hl

theorem shape_l1 (d : Nat) : ∀ (i : Nat) (xs : List Int), i + d = 2 * n - z - l → z + l ≤ i → xs.length = 2 * n →
    Ev (fun k => mdct_Shape.l1 k (n : Int) (l : Int) xs (z : Int) (i : Int)) (fill (fun _ => 32768) xs i d, 0) := by
  have e1 : wrap64 (2 * (n : Int)) = 2 * n := wrap_id (by omega) (by omega)
  have e2 : wrap64 (2 * (n : Int) - z) = 2 * n - z := wrap_id (by omega) (by omega)
  have e3 : wrap64 (2 * (n : Int) - z - l) = 2 * n - z - l := wrap_id (by omega) (by omega)
  induction d with
  | zero =>
    intro i xs h1 h2 h3
    refine Ev.step (fun k => by rw [mdct_Shape.l1, e1, e2, e3]) ?_
    exact ev_neg (by omega) (Ev.now _)
  | succ d ih =>
    intro i xs h1 h2 h3
    refine Ev.step (fun k => by rw [mdct_Shape.l1, e1, e2, e3]) ?_
    refine ev_pos (by omega) (ev_pos (by omega) (ev_pos (by omega) ?_))
    rw [wsucc (by omega)]
    exact ih (i + 1) _ (by omega) (by omega) (by simpa using h3)

theorem shape_l0 (w : List Int) (hw : w.length = l) (d : Nat) : ∀ (i : Nat) (xs : List Int), i + d = l → xs.length = 2 * n →
    Ev (fun k => mdct_Shape.l0 k (n : Int) (l : Int) xs (z : Int) w (w.length : Int) (i : Int)) (fill (fun _ => 32768) (put2 w n z xs i d) (z + l) (2 * n - z - l - (z + l)), 0) := by
  have e1 : wrap64 (2 * (n : Int)) = 2 * n := wrap_id (by omega) (by omega)
  have e2 : wrap64 (2 * (n : Int) - 1) = 2 * n - 1 := wrap_id (by omega) (by omega)
  have e3 : wrap64 (2 * (n : Int) - 1 - z) = 2 * n - 1 - z := wrap_id (by omega) (by omega)
  induction d with
  | zero =>
    intro i xs h1 h2
    refine Ev.step (fun k => by rw [mdct_Shape.l0, e1, e2, e3]) ?_
    refine ev_neg (by omega) ?_
    rw [show wrap64 ((z : Int) + l) = ((z + l : Nat) : Int) from (wrap_id (by omega) (by omega)).trans (by omega)]
    exact shape_l1 n l z hz hn hl (2 * n - z - l - (z + l)) (z + l) xs (by omega) (by omega) h2
  | succ d ih =>
    intro i xs h1 h2
    refine Ev.step (fun k => by rw [mdct_Shape.l0, e1, e2, e3]) ?_
    have e4 : wrap64 ((z : Int) + i) = ((z + i : Nat) : Int) := by clear e1 e2 e3 ih; rw [wrap_id] <;> omega
    have e5 : wrap64 (2 * (n : Int) - 1 - z - i) = ((2 * n - 1 - z - i : Nat) : Int) := by clear e1 e2 e3 e4 ih; rw [wrap_id] <;> omega
    have e6 : wrap64 ((i : Int) + 1) = ((i + 1 : Nat) : Int) := by clear e1 e2 e3 e4 e5 ih; exact wsucc (by omega)
    rw [e4, e5, e6, rd_nat, Int.toNat_natCast, Int.toNat_natCast]
    clear e1 e2 e3 e4 e5 e6
    have q1 : z + i < xs.length := by omega
    have q2 : 2 * n - 1 - z - i < xs.length := by omega
    have q3 : i < w.length := by omega
    generalize hA : z + i = A at *
    generalize hB : 2 * n - 1 - z - i = B at *
    refine ev_pos (Int.ofNat_lt.2 q3) (ev_pos (Int.natCast_nonneg _) (ev_pos (Int.ofNat_lt.2 q3) (ev_pos (Int.natCast_nonneg _) (ev_pos (Int.ofNat_lt.2 q1) (ev_pos (Int.natCast_nonneg _) (ev_pos (Int.ofNat_lt.2 q2) ?_))))))
    have hr := ih (i + 1) ((xs.set A (w.getD i 0)).set B (w.getD i 0)) (by omega) (by simpa using h2)
    rw [put2, hA, hB]
    exact hr

theorem rshape_l1 (d : Nat) : ∀ (i : Nat) (xs : List Int), i + d = 2 * n - z - l → z + l ≤ i → xs.length = 2 * n →
    Ev (fun k => madrigalref10_Shape.l1 k (n : Int) (l : Int) xs (z : Int) (i : Int)) (fill (fun _ => 32768) xs i d) := by
  have e1 : wrap64 (2 * (n : Int)) = 2 * n := wrap_id (by omega) (by omega)
  have e2 : wrap64 (2 * (n : Int) - z) = 2 * n - z := wrap_id (by omega) (by omega)
  have e3 : wrap64 (2 * (n : Int) - z - l) = 2 * n - z - l := wrap_id (by omega) (by omega)
  induction d with
  | zero =>
    intro i xs h1 h2 h3
    refine Ev.step (fun k => by rw [madrigalref10_Shape.l1, e1, e2, e3]) ?_
    exact ev_neg (by omega) (Ev.now _)
  | succ d ih =>
    intro i xs h1 h2 h3
    refine Ev.step (fun k => by rw [madrigalref10_Shape.l1, e1, e2, e3]) ?_
    refine ev_pos (by omega) (ev_pos (by omega) (ev_pos (by omega) ?_))
    rw [wsucc (by omega)]
    exact ih (i + 1) _ (by omega) (by omega) (by simpa using h3)

theorem rshape_l0 (w : List Int) (hw : w.length = l) (d : Nat) : ∀ (i : Nat) (xs : List Int), i + d = l → xs.length = 2 * n →
    Ev (fun k => madrigalref10_Shape.l0 k (n : Int) (l : Int) w xs (z : Int) (i : Int)) (fill (fun _ => 32768) (put2 w n z xs i d) (z + l) (2 * n - z - l - (z + l))) := by
  have e1 : wrap64 (2 * (n : Int)) = 2 * n := wrap_id (by omega) (by omega)
  have e2 : wrap64 (2 * (n : Int) - 1) = 2 * n - 1 := wrap_id (by omega) (by omega)
  have e3 : wrap64 (2 * (n : Int) - 1 - z) = 2 * n - 1 - z := wrap_id (by omega) (by omega)
  induction d with
  | zero =>
    intro i xs h1 h2
    refine Ev.step (fun k => by rw [madrigalref10_Shape.l0, e1, e2, e3]) ?_
    refine ev_neg (by omega) ?_
    rw [show wrap64 ((z : Int) + l) = ((z + l : Nat) : Int) from (wrap_id (by omega) (by omega)).trans (by omega)]
    exact rshape_l1 n l z hz hn hl (2 * n - z - l - (z + l)) (z + l) xs (by omega) (by omega) h2
  | succ d ih =>
    intro i xs h1 h2
    refine Ev.step (fun k => by rw [madrigalref10_Shape.l0, e1, e2, e3]) ?_
    have e4 : wrap64 ((z : Int) + i) = ((z + i : Nat) : Int) := by clear e1 e2 e3 ih; rw [wrap_id] <;> omega
    have e5 : wrap64 (2 * (n : Int) - 1 - z - i) = ((2 * n - 1 - z - i : Nat) : Int) := by clear e1 e2 e3 e4 ih; rw [wrap_id] <;> omega
    have e6 : wrap64 ((i : Int) + 1) = ((i + 1 : Nat) : Int) := by clear e1 e2 e3 e4 e5 ih; exact wsucc (by omega)
    rw [e4, e5, e6, rd_nat, Int.toNat_natCast, Int.toNat_natCast]
    clear e1 e2 e3 e4 e5 e6
    have q1 : z + i < xs.length := by omega
    have q2 : 2 * n - 1 - z - i < xs.length := by omega
    have q3 : i < w.length := by omega
    generalize hA : z + i = A at *
    generalize hB : 2 * n - 1 - z - i = B at *
    refine ev_pos (Int.ofNat_lt.2 (by omega)) (ev_pos (Int.natCast_nonneg _) (ev_pos (Int.ofNat_lt.2 q3) (ev_pos (Int.natCast_nonneg _) (ev_pos (Int.ofNat_lt.2 q1) (ev_pos (Int.natCast_nonneg _) (ev_pos (Int.ofNat_lt.2 q2) ?_))))))
    have hr := ih (i + 1) ((xs.set A (w.getD i 0)).set B (w.getD i 0)) (by omega) (by simpa using h2)
    rw [put2, hA, hB]
    exact hr

theorem half_z : wrap64 (Int.tdiv (wrap64 ((n : Int) - l)) 2) = z := by
  rw [wrap_id (n := (n : Int) - l) (by omega) (by omega), show (n : Int) - l = 2 * z by omega, Int.mul_tdiv_cancel_left _ (by decide)]
  exact wrap_id (by omega) (by omega)

theorem shape_ev (hg : goodW n l = true) : Ev (fun k => mdct_Shape.f k (n : Int) (l : Int)) (shapeN n l z, 0) := by
  unfold mdct_Shape.f
  have e1 : wrap64 (2 * (n : Int)) = ((2 * n : Nat) : Int) := by rw [wrap_id] <;> omega
  refine ev_bind' ((good_f n l (by omega)).trans (by rw [hg])) (ev_pos rfl ?_)
  rw [e1, half_z n l z hz hn hl, Int.toNat_natCast]
  refine ev_pos (by omega) (ev_pos (by omega) (Ev.bind (window_ev l) ?_))
  have hw := windowW_len (l := l) (by omega) (by omega)
  exact shape_l0 n l z hz hn hl (windowW l) hw l 0 (List.replicate (2 * n) 0) (by omega) (by simp)

theorem rshape_ev : Ev (fun k => madrigalref10_Shape.f k (n : Int) (l : Int)) (shapeN n l z) := by
  unfold madrigalref10_Shape.f
  have e1 : wrap64 (2 * (n : Int)) = ((2 * n : Nat) : Int) := by rw [wrap_id] <;> omega
  refine Ev.bind (rwindow_ev l) ?_
  rw [e1, half_z n l z hz hn hl, Int.toNat_natCast]
  refine ev_pos (by omega) (ev_pos (by omega) ?_)
  have hw := windowW_len (l := l) (by omega) (by omega)
  exact rshape_l0 n l z hz hn hl (windowW l) hw l 0 (List.replicate (2 * n) 0) (by omega) (by simp)

omit hz hn hl in
theorem shapeN_length : (shapeN n l z).length = 2 * n := by
  unfold shapeN
  rw [fill_length, put2_length]; simp
end

theorem shape_bad (n l : Int) (hl : -9223372036854775808 ≤ l) (hg : goodW n l = false) : Ev (fun k => mdct_Shape.f k n l) ([], 1) := by
  unfold mdct_Shape.f
  exact ev_bind' ((good_f n l hl).trans (by rw [hg])) (ev_neg (by decide) (Ev.now _))

end Go.Proofs.Ytnliianjljgcbaa.Shape
