/- The windows of the program and of the reference of chapter 1: one plain form. No condition. -/
import Derived.Test.YtnliianjljgcbaaMAx7
import Derived.Test.YtnliianjljgcbaaCos
namespace Go.Proofs.Ytnliianjljgcbaa.Win
open Go.RowKit Go.Proofs.YtnliianjljgcbaaW.PrintWords Go.Proofs.YtnliianjljgcbaaW.PrintLast Go.Proofs.YtnliianjljgcbaaW.PrintMore Go.Proofs.Ytnliianjljgcbaa.Core Go.Proofs.Ytnliianjljgcbaa.MA Go.Proofs.Ytnliianjljgcbaa.Base Go.Proofs.Ytnliianjljgcbaa.RefA Go.Proofs.Ytnliianjljgcbaa.Cos

def winA (l i : Int) : Int := sinW (wrap64 (Int.tdiv (wrap64 ((wrap64 (Int.tdiv (wrap64 ((wrap64 ((wrap64 (2 * i)) + 1)) * 16384)) l)) + 1)) 2))
def winW (l i : Int) : Int := sinW (wrap64 (Int.tdiv (wrap64 (mulI (winA l i) (winA l i) 15 + 1)) 2))
def windowW (l : Int) : List Int := if l < 1 ∨ l > 480 then [] else (List.range l.toNat).map fun i : Nat => winW l i

theorem window_l0 (n : Nat) (hn : n ≤ 480) (h0 : 1 ≤ n) (d : Nat) : ∀ (i : Nat) (out : List Int), i + d = n → out.length = n →
    Ev (fun k => tabs_Window.l0 k (n : Int) out (n : Int) (i : Int)) (fill (fun j => winW n j) out i d) := by
  induction d with
  | zero =>
    intro i out h1 h2
    refine Ev.step (fun k => by rw [tabs_Window.l0]) ?_
    exact ev_neg (by omega) (Ev.now _)
  | succ d ih =>
    intro i out h1 h2
    refine Ev.step (fun k => by rw [tabs_Window.l0]) ?_
    refine ev_pos (by omega) (ev_neg (by omega) ?_)
    refine Ev.bind (sin_ev _) (Ev.bind (mul_ev _ _ _ (by omega) (by omega)) (Ev.bind (sin_ev _) ?_))
    refine ev_pos (by omega) (ev_pos (by omega) ?_)
    rw [wsucc (by omega)]
    exact ih (i + 1) _ (by omega) (by simpa using h2)

theorem window_ev (l : Int) : Ev (fun k => tabs_Window.f k l) (windowW l) := by
  unfold tabs_Window.f windowW
  have hj : Ev (fun k => tabs_Window.j0 k l true) [] := by
    refine Ev.step (fun k => by rw [tabs_Window.j0]) ?_
    exact ev_pos rfl (Ev.now _)
  by_cases h1 : l < 1
  · rw [if_pos (Or.inl h1)]; exact ev_pos h1 hj
  · refine ev_neg h1 ?_
    by_cases h2 : l > 480
    · rw [if_pos (Or.inr h2), decide_eq_true h2]; exact hj
    · rw [if_neg (by omega), decide_eq_false h2]
      refine Ev.step (fun k => by rw [tabs_Window.j0]) ?_
      refine ev_neg (by decide) (ev_pos (by omega) (ev_pos (by omega) (ev_some ?_)))
      obtain ⟨n, rfl⟩ : ∃ n : Nat, l = n := ⟨l.toNat, by omega⟩
      have h := window_l0 n (by omega) (by omega) n 0 (List.replicate n 0) (by omega) (by simp)
      have h4 := fill_all (fun j => winW n j) (List.replicate n 0)
      rw [List.length_replicate] at h4
      rw [h4] at h
      simpa using h

theorem rwindow_l0 (n : Nat) (hn : n ≤ 480) (d : Nat) : ∀ (i : Nat), i + d = n →
    Ev (fun k => madrigalref1_Window.l0 k (n : Int) ((List.range i).map fun j : Nat => winW n j) (i : Int)) ((List.range n).map fun j : Nat => winW n j) := by
  induction d with
  | zero =>
    intro i h1
    refine Ev.step (fun k => by rw [madrigalref1_Window.l0]) ?_
    refine ev_neg (by omega) ?_
    refine Ev.step (fun k => by rw [madrigalref1_Window.j1]) ?_
    refine ev_neg (by decide) ?_
    rw [show i = n by omega]
    exact Ev.now _
  | succ d ih =>
    intro i h1
    refine Ev.step (fun k => by rw [madrigalref1_Window.l0]) ?_
    refine ev_pos (by omega) ?_
    rw [decide_eq_true (show (n : Int) ≤ 480 by omega)]
    refine Ev.step (fun k => by rw [madrigalref1_Window.j1]) ?_
    refine ev_pos rfl (ev_neg (by omega) ?_)
    refine Ev.bind (rsin_ev _) (Ev.bind (rmul_ev _ _ _ (by omega) (by omega)) (Ev.bind (rsin_ev _) ?_))
    refine ev_pos (by simp; omega) ?_
    rw [wsucc (by omega)]
    have h := ih (i + 1) (by omega)
    rw [List.range_succ, List.map_append] at h
    exact h

theorem rwindow_ev (l : Int) : Ev (fun k => madrigalref1_Window.f k l) (windowW l) := by
  unfold madrigalref1_Window.f windowW
  by_cases h1 : l < 1
  · rw [if_pos (Or.inl h1)]
    refine Ev.step (fun k => by rw [madrigalref1_Window.l0]) ?_
    refine ev_neg (by omega) ?_
    refine Ev.step (fun k => by rw [madrigalref1_Window.j1]) ?_
    exact ev_neg (by decide) (Ev.now _)
  · by_cases h2 : l > 480
    · rw [if_pos (Or.inr h2)]
      refine Ev.step (fun k => by rw [madrigalref1_Window.l0]) ?_
      refine ev_pos (by omega) ?_
      rw [decide_eq_false (by omega)]
      refine Ev.step (fun k => by rw [madrigalref1_Window.j1]) ?_
      exact ev_neg (by decide) (Ev.now _)
    · rw [if_neg (by omega)]
      obtain ⟨n, rfl⟩ : ∃ n : Nat, l = n := ⟨l.toNat, by omega⟩
      have h := rwindow_l0 n (by omega) n 0 (by omega)
      simpa using h

end Go.Proofs.Ytnliianjljgcbaa.Win
