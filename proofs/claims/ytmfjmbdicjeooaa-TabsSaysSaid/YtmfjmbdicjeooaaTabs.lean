/- The windows and the tables of line spectrum frequencies, of the program and of the reference of chapter 1: one plain form each. Bins, too. No condition but that the numbers are of 64 bits. -/
import Derived.Test.YtmfjmbdicjeooaaMAx6
import Derived.Test.YtmfjmbdicjeooaaCos
namespace Go.Proofs.Ytmfjmbdicjeooaa.Tabs
open Go.RowKit Go.Proofs.YtmfjmbdicjeooaaW.PrintWords Go.Proofs.YtmfjmbdicjeooaaW.PrintLast Go.Proofs.YtmfjmbdicjeooaaW.PrintMore Go.Proofs.Ytmfjmbdicjeooaa.Core Go.Proofs.Ytmfjmbdicjeooaa.MA Go.Proofs.Ytmfjmbdicjeooaa.Base Go.Proofs.Ytmfjmbdicjeooaa.RefA Go.Proofs.Ytmfjmbdicjeooaa.Cos

def winA (l i : Int) : Int := sinW (wrap64 (Int.tdiv (wrap64 ((wrap64 (Int.tdiv (wrap64 ((wrap64 ((wrap64 (2 * i)) + 1)) * 16384)) l)) + 1)) 2))
def winW (l i : Int) : Int := sinW (wrap64 (Int.tdiv (wrap64 (mulI (winA l i) (winA l i) 15 + 1)) 2))
def windowW (l : Int) : List Int := if l < 1 ∨ l > 480 then [] else (List.range l.toNat).map fun i : Nat => winW l i

theorem window_l0 (n : Nat) (hn : n ≤ 480) (h0 : 1 ≤ n) (d : Nat) : ∀ (i : Nat) (out : List Int), i + d = n → out.length = n →
    Ev (fun k => tabs_Window.l0 k (n : Int) out (n : Int) (i : Int)) (fill (fun j => winW n j) out i d) := by
  induction d with
  | zero =>
    intro i out h1 h2
    refine Ev.step (fun k => by rw [tabs_Window.l0]) ?_
    exact ev_neg (by omega) (Ev.now _)
  | succ d ih =>
    intro i out h1 h2
    refine Ev.step (fun k => by rw [tabs_Window.l0]) ?_
    refine ev_pos (by omega) (ev_neg (by omega) ?_)
    refine Ev.bind (sin_ev _) (Ev.bind (mul_ev _ _ _ (by omega) (by omega)) (Ev.bind (sin_ev _) ?_))
    refine ev_pos (by omega) (ev_pos (by omega) ?_)
    rw [wsucc (by omega)]
    exact ih (i + 1) _ (by omega) (by simpa using h2)

theorem window_ev (l : Int) : Ev (fun k => tabs_Window.f k l) (windowW l) := by
  unfold tabs_Window.f windowW
  have hj : Ev (fun k => tabs_Window.j0 k l true) [] := by
    refine Ev.step (fun k => by rw [tabs_Window.j0]) ?_
    exact ev_pos rfl (Ev.now _)
  by_cases h1 : l < 1
  · rw [if_pos (Or.inl h1)]; exact ev_pos h1 hj
  · refine ev_neg h1 ?_
    by_cases h2 : l > 480
    · rw [if_pos (Or.inr h2), decide_eq_true h2]; exact hj
    · rw [if_neg (by omega), decide_eq_false h2]
      refine Ev.step (fun k => by rw [tabs_Window.j0]) ?_
      refine ev_neg (by decide) (ev_pos (by omega) (ev_pos (by omega) (ev_some ?_)))
      obtain ⟨n, rfl⟩ : ∃ n : Nat, l = n := ⟨l.toNat, by omega⟩
      have h := window_l0 n (by omega) (by omega) n 0 (List.replicate n 0) (by omega) (by simp)
      have h4 := fill_all (fun j => winW n j) (List.replicate n 0)
      rw [List.length_replicate] at h4
      rw [h4] at h
      simpa using h

theorem rwindow_l0 (n : Nat) (hn : n ≤ 480) (d : Nat) : ∀ (i : Nat), i + d = n →
    Ev (fun k => madrigalref1_Window.l0 k (n : Int) ((List.range i).map fun j : Nat => winW n j) (i : Int)) ((List.range n).map fun j : Nat => winW n j) := by
  induction d with
  | zero =>
    intro i h1
    refine Ev.step (fun k => by rw [madrigalref1_Window.l0]) ?_
    refine ev_neg (by omega) ?_
    refine Ev.step (fun k => by rw [madrigalref1_Window.j1]) ?_
    refine ev_neg (by decide) ?_
    rw [show i = n by omega]
    exact Ev.now _
  | succ d ih =>
    intro i h1
    refine Ev.step (fun k => by rw [madrigalref1_Window.l0]) ?_
    refine ev_pos (by omega) ?_
    rw [decide_eq_true (show (n : Int) ≤ 480 by omega)]
    refine Ev.step (fun k => by rw [madrigalref1_Window.j1]) ?_
    refine ev_pos rfl (ev_neg (by omega) ?_)
    refine Ev.bind (rsin_ev _) (Ev.bind (rmul_ev _ _ _ (by omega) (by omega)) (Ev.bind (rsin_ev _) ?_))
    refine ev_pos (by simp; omega) ?_
    rw [wsucc (by omega)]
    have h := ih (i + 1) (by omega)
    rw [List.range_succ, List.map_append] at h
    exact h

theorem rwindow_ev (l : Int) : Ev (fun k => madrigalref1_Window.f k l) (windowW l) := by
  unfold madrigalref1_Window.f windowW
  by_cases h1 : l < 1
  · rw [if_pos (Or.inl h1)]
    refine Ev.step (fun k => by rw [madrigalref1_Window.l0]) ?_
    refine ev_neg (by omega) ?_
    refine Ev.step (fun k => by rw [madrigalref1_Window.j1]) ?_
    exact ev_neg (by decide) (Ev.now _)
  · by_cases h2 : l > 480
    · rw [if_pos (Or.inr h2)]
      refine Ev.step (fun k => by rw [madrigalref1_Window.l0]) ?_
      refine ev_pos (by omega) ?_
      rw [decide_eq_false (by omega)]
      refine Ev.step (fun k => by rw [madrigalref1_Window.j1]) ?_
      exact ev_neg (by decide) (Ev.now _)
    · rw [if_neg (by omega)]
      obtain ⟨n, rfl⟩ : ∃ n : Nat, l = n := ⟨l.toNat, by omega⟩
      have h := rwindow_l0 n (by omega) n 0 (by omega)
      simpa using h

def lsfE (o i s : Int) (j : Int) : Int := wrap64 ((wrap64 (Int.tdiv (wrap64 (32768 * (wrap64 (j + 1)))) (wrap64 (o + 1)))) + (wrap64 (s * (wrap64 ((Int.tmod (wrap64 ((wrap64 (37 * i)) + (wrap64 (53 * j)))) 64) - 32)))))
def lsfT (o i s : Int) : List Int := (List.range o.toNat).map fun j : Nat => lsfE o i s j
def lsfW (o i : Int) : List Int := if (o = 10 ∨ o = 16) ∧ 0 ≤ i ∧ i < 16 then lsfT o i (if o = 16 then 14 else 24) else []

theorem lsf_l0 (n : Nat) (hn : n ≤ 16) (a s : Int) (d : Nat) : ∀ (i : Nat) (out : List Int), i + d = n → out.length = n →
    Ev (fun k => tabs_Lsf.l0 k (n : Int) a s out (n : Int) (i : Int)) (fill (fun j => lsfE n a s j) out i d) := by
  induction d with
  | zero =>
    intro i out h1 h2
    refine Ev.step (fun k => by rw [tabs_Lsf.l0]) ?_
    exact ev_neg (by omega) (Ev.now _)
  | succ d ih =>
    intro i out h1 h2
    refine Ev.step (fun k => by rw [tabs_Lsf.l0]) ?_
    refine ev_pos (by omega) (ev_neg (by rw [wsucc (by omega)]; omega) (ev_pos (by omega) (ev_pos (by omega) ?_)))
    rw [wsucc (n := i) (by omega)]
    have e : lsfE n a s i = wrap64 ((wrap64 (Int.tdiv (wrap64 (32768 * ((i + 1 : Nat) : Int))) (wrap64 ((n : Int) + 1)))) + (wrap64 (s * (wrap64 ((Int.tmod (wrap64 ((wrap64 (37 * a)) + (wrap64 (53 * (i : Int))))) 64) - 32))))) := by
      unfold lsfE; rw [wsucc (n := i) (by omega)]
    rw [← e]
    exact ih (i + 1) _ (by omega) (by simpa using h2)

theorem lsf_j1 (n : Nat) (hn : n ≤ 16) (a s : Int) : Ev (fun k => tabs_Lsf.j1 k (n : Int) a s) (lsfT n a s) := by
  refine Ev.step (fun k => by rw [tabs_Lsf.j1]) ?_
  refine ev_pos (by omega) (ev_pos (by omega) (ev_some ?_))
  have h := lsf_l0 n hn a s n 0 (List.replicate n 0) (by omega) (by simp)
  have h4 := fill_all (fun j => lsfE n a s j) (List.replicate n 0)
  rw [List.length_replicate] at h4
  rw [h4] at h
  unfold lsfT
  simpa using h

theorem lsf_j0t (o a : Int) : Ev (fun k => tabs_Lsf.j0 k o a true) [] := by
  refine Ev.step (fun k => by rw [tabs_Lsf.j0]) ?_
  exact ev_pos rfl (Ev.now _)
theorem lsf_j0f (o a : Int) (ho : o = 10 ∨ o = 16) : Ev (fun k => tabs_Lsf.j0 k o a false) (lsfT o a (if o = 16 then 14 else 24)) := by
  refine Ev.step (fun k => by rw [tabs_Lsf.j0]) ?_
  refine ev_neg (by decide) ?_
  rcases ho with rfl | rfl
  · exact ev_neg (by decide) (lsf_j1 10 (by omega) a 24)
  · exact ev_pos rfl (lsf_j1 16 (by omega) a 14)

theorem lsf_in (o a : Int) (ho : o = 10 ∨ o = 16) : Ev (fun k => if a < 0 then tabs_Lsf.j0 k o a true else tabs_Lsf.j0 k o a (decide (a ≥ 16))) (lsfW o a) := by
  unfold lsfW
  by_cases h1 : a < 0
  · rw [if_neg (by omega)]; exact ev_pos h1 (lsf_j0t o a)
  · refine ev_neg h1 ?_
    by_cases h2 : a ≥ 16
    · rw [if_neg (by omega), decide_eq_true h2]; exact lsf_j0t o a
    · rw [if_pos ⟨ho, by omega, by omega⟩, decide_eq_false h2]; exact lsf_j0f o a ho

theorem lsf_ev (o a : Int) : Ev (fun k => tabs_Lsf.f k o a) (lsfW o a) := by
  unfold tabs_Lsf.f
  by_cases h1 : o = 10
  · exact ev_pos h1 (lsf_in o a (Or.inl h1))
  · refine ev_neg h1 ?_
    by_cases h2 : o = 16
    · exact ev_pos h2 (lsf_in o a (Or.inr h2))
    · refine ev_neg h2 ?_
      unfold lsfW
      rw [if_neg (by omega)]
      exact lsf_j0t o a

theorem rlsf_l0 (n : Nat) (hn : n ≤ 16) (a s : Int) (d : Nat) : ∀ (i : Nat), i + d = n →
    Ev (fun k => madrigalref1_Lsf.l0 k (n : Int) a s ((List.range i).map fun j : Nat => lsfE n a s j) (i : Int)) ((List.range n).map fun j : Nat => lsfE n a s j) := by
  induction d with
  | zero =>
    intro i h1
    refine Ev.step (fun k => by rw [madrigalref1_Lsf.l0]) ?_
    refine ev_neg (by omega) ?_
    rw [show i = n by omega]
    exact Ev.now _
  | succ d ih =>
    intro i h1
    refine Ev.step (fun k => by rw [madrigalref1_Lsf.l0]) ?_
    refine ev_pos (by omega) (ev_neg (by rw [wsucc (by omega)]; omega) (ev_pos (by simp; omega) ?_))
    have h := ih (i + 1) (by omega)
    rw [List.range_succ, List.map_append] at h
    rw [wsucc (n := i) (by omega)]
    simp only [List.map_cons, List.map_nil] at h
    have e : lsfE n a s i = wrap64 ((wrap64 (Int.tdiv (wrap64 (32768 * ((i + 1 : Nat) : Int))) (wrap64 ((n : Int) + 1)))) + (wrap64 (s * (wrap64 ((Int.tmod (wrap64 ((wrap64 (37 * a)) + (wrap64 (53 * (i : Int))))) 64) - 32))))) := by
      unfold lsfE; rw [wsucc (n := i) (by omega)]
    rw [← e]
    exact h

theorem rlsf_j1 (n : Nat) (hn : n ≤ 16) (a s : Int) : Ev (fun k => madrigalref1_Lsf.j1 k (n : Int) a s) (lsfT n a s) := by
  refine Ev.step (fun k => by rw [madrigalref1_Lsf.j1]) ?_
  exact rlsf_l0 n hn a s n 0 (by omega)

theorem rlsf_j0t (o a : Int) : Ev (fun k => madrigalref1_Lsf.j0 k o a true) [] := by
  refine Ev.step (fun k => by rw [madrigalref1_Lsf.j0]) ?_
  exact ev_pos rfl (Ev.now _)
theorem rlsf_j0f (o a : Int) (ho : o = 10 ∨ o = 16) : Ev (fun k => madrigalref1_Lsf.j0 k o a false) (lsfT o a (if o = 16 then 14 else 24)) := by
  refine Ev.step (fun k => by rw [madrigalref1_Lsf.j0]) ?_
  refine ev_neg (by decide) ?_
  rcases ho with rfl | rfl
  · exact ev_neg (by decide) (rlsf_j1 10 (by omega) a 24)
  · exact ev_pos rfl (rlsf_j1 16 (by omega) a 14)

theorem rlsf_in (o a : Int) (ho : o = 10 ∨ o = 16) : Ev (fun k => if a < 0 then madrigalref1_Lsf.j0 k o a true else madrigalref1_Lsf.j0 k o a (decide (a > 15))) (lsfW o a) := by
  unfold lsfW
  by_cases h1 : a < 0
  · rw [if_neg (by omega)]; exact ev_pos h1 (rlsf_j0t o a)
  · refine ev_neg h1 ?_
    by_cases h2 : a > 15
    · rw [if_neg (by omega), decide_eq_true h2]; exact rlsf_j0t o a
    · rw [if_pos ⟨ho, by omega, by omega⟩, decide_eq_false h2]; exact rlsf_j0f o a ho

theorem rlsf_ev (o a : Int) : Ev (fun k => madrigalref1_Lsf.f k o a) (lsfW o a) := by
  unfold madrigalref1_Lsf.f
  by_cases h1 : o = 10
  · exact ev_pos h1 (rlsf_in o a (Or.inl h1))
  · refine ev_neg h1 ?_
    by_cases h2 : o = 16
    · exact ev_pos h2 (rlsf_in o a (Or.inr h2))
    · refine ev_neg h2 ?_
      unfold lsfW
      rw [if_neg (by omega)]
      exact rlsf_j0t o a

/-- the edges of a rate -/
def edgesW (r : Int) : List Int := if r = 8000 then [0, 1, 2, 3, 4, 5, 6, 7, 8, 10, 12, 14, 16, 20] else if r = 16000 then [0, 1, 2, 3, 4, 5, 6, 7, 8, 10, 12, 14, 16, 20, 24, 28, 34, 40] else if r = 24000 then [0, 1, 2, 3, 4, 5, 6, 7, 8, 10, 12, 14, 16, 20, 24, 28, 34, 40, 48, 60] else []
theorem edges_f (r : Int) : tabs_Edges.f r = some (edgesW r) := by
  unfold tabs_Edges.f edgesW
  simp only [Option.bind_some]
  split
  · rfl
  · split
    · rfl
    · split <;> rfl
theorem redges_f (r : Int) : madrigalref1_Edges.f r = some (edgesW r) := edges_f r

theorem edges_len (r : Int) : (edgesW r).length = 14 ∨ (edgesW r).length = 18 ∨ (edgesW r).length = 20 ∨ edgesW r = [] := by
  unfold edgesW
  split
  · exact Or.inl rfl
  · split
    · exact Or.inr (Or.inl rfl)
    · split
      · exact Or.inr (Or.inr (Or.inl rfl))
      · exact Or.inr (Or.inr (Or.inr rfl))

theorem edges_bd (r : Int) (i : Nat) : 0 ≤ (edgesW r).getD i 0 ∧ (edgesW r).getD i 0 ≤ 60 := by
  have hall : ∀ l : List Int, (l.all fun x => decide (0 ≤ x ∧ x ≤ 60)) = true → 0 ≤ l.getD i 0 ∧ l.getD i 0 ≤ 60 := by
    intro l h
    rw [List.getD]
    cases g : l[i]? with
    | none => simp
    | some x =>
      have := List.all_eq_true.1 h x (List.mem_of_getElem? g)
      simpa using this
  apply hall
  unfold edgesW
  split
  · rfl
  · split
    · rfl
    · split <;> rfl

theorem bins_val {e m : Int} (h : 0 ≤ e ∧ e ≤ 60) (hm : m = 10 ∨ m = 20) : wrap64 (Int.tdiv (wrap64 ((wrap64 (e * m)) * 2)) 5) = wrap64 ((wrap64 (e * 4)) * (wrap64 (Int.tdiv m 10))) := by
  rcases hm with rfl | rfl
  · rw [wrap_id (n := e * 10) (by omega) (by omega), wrap_id (n := e * 10 * 2) (by omega) (by omega), show e * 10 * 2 = 5 * (e * 4) by omega, Int.mul_tdiv_cancel_left _ (by decide), show wrap64 (Int.tdiv 10 10) = 1 by kernel_rfl, Int.mul_one, wrap_id (n := e * 4) (by omega) (by omega), wrap_id (n := e * 4) (by omega) (by omega)]
  · rw [wrap_id (n := e * 20) (by omega) (by omega), wrap_id (n := e * 20 * 2) (by omega) (by omega), show e * 20 * 2 = 5 * (e * 8) by omega, Int.mul_tdiv_cancel_left _ (by decide), show wrap64 (Int.tdiv 20 10) = 2 by kernel_rfl, wrap_id (n := e * 4) (by omega) (by omega), show e * 4 * 2 = e * 8 by omega]

theorem bins_same (r m i : Int) (h1 : -9223372036854775808 ≤ i) (h2 : i ≤ 9223372036854775807) : ∃ b, tabs_Bins.f r m i = some b ∧ madrigalref1_Bins.f r m i = some b := by
  unfold tabs_Bins.f madrigalref1_Bins.f
  rw [edges_f, redges_f]
  simp only [Option.bind_some]
  have hl : (edgesW r).length ≤ 20 := by
    rcases edges_len r with h | h | h | h
    · omega
    · omega
    · omega
    · rw [h]; simp
  have hb := edges_bd r
  generalize edgesW r = es at *
  have key : (m = 10 ∨ m = 20) → ∃ b, (if i < 0 then some (0, 0) else if i ≥ wrap64 ((es.length : Int) - 1) then some (0, 0) else if 0 ≤ i then if i < (es.length : Int) then if 0 ≤ wrap64 (i + 1) then if wrap64 (i + 1) < (es.length : Int) then some (wrap64 (Int.tdiv (wrap64 ((wrap64 ((rd es i) * m)) * 2)) 5), wrap64 (Int.tdiv (wrap64 ((wrap64 ((rd es (wrap64 (i + 1))) * m)) * 2)) 5)) else none else none else none else none) = some b ∧ (if i < 0 then some (0, 0) else if wrap64 (i + 1) ≥ (es.length : Int) then some (0, 0) else if i > 100 then some (0, 0) else if 0 ≤ i then if i < (es.length : Int) then if 0 ≤ wrap64 (i + 1) then if wrap64 (i + 1) < (es.length : Int) then some (wrap64 ((wrap64 ((rd es i) * 4)) * (wrap64 (Int.tdiv m 10))), wrap64 ((wrap64 ((rd es (wrap64 (i + 1))) * 4)) * (wrap64 (Int.tdiv m 10)))) else none else none else none else none) = some b := by
    intro hm
    have e1 : wrap64 ((es.length : Int) - 1) = (es.length : Int) - 1 := wrap_id (by omega) (by omega)
    rw [e1]
    by_cases g1 : i < 0
    · exact ⟨(0, 0), by rw [if_pos g1], by rw [if_pos g1]⟩
    · rw [if_neg g1, if_neg g1]
      by_cases g2 : i ≥ (es.length : Int) - 1
      · rw [if_pos g2]
        refine ⟨(0, 0), rfl, ?_⟩
        by_cases g3 : i > 100
        · rw [if_pos g3]; split <;> rfl
        · rw [if_pos (by rw [wrap_id] <;> omega)]
      · rw [if_neg g2]
        have e2 : wrap64 (i + 1) = i + 1 := wrap_id (by omega) (by omega)
        rw [e2, if_pos (by omega), if_pos (by omega), if_pos (by omega), if_pos (by omega), if_neg (by omega), if_neg (by omega), if_pos (by omega), if_pos (by omega), if_pos (by omega), if_pos (by omega)]
        refine ⟨_, rfl, ?_⟩
        rw [bins_val (e := rd es i) (hb _) hm, bins_val (e := rd es (i + 1)) (hb _) hm]
  by_cases m1 : m = 10
  · rw [if_pos m1, if_pos m1]; exact key (Or.inl m1)
  · rw [if_neg m1, if_neg m1]
    by_cases m2 : m = 20
    · rw [if_pos m2, if_pos m2]; exact key (Or.inr m2)
    · rw [if_neg m2, if_neg m2]; exact ⟨_, rfl, rfl⟩

end Go.Proofs.Ytmfjmbdicjeooaa.Tabs
