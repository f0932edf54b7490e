/- What a joiner's steps come to, of the program and of the reference: one plain form. Condition: blocks that are good. -/
import Derived.Test.YtnliianjljgcbaaRNext
import Derived.Test.YtnliianjljgcbaaSame
namespace Go.Proofs.Ytnliianjljgcbaa.JoinP
open Go.RowKit Go.Proofs.YtnliianjljgcbaaW.PrintWords Go.Proofs.YtnliianjljgcbaaW.PrintLast Go.Proofs.YtnliianjljgcbaaW.PrintMore Go.Proofs.Ytnliianjljgcbaa.Core Go.Proofs.Ytnliianjljgcbaa.MA Go.Proofs.Ytnliianjljgcbaa.Base Go.Proofs.Ytnliianjljgcbaa.RefA Go.Proofs.Ytnliianjljgcbaa.Cos Go.Proofs.Ytnliianjljgcbaa.Win Go.Proofs.Ytnliianjljgcbaa.Shape Go.Proofs.Ytnliianjljgcbaa.Dot Go.Proofs.Ytnliianjljgcbaa.Fwd Go.Proofs.Ytnliianjljgcbaa.Inv Go.Proofs.Ytnliianjljgcbaa.Same

def joinW (n : Nat) (ys y : List Int) : List Int := (List.range n).map fun i : Nat => clamp (wrap64 (ys.getD i 0 + y.getD i 0)) (-16777216) 16777216
theorem joinW_length (n : Nat) (ys y : List Int) : (joinW n ys y).length = n := by unfold joinW; simp

theorem next_l0 (n : Nat) (hn : n ≤ 480) (ys y : List Int) (hys : ys.length = n) (hy : y.length = 2 * n) (d : Nat) : ∀ (i : Nat) (out : List Int), i + d = n → out.length = n →
    Ev (fun k => mdct_Joiner_Next.l0 k (n : Int) ys y out (n : Int) (i : Int)) (fill (fun j => clamp (wrap64 (ys.getD j 0 + y.getD j 0)) (-16777216) 16777216) out i d, 0) := by
  induction d with
  | zero =>
    intro i out h1 h2
    refine Ev.step (fun k => by rw [mdct_Joiner_Next.l0]) ?_
    exact ev_neg (by omega) (ev_pos (by omega) (ev_pos (by omega) (Ev.now _)))
  | succ d ih =>
    intro i out h1 h2
    refine Ev.step (fun k => by rw [mdct_Joiner_Next.l0, wsucc (by omega), rd_nat, rd_nat, Int.toNat_natCast]) ?_
    refine ev_pos (by omega) (ev_pos (by omega) (ev_pos (by omega) (ev_pos (by omega) (Ev.bind (clamp_ev _ _ _) (ev_pos (by omega) ?_)))))
    exact ih (i + 1) _ (by omega) (by simpa using h2)

theorem next_ev (n l z : Nat) (hn : n ≤ 480) (h0 : 1 ≤ n) (hz : 2 * z + l = n) (hl : 2 ≤ l) (hg : goodW n l = true) (ys b : List Int) (hys : ys.length = n) (hb : b.length = n) :
    Ev (fun k => mdct_Joiner_Next.f k (n : Int) (l : Int) ys b) (joinW n ys (inverseW n l z b), 0) := by
  unfold mdct_Joiner_Next.f
  refine ev_pos (by omega) (Ev.bind (inv_ev n hn h0 l z hz hl hg b hb) (ev_pos rfl (ev_pos (by omega) (ev_pos (by omega) (ev_some ?_)))))
  rw [Int.toNat_natCast, List.length_replicate]
  have h := next_l0 n hn ys (inverseW n l z b) hys (inverseW_length n l z b) n 0 (List.replicate n 0) (by omega) (by simp)
  have h4 := fill_all (fun j => clamp (wrap64 (ys.getD j 0 + (inverseW n l z b).getD j 0)) (-16777216) 16777216) (List.replicate n 0)
  rw [List.length_replicate] at h4
  rw [h4] at h
  exact h

theorem next_bad (k n : Nat) (l : Int) (ys b : List Int) (hb : b.length ≠ n) : mdct_Joiner_Next.f k (n : Int) l ys b = some ([], 1) := by
  unfold mdct_Joiner_Next.f
  rw [if_neg (by omega)]

theorem rnext_l0 (n : Nat) (hn : n ≤ 480) (ys y : List Int) (hys : ys.length = n) (hy : y.length = 2 * n) (d : Nat) : ∀ (i : Nat), i + d = n →
    Ev (fun k => madrigalref10_Joiner_Next.l0 k ys y (n : Int) ((List.range i).map fun j : Nat => clamp (wrap64 (ys.getD j 0 + y.getD j 0)) (-16777216) 16777216) (i : Int)) (joinW n ys y) := by
  induction d with
  | zero =>
    intro i h1
    refine Ev.step (fun k => by rw [madrigalref10_Joiner_Next.l0, Int.toNat_natCast]) ?_
    rw [show i = n by omega]
    exact ev_neg (by omega) (ev_pos (by omega) (ev_pos (by omega) (ev_pos (by simp; omega) (Ev.now _))))
  | succ d ih =>
    intro i h1
    refine Ev.step (fun k => by rw [madrigalref10_Joiner_Next.l0, wsucc (by omega), rd_nat, rd_nat]) ?_
    refine ev_pos (by omega) (ev_pos (by omega) (ev_pos (by omega) (ev_pos (by omega) (Ev.bind (a := clamp (wrap64 (ys.getD i 0 + y.getD i 0)) (-16777216) 16777216) ?_ (ev_pos (by simp; omega) ?_)))))
    · unfold madrigalref10_keep.f
      exact Ev.bind (rclamp_ev _ _ _) (Ev.now _)
    · have h := ih (i + 1) (by omega)
      rw [List.range_succ, List.map_append] at h
      exact h

theorem rnext_ev (n l z : Nat) (hn : n ≤ 480) (h0 : 1 ≤ n) (hz : 2 * z + l = n) (hl : 2 ≤ l) (ys b : List Int) (hys : ys.length = n) (hb : b.length = n) :
    Ev (fun k => madrigalref10_Joiner_Next.f k (l : Int) ys b) (joinW n ys (inverseW n l z b)) := by
  unfold madrigalref10_Joiner_Next.f
  refine Ev.bind (rinv_ev n hn h0 l z hz hl b hb) ?_
  rw [hys]
  exact rnext_l0 n hn ys _ hys (inverseW_length n l z b) n 0 (by omega)

theorem equal_l0 (a : List Int) (hl : a.length ≤ 1000000) (d : Nat) : ∀ n, n + d = a.length → Ev (fun k => slices_Equal_int64_int64.l0 k a a (a.length : Int) (n : Int)) true := by
  induction d with
  | zero =>
    intro n h
    refine Ev.step (fun k => by rw [slices_Equal_int64_int64.l0]) ?_
    exact ev_neg (by omega) (Ev.now _)
  | succ d ih =>
    intro n h
    refine Ev.step (fun k => by rw [slices_Equal_int64_int64.l0]) ?_
    refine ev_pos (by omega) (ev_pos (by omega) (ev_pos (by omega) (ev_pos (by omega) (ev_pos rfl ?_))))
    rw [wsucc (by omega)]
    exact ih (n + 1) (by omega)
theorem sameJ_ev (n l : Int) (a : List Int) (hl : a.length ≤ 1000000) : Ev (fun k => mdct_Joiner_Same.f k n l a a) true := by
  unfold mdct_Joiner_Same.f
  refine ev_pos rfl (ev_pos rfl (Ev.bind (a := true) ?_ (Ev.now _)))
  unfold slices_Equal_int64_int64.f
  exact ev_pos rfl (equal_l0 a hl a.length 0 (by omega))

/-- From some rounds on several answers are there at once. -/
theorem Ev.two {α β : Type} {f : Nat → Option α} {g : Nat → Option β} {a : α} {b : β} (hf : Ev f a) (hg : Ev g b) : ∃ k, f k = some a ∧ g k = some b := by
  obtain ⟨K, h⟩ := hf
  obtain ⟨K', h'⟩ := hg
  exact ⟨max K K', h _ (Nat.le_max_left _ _), h' _ (Nat.le_max_right _ _)⟩

end Go.Proofs.Ytnliianjljgcbaa.JoinP
