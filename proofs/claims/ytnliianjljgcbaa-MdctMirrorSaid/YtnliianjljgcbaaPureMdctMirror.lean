/- A shape is its own mirror, nought at its ends, one in its middle: the plain law. No condition. -/
import Derived.Test.YtnliianjljgcbaaMAx13
import Derived.Test.YtnliianjljgcbaaShaped
import Derived.DataShut
namespace Go.Proofs.Ytnliianjljgcbaa.Pure
open Go.RowKit Go.Proofs.YtnliianjljgcbaaW.PrintWords Go.Proofs.YtnliianjljgcbaaW.PrintLast Go.Proofs.YtnliianjljgcbaaW.PrintMore Go.Proofs.Ytnliianjljgcbaa.Core Go.Proofs.Ytnliianjljgcbaa.MA Go.Proofs.Ytnliianjljgcbaa.Base Go.Proofs.Ytnliianjljgcbaa.RefA Go.Proofs.Ytnliianjljgcbaa.Cos Go.Proofs.Ytnliianjljgcbaa.Win Go.Proofs.Ytnliianjljgcbaa.Shape Go.Proofs.Ytnliianjljgcbaa.Sines Go.Proofs.Ytnliianjljgcbaa.Shaped

theorem mirror_l0 {n l z : Nat} (hz : 2 * z + l = n) (hn : n ≤ 480) (hl : 2 ≤ l) (d : Nat) : ∀ (i : Nat), i + d = n →
    Ev (fun k => madrigallaw15_MdctMirror.l0 k (n : Int) (l : Int) (shapeN n l z) 0 (i : Int)) true := by
  have e1 : wrap64 (2 * (n : Int)) = 2 * n := wrap_id (by omega) (by omega)
  have e2 : wrap64 (2 * (n : Int) - 1) = 2 * n - 1 := wrap_id (by omega) (by omega)
  have e7 : wrap64 ((n : Int) + l) = n + l := wrap_id (by omega) (by omega)
  have hh := half_z n l z hz hn hl
  have h2 : wrap64 (Int.tdiv ((n : Int) + l) 2) = ((z + l : Nat) : Int) := by
    rw [show (n : Int) + l = 2 * ((z + l : Nat) : Int) by omega, Int.mul_tdiv_cancel_left _ (by decide)]
    exact wrap_id (by omega) (by omega)
  have hL := shapeN_length n l z
  induction d with
  | zero =>
    intro i h1
    refine Ev.step (fun k => by rw [madrigallaw15_MdctMirror.l0, e1]) ?_
    refine ev_neg (by omega) (ev_pos rfl ?_)
    refine ⟨0, fun _ _ => ?_⟩
    simp [hL]
  | succ d ih =>
    intro i h1
    have e3 : wrap64 (2 * (n : Int) - 1 - i) = ((2 * n - 1 - i : Nat) : Int) := by clear e1 e2 e7 hh h2 ih; rw [wrap_id] <;> omega
    have e6 : wrap64 ((i : Int) + 1) = ((i + 1 : Nat) : Int) := by clear e1 e2 e7 hh h2 e3 ih; exact wsucc (by omega)
    refine Ev.step (fun k => by rw [madrigallaw15_MdctMirror.l0, e1, e2, e3, e6, e7, hh, h2]) ?_
    have hn1 := ih (i + 1) (by omega)
    clear e1 e2 e3 e6 e7 hh h2 ih
    rw [rd_nat, rd_nat, shapeN_get hz hn hl, shapeN_get hz hn hl]
    have hb := shapeP_in (p := i) hz hn
    refine ev_pos (by omega) (ev_pos (by omega) (ev_pos (by omega) (ev_pos (by omega) (ev_pos (by omega) (ev_pos (shapeP_mirror hz (by omega)) (ev_neg (by omega) (ev_neg (by omega) ?_)))))))
    by_cases c1 : i < z
    · have h0 : shapeP n l z i = 0 := by unfold shapeP; rw [if_neg (by omega), if_neg (by omega), if_neg (by omega)]
      exact ev_pos (by omega) (ev_pos h0 (ev_neg (by omega) hn1))
    · refine ev_neg (by omega) ?_
      by_cases c2 : z + l ≤ i
      · have h0 : shapeP n l z i = 32768 := by unfold shapeP; rw [if_pos (by omega)]
        exact ev_pos (by omega) (ev_pos h0 hn1)
      · exact ev_neg (by omega) hn1

theorem MdctMirror : madrigallaw15_MdctMirror.Pure := by
  intro n l _ w1
  have hl := ((Lit.wf_int_iff .i64 l).1 w1).1
  replace hl : -9223372036854775808 ≤ l := hl
  refine Ev.rounds ?_
  unfold madrigallaw15_MdctMirror.f madrigallaw15_awake.f
  refine ev_some (ev_pos rfl ?_)
  by_cases h1 : n > 480
  · have hg : goodW n l = false := by unfold goodW; exact decide_eq_false (by omega)
    exact ev_pos h1 (ev_bind' ((good_f n l hl).trans (by rw [hg])) (Ev.now _))
  · refine ev_neg h1 ?_
    cases hg : goodW n l with
    | true =>
      obtain ⟨N, L, Z, rfl, rfl, hz, hN, hL, _⟩ := good_nat hg
      refine Ev.bind (shape_ev N L Z hz hN hL hg) (ev_bind' ((good_f N L hl).trans (by rw [hg])) (ev_pos rfl ?_))
      exact mirror_l0 hz hN hL N 0 (by omega)
    | false =>
      refine Ev.bind (shape_bad n l hl hg) (ev_bind' ((good_f n l hl).trans (by rw [hg])) (ev_neg (by decide) (ev_neg (by decide) ?_)))
      exact Ev.now _

end Go.Proofs.Ytnliianjljgcbaa.Pure
