/- Shapes, frequencies of samples, samples of frequencies are what the reference says: the plain law. No condition. -/
import Derived.Test.YtnliianjljgcbaaMAx10
import Derived.Test.YtnliianjljgcbaaSame
import Derived.DataShut
namespace Go.Proofs.Ytnliianjljgcbaa.Pure
open Go.RowKit Go.Proofs.YtnliianjljgcbaaW.PrintWords Go.Proofs.YtnliianjljgcbaaW.PrintLast Go.Proofs.YtnliianjljgcbaaW.PrintMore Go.Proofs.Ytnliianjljgcbaa.Core Go.Proofs.Ytnliianjljgcbaa.MA Go.Proofs.Ytnliianjljgcbaa.Base Go.Proofs.Ytnliianjljgcbaa.RefA Go.Proofs.Ytnliianjljgcbaa.Cos Go.Proofs.Ytnliianjljgcbaa.Win Go.Proofs.Ytnliianjljgcbaa.Shape Go.Proofs.Ytnliianjljgcbaa.Dot Go.Proofs.Ytnliianjljgcbaa.Fwd Go.Proofs.Ytnliianjljgcbaa.Inv Go.Proofs.Ytnliianjljgcbaa.Same

theorem says_j3 (f : List Int) (l : Int) (hl : -9223372036854775808 ≤ l) (hf : f.length ≤ 160) : Ev (fun k => madrigallaw15_MdctSays.j3 k f l) true := by
  refine Ev.step (fun k => by rw [madrigallaw15_MdctSays.j3]) ?_
  refine ev_some (ev_pos (by simp; omega) ?_)
  rw [List.nil_append]
  cases hg : goodW (f.length : Int) l with
  | true =>
    obtain ⟨N, L, Z, hN, rfl, hz, hN2, hL, h4⟩ := good_nat hg
    obtain rfl : f.length = N := by omega
    refine Ev.bind (inv_ev f.length hN2 (by omega) L Z hz hL hg f rfl) (ev_bind' ((rgood_f _ _ hl).trans (by rw [hg])) (ev_pos rfl (ev_pos rfl ?_)))
    refine Ev.bind (rinv_ev f.length hN2 (by omega) L Z hz hL f rfl) (Ev.bind (same_ev _ (by rw [inverseW_length]; omega)) (Ev.now _))
  | false =>
    refine Ev.bind (inv_bad f l hl hg) (ev_bind' ((rgood_f _ _ hl).trans (by rw [hg])) (ev_neg (by decide) (ev_pos rfl ?_)))
    exact Ev.now _

theorem says_j1 (x f : List Int) (l : Int) (hl : -9223372036854775808 ≤ l) (hx : x.length ≤ 320) (hf : f.length ≤ 160) (b : Bool) (hb : b = (decide ((x.length : Int) % 2 = 0) && goodW ((x.length / 2 : Nat) : Int) l)) :
    Ev (fun k => madrigallaw15_MdctSays.j1 k x f l ((x.length / 2 : Nat) : Int) b) true := by
  refine Ev.step (fun k => by rw [madrigallaw15_MdctSays.j1]) ?_
  refine ev_some (ev_pos (by simp; omega) ?_)
  rw [List.nil_append]
  cases b with
  | true =>
    have hb1 := hb.symm
    rw [Bool.and_eq_true, decide_eq_true_eq] at hb1
    obtain ⟨he, hg⟩ := hb1
    obtain ⟨N, L, Z, hN, rfl, hz, hN2, hL, h4⟩ := good_nat hg
    obtain rfl : x.length / 2 = N := by omega
    refine Ev.bind (fwd_ev _ hN2 (by omega) L Z hz hL hg x (by omega)) (Ev.bind (shape_ev _ L Z hz hN2 hL hg) ?_)
    refine ev_bind' ((good_f _ _ hl).trans (by rw [hg])) (ev_bind' ((rgood_f _ _ hl).trans (by rw [hg])) (ev_neg (by decide) ?_))
    refine ev_bind' ((rgood_f _ _ hl).trans (by rw [hg])) (ev_neg (show ¬ ((((0 : Int) == 0) != true) = true) by decide) (ev_pos rfl ?_))
    refine Ev.bind (rshape_ev _ L Z hz hN2 hL) (Ev.bind (same_ev _ (by rw [shapeN_length]; omega)) ?_)
    refine Ev.step (fun k => by rw [madrigallaw15_MdctSays.j2]) ?_
    refine ev_neg (by decide) (ev_pos rfl (ev_pos rfl ?_))
    refine Ev.bind (rfwd_ev _ hN2 (by omega) L Z hz hL x (by omega)) (Ev.bind (same_ev _ (by rw [forwardW_length]; omega)) (ev_pos rfl ?_))
    exact says_j3 f L hl hf
  | false =>
    have hbad : (x.length : Int) % 2 ≠ 0 ∨ goodW ((x.length / 2 : Nat) : Int) l = false := by
      by_cases he : (x.length : Int) % 2 = 0
      · rw [decide_eq_true he, Bool.true_and] at hb; exact Or.inr hb.symm
      · exact Or.inl he
    refine Ev.bind (fwd_bad x l hl (by omega) hbad) ?_
    have hend : Ev (fun k => madrigallaw15_MdctSays.j2 k x f l false [] 1 false) true := by
      refine Ev.step (fun k => by rw [madrigallaw15_MdctSays.j2]) ?_
      exact ev_neg (by decide) (ev_neg (by decide) (ev_pos rfl (ev_pos rfl (says_j3 f l hl hf))))
    cases hg : goodW ((x.length / 2 : Nat) : Int) l with
    | true =>
      obtain ⟨N, L, Z, hN, rfl, hz, hN2, hL, h4⟩ := good_nat hg
      obtain rfl : x.length / 2 = N := by omega
      refine Ev.bind (shape_ev _ L Z hz hN2 hL hg) ?_
      refine ev_bind' ((good_f _ _ hl).trans (by rw [hg])) (ev_bind' ((rgood_f _ _ hl).trans (by rw [hg])) (ev_neg (by decide) ?_))
      refine ev_bind' ((rgood_f _ _ hl).trans (by rw [hg])) (ev_neg (show ¬ ((((0 : Int) == 0) != true) = true) by decide) (ev_pos rfl ?_))
      refine Ev.bind (rshape_ev _ L Z hz hN2 hL) (Ev.bind (same_ev _ (by rw [shapeN_length]; omega)) ?_)
      exact hend
    | false =>
      refine Ev.bind (shape_bad _ l hl hg) ?_
      refine ev_bind' ((good_f _ _ hl).trans (by rw [hg])) (ev_bind' ((rgood_f _ _ hl).trans (by rw [hg])) (ev_neg (by decide) ?_))
      refine ev_bind' ((rgood_f _ _ hl).trans (by rw [hg])) (ev_neg (by decide) (ev_neg (by decide) ?_))
      exact hend

theorem MdctSays : madrigallaw15_MdctSays.Pure := by
  intro x f l _ _ _ _ _ _ w2
  have hl := ((Lit.wf_int_iff .i64 l).1 w2).1
  replace hl : -9223372036854775808 ≤ l := hl
  refine Ev.rounds ?_
  unfold madrigallaw15_MdctSays.f madrigallaw15_awake.f
  refine ev_some (ev_pos rfl ?_)
  have hj : Ev (fun k => madrigallaw15_MdctSays.j0 k x f l true) true := by
    refine Ev.step (fun k => by rw [madrigallaw15_MdctSays.j0]) ?_
    exact ev_pos rfl (Ev.now _)
  by_cases h1 : (x.length : Int) > 320
  · exact ev_pos h1 hj
  · refine ev_neg h1 ?_
    by_cases h2 : (f.length : Int) > 160
    · rw [decide_eq_true h2]; exact hj
    · rw [decide_eq_false h2]
      have e1 : wrap64 ((x.length : Int) / 2) = ((x.length / 2 : Nat) : Int) := by rw [wrap_id] <;> omega
      refine Ev.step (fun k => by rw [madrigallaw15_MdctSays.j0, e1]) ?_
      clear e1
      refine ev_neg (by decide) ?_
      by_cases h3 : (x.length : Int) % 2 = 0
      · refine ev_pos h3 (ev_bind' (rgood_f _ _ hl) ?_)
        exact says_j1 x f l hl (by omega) (by omega) _ (by rw [decide_eq_true h3, Bool.true_and])
      · refine ev_neg h3 ?_
        exact says_j1 x f l hl (by omega) (by omega) _ (by rw [decide_eq_false h3, Bool.false_and])

end Go.Proofs.Ytnliianjljgcbaa.Pure
