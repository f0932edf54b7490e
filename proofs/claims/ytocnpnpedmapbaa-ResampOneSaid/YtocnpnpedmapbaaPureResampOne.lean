/- Samplers of one rate hand on what they get, eight samples later: the plain law. No condition. -/
import Derived.Test.YtocnpnpedmapbaaOneW
import Derived.Test.YtocnpnpedmapbaaRunP
import Derived.DataShut
namespace Go.Proofs.Ytocnpnpedmapbaa.Pure
open Go.RowKit Go.Proofs.YtocnpnpedmapbaaW.PrintWords Go.Proofs.YtocnpnpedmapbaaW.PrintLast Go.Proofs.YtocnpnpedmapbaaW.PrintMore Go.Proofs.Ytocnpnpedmapbaa.MA Go.Proofs.Ytocnpnpedmapbaa.Core Go.Proofs.Ytocnpnpedmapbaa.Base Go.Proofs.Ytocnpnpedmapbaa.Tabl Go.Proofs.Ytocnpnpedmapbaa.RunP

theorem rate_same {a : Int} (h : resamp_rate.f a = some true) : RateIs a a 1 1 := by
  rcases rate_of h with rfl | rfl | rfl | rfl | rfl
  · exact rate_8000_8000
  · exact rate_12000_12000
  · exact rate_16000_16000
  · exact rate_24000_24000
  · exact rate_48000_48000

theorem acc_delta (z : List Int) (i : Nat) (h : -32768 ≤ z.getD (i + 7) 0 ∧ z.getD (i + 7) 0 ≤ 32767) : accW z delta 16384 i = 16384 + 32768 * z.getD (i + 7) 0 := by
  have w0 : wrap64 0 = 0 := wrap_id (by decide) (by decide)
  have w1 : wrap64 16384 = 16384 := wrap_id (by decide) (by decide)
  have e : i + 1 + 1 + 1 + 1 + 1 + 1 + 1 = i + 7 := rfl
  unfold delta
  simp only [accW, Int.zero_mul, w0, Int.add_zero, w1, e]
  generalize z.getD (i + 7) 0 = y at *
  have w2 : wrap64 (32768 * y) = 32768 * y := wrap_id (by omega) (by omega)
  have w3 : wrap64 (16384 + 32768 * y) = 16384 + 32768 * y := by clear w0 w1 w2; exact wrap_id (by omega) (by omega)
  simp only [w2, w3]

theorem out_delta (F : Nat → List Int) (hF : F 0 = delta) (z : List Int) (j : Nat) (h : -32768 ≤ z.getD (j + 8) 0 ∧ z.getD (j + 8) 0 ≤ 32767) : outP 1 1 F z j = z.getD (j + 8) 0 := by
  unfold outP
  rw [Nat.mul_one, Nat.mod_one, Nat.div_one, hF, acc_delta z (j + 1) h]
  have e : j + 1 + 7 = j + 8 := by omega
  rw [e]
  generalize z.getD (j + 8) 0 = y at *
  rw [show (16384 + 32768 * y) / 32768 = y by omega]
  exact clamp_id h.1 h.2

def oneP (A : Nat) (v : Int) (j : Nat) : Int := if j = A + 8 then v else 0

theorem one_z (A : Nat) (v : Int) (hA : A ≤ 40) (hv : 1000 ≤ v ∧ v ≤ 32767) (j : Nat) (hj : j < 80) : (List.replicate 16 (0 : Int) ++ ((List.replicate 80 (0 : Int)).set A v).map satI).getD (j + 8) 0 = oneP A v j := by
  have hs0 : satI 0 = 0 := clamp_id (by decide) (by decide)
  have hsv : satI v = v := clamp_id (by omega) (by omega)
  unfold oneP
  rw [List.getD_eq_getElem?_getD]
  by_cases c : j + 8 < 16
  · rw [List.getElem?_append_left (by simpa using c), List.getElem?_replicate, if_pos c, if_neg (by omega)]; rfl
  · rw [List.getElem?_append_right (by simp; omega), List.length_replicate, List.getElem?_map, List.getElem?_set]
    by_cases c2 : j = A + 8
    · rw [if_pos (by omega), if_pos (by simp; omega), if_pos c2, Option.map_some, Option.getD_some, hsv]
    · rw [if_neg (by omega), List.getElem?_replicate, if_pos (by omega), if_neg c2, Option.map_some, Option.getD_some, hs0]

theorem getD_map (F : Nat → Int) {n j : Nat} (h : j < n) : ((List.range n).map F).getD j 0 = F j := by
  rw [List.getD_eq_getElem?_getD, List.getElem?_map, List.getElem?_range h, Option.map_some, Option.getD_some]

theorem rd_zero (xs : List Int) : rd xs 0 = xs.getD 0 0 := by simp [rd]

theorem one_l0 (A : Nat) (v : Int) (hA : A ≤ 40) (hv : 1000 ≤ v ∧ v ≤ 32767) (d : Nat) : ∀ (i : Nat), i + d = 80 →
    Ev (fun k => madrigallaw22_ResampOne.l0 k v (A : Int) ((List.range 80).map (oneP A v)) (if A + 8 < i then ((A + 8 : Nat) : Int) else 0) (i : Int)) true := by
  have hl : ((List.range 80).map (oneP A v)).length = 80 := by simp
  induction d with
  | zero =>
    intro i h
    have e1 : wrap64 ((A : Int) + 8) = ((A + 8 : Nat) : Int) := by rw [wrap_id] <;> omega
    rw [if_pos (show A + 8 < i by omega)]
    refine Ev.step (fun k => by rw [madrigallaw22_ResampOne.l0, e1]) ?_
    clear e1
    refine ev_neg (by omega) (ev_pos rfl (ev_pos (by omega) (ev_pos (by omega) ?_)))
    refine ⟨0, fun _ _ => ?_⟩
    rw [rd_nat, getD_map _ (by omega), decide_eq_true]
    unfold oneP
    rw [if_pos rfl, Int.tdiv_eq_ediv_of_nonneg (by omega), wrap_id (by omega) (by omega)]
    omega
  | succ d ih =>
    intro i h
    have hn := ih (i + 1) (by omega)
    have e1 : wrap64 ((i : Int) + 1) = ((i + 1 : Nat) : Int) := by clear ih hn; exact wsucc (by omega)
    clear ih
    by_cases c : A + 8 < i
    · rw [if_pos c]
      rw [if_pos (show A + 8 < i + 1 by omega)] at hn
      refine Ev.step (fun k => by rw [madrigallaw22_ResampOne.l0, e1, rd_nat, rd_nat, getD_map _ (by omega), getD_map _ (by omega)]) ?_
      clear e1
      refine ev_pos (by omega) (ev_pos (by omega) (ev_pos (by omega) (ev_pos (by omega) (ev_neg ?_ hn))))
      unfold oneP
      rw [if_neg (by omega), if_pos rfl]; omega
    · rw [if_neg c]
      by_cases c2 : i = A + 8
      · subst c2
        rw [if_pos (show A + 8 < A + 8 + 1 by omega)] at hn
        refine Ev.step (fun k => by rw [madrigallaw22_ResampOne.l0, e1, rd_nat, rd_zero, getD_map _ (by omega), getD_map _ (by omega)]) ?_
        clear e1
        refine ev_pos (by omega) (ev_pos (by omega) (ev_pos (by omega) (ev_pos (by omega) (ev_pos ?_ hn))))
        unfold oneP
        rw [if_pos rfl, if_neg (by omega)]; omega
      · rw [if_neg (show ¬ A + 8 < i + 1 by omega)] at hn
        refine Ev.step (fun k => by rw [madrigallaw22_ResampOne.l0, e1, rd_nat, rd_zero, getD_map _ (by omega), getD_map _ (by omega)]) ?_
        clear e1
        refine ev_pos (by omega) (ev_pos (by omega) (ev_pos (by omega) (ev_pos (by omega) (ev_neg ?_ hn))))
        unfold oneP
        rw [if_neg c2, if_neg (by omega)]; omega

theorem ResampOne : madrigallaw22_ResampOne.Pure := by
  intro a v p _ _ _
  refine Ev.rounds ?_
  unfold madrigallaw22_ResampOne.f madrigallaw22_awake.f
  refine ev_some (ev_pos rfl ?_)
  have hj : Ev (fun k => madrigallaw22_ResampOne.j0 k a v p true) true := by
    refine Ev.step (fun k => by rw [madrigallaw22_ResampOne.j0]) ?_
    exact ev_pos rfl (Ev.now _)
  obtain ⟨s, h1, k1⟩ := rate_some a
  refine ev_bind' k1 ?_
  cases s with
  | false => exact ev_neg (by decide) hj
  | true =>
    refine ev_pos rfl ?_
    by_cases c1 : v < 1000
    · exact ev_pos c1 hj
    · refine ev_neg c1 ?_
      by_cases c2 : v > 32767
      · exact ev_pos c2 hj
      · refine ev_neg c2 ?_
        by_cases c3 : p < 0
        · exact ev_pos c3 hj
        · refine ev_neg c3 ?_
          by_cases c4 : p > 40
          · rw [decide_eq_true c4]; exact hj
          · rw [decide_eq_false c4]
            obtain ⟨A, rfl⟩ : ∃ A : Nat, p = A := ⟨p.toNat, by omega⟩
            have hr := rate_same h1
            obtain ⟨F, hF⟩ := filters hr
            have hF0 := (hF 0 (by omega)).2.2.2.2.2.2 rfl
            have hv : 1000 ≤ v ∧ v ≤ 32767 := ⟨by omega, by omega⟩
            have hA : A ≤ 40 := by omega
            have hrun := run_ev a a 1 1 F hr.1 hr.2.1 hF hr.2.2.2.2.1 (List.replicate 16 0) ((List.replicate 80 0).set A v) 80 (by simp) (by simp) (by omega)
            have hout : outW 1 1 F (List.replicate 16 0 ++ ((List.replicate 80 0).set A v).map satI) (1 * 80) = (List.range 80).map (oneP A v) := by
              unfold outW
              apply List.map_congr_left
              intro j hj2
              have hj3 : j < 80 := by simpa using hj2
              have hz := one_z A v hA hv j hj3
              rw [out_delta F hF0 _ j (by rw [hz]; unfold oneP; split <;> omega), hz]
            rw [hout] at hrun
            refine Ev.step (fun k => by rw [madrigallaw22_ResampOne.j0, Int.toNat_natCast]) ?_
            refine ev_neg (by decide) (ev_pos (by decide) (ev_pos rfl (ev_pos (by decide) (ev_some (ev_pos (by omega) (ev_pos (by simp; omega) (Ev.bind hrun (ev_pos rfl ?_))))))))
            have e : ((((List.range 80).map (oneP A v)).length : Int) != 80) = false := by simp
            show Ev (fun k => madrigallaw22_ResampOne.j1 k v (A : Int) ((List.range 80).map (oneP A v)) ((((List.range 80).map (oneP A v)).length : Int) != 80)) true
            rw [e]
            refine Ev.step (fun k => by rw [madrigallaw22_ResampOne.j1]) ?_
            refine ev_neg (by decide) ?_
            have h := one_l0 A v hA hv 80 0 (by omega)
            rw [if_neg (by omega)] at h
            exact h

end Go.Proofs.Ytocnpnpedmapbaa.Pure
