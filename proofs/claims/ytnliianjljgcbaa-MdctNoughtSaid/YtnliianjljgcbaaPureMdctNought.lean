/- Silence has no frequencies, and none make silence; frequencies with their signs turned make samples with theirs: the plain law. No condition. -/
import Derived.Test.YtnliianjljgcbaaMAx12
import Derived.Test.YtnliianjljgcbaaSame
import Derived.Test.YtnliianjljgcbaaSums
import Derived.DataShut
namespace Go.Proofs.Ytnliianjljgcbaa.Pure
open Go.RowKit Go.Proofs.YtnliianjljgcbaaW.PrintWords Go.Proofs.YtnliianjljgcbaaW.PrintLast Go.Proofs.YtnliianjljgcbaaW.PrintMore Go.Proofs.Ytnliianjljgcbaa.Core Go.Proofs.Ytnliianjljgcbaa.MA Go.Proofs.Ytnliianjljgcbaa.Base Go.Proofs.Ytnliianjljgcbaa.RefA Go.Proofs.Ytnliianjljgcbaa.Cos Go.Proofs.Ytnliianjljgcbaa.Win Go.Proofs.Ytnliianjljgcbaa.Shape Go.Proofs.Ytnliianjljgcbaa.Sines Go.Proofs.Ytnliianjljgcbaa.Shaped Go.Proofs.Ytnliianjljgcbaa.Dot Go.Proofs.Ytnliianjljgcbaa.Fwd Go.Proofs.Ytnliianjljgcbaa.Inv Go.Proofs.Ytnliianjljgcbaa.Same Go.Proofs.Ytnliianjljgcbaa.Sums

theorem mulI_zero (a : Int) : mulI a 0 15 = 0 := by
  unfold mulI
  rw [show fac 0 = 0 from by decide, Int.mul_zero]
  decide

theorem map_const {n : Nat} {F : Nat → Int} (h : ∀ j, j < n → F j = 0) : (List.range n).map F = List.replicate n 0 := by
  apply List.ext_getElem?
  intro j
  by_cases hj : j < n
  · rw [List.getElem?_map, List.getElem?_range hj, Option.map_some, h j hj, List.getElem?_replicate, if_pos hj]
  · rw [List.getElem?_eq_none (by simp; omega), List.getElem?_eq_none (by simp; omega)]

theorem getD_zero (n j : Nat) : (List.replicate n (0 : Int)).getD j 0 = 0 := by
  rw [List.getD_eq_getElem?_getD, List.getElem?_replicate]
  split <;> rfl

theorem vW_zero (n l z : Nat) : vW n l z (List.replicate (2 * n) 0) = List.replicate (2 * n) 0 := by
  unfold vW
  refine map_const fun j _ => ?_
  rw [getD_zero, clamp_id (by decide) (by decide), mulI_zero]

theorem gW_zero (n : Nat) : gW n (List.replicate n 0) = List.replicate n 0 := by
  unfold gW
  refine map_const fun j _ => ?_
  rw [getD_zero, clamp_id (by decide) (by decide)]

theorem dot_zero (t : List Int) (m step n : Nat) (s : Int) (p : Nat) (hs : -1000000 ≤ s ∧ s ≤ 1000000) (ht : ∀ p, -32768 ≤ t.getD p 0 ∧ t.getD p 0 ≤ 32768) : dotW t m step (List.replicate n 0) s p = s := by
  rw [dotW_eq t m step 0 1000000 (by decide) (by decide) (by decide) ht _ _ _ (fun a ha => by rw [List.eq_of_mem_replicate ha]; decide) (by simp; omega) (by simp; omega), dotE_zero, Int.add_zero]

theorem forward_zero (n l z : Nat) : forwardW n l z (List.replicate (2 * n) 0) = List.replicate n 0 := by
  unfold forwardW
  refine map_const fun k _ => ?_
  unfold forwardP
  rw [vW_zero, dot_zero _ _ _ _ _ _ (by decide) (wave_in n)]
  decide

theorem inverse_zero (n l z : Nat) (h0 : 1 ≤ n) (hn : n ≤ 480) : inverseW n l z (List.replicate n 0) = List.replicate (2 * n) 0 := by
  unfold inverseW
  refine map_const fun j _ => ?_
  unfold inverseP sumP
  rw [gW_zero, dot_zero _ _ _ _ _ _ (by decide) (wave_in n), show wrap64 (2 * (0 : Int)) = 0 from wrap_id (by decide) (by decide), Int.zero_add, wrap_id (n := 16384 * (n : Int)) (by omega) (by omega),
    downI_eq (by omega) (by omega), Int.ediv_eq_zero_of_lt (by omega) (by omega), clamp_id (by decide) (by decide), mulI_zero]

/-- two numbers, all but each other's mirror, rounded -/
theorem half_pair {s N : Int} (hN : 0 < N) : 0 ≤ (2 * s + N) / (2 * N) + (-(2 * s) + N) / (2 * N) ∧ (2 * s + N) / (2 * N) + (-(2 * s) + N) / (2 * N) ≤ 1 := by
  have q1 := Int.emod_nonneg (2 * s + N) (show 2 * N ≠ 0 by omega)
  have q2 := Int.emod_lt_of_pos (2 * s + N) (show 0 < 2 * N by omega)
  have q3 := Int.emod_add_mul_ediv (2 * s + N) (2 * N)
  have r1 := Int.emod_nonneg (-(2 * s) + N) (show 2 * N ≠ 0 by omega)
  have r2 := Int.emod_lt_of_pos (-(2 * s) + N) (show 0 < 2 * N by omega)
  have r3 := Int.emod_add_mul_ediv (-(2 * s) + N) (2 * N)
  generalize (2 * s + N) / (2 * N) = a at *
  generalize (-(2 * s) + N) / (2 * N) = b at *
  have e : 2 * N * (a + b) = 2 * N * a + 2 * N * b := Int.mul_add _ _ _
  constructor
  · by_cases h : 0 ≤ a + b
    · exact h
    · have := Int.mul_le_mul_of_nonneg_left (show a + b ≤ -1 by omega) (show 0 ≤ 2 * N by omega)
      omega
  · by_cases h : a + b ≤ 1
    · exact h
    · have := Int.mul_le_mul_of_nonneg_left (show 2 ≤ a + b by omega) (show 0 ≤ 2 * N by omega)
      omega

theorem clamp_pair {a b M : Int} (hM : 0 ≤ M) (h : 0 ≤ a + b ∧ a + b ≤ 1) : 0 ≤ clamp a (-M) M + clamp b (-M) M ∧ clamp a (-M) M + clamp b (-M) M ≤ 1 := by
  have e : ∀ x : Int, clamp x (-M) M = if x < -M then -M else if x > M then M else x := fun x => by unfold clamp; rw [if_neg (by omega)]
  rw [e a, e b]
  by_cases a1 : a < -M
  · rw [if_pos a1]
    by_cases b1 : b < -M
    · omega
    · rw [if_neg b1]
      by_cases b2 : b > M
      · rw [if_pos b2]; omega
      · rw [if_neg b2]; omega
  · rw [if_neg a1]
    by_cases a2 : a > M
    · rw [if_pos a2]
      by_cases b1 : b < -M
      · rw [if_pos b1]; omega
      · rw [if_neg b1]
        by_cases b2 : b > M
        · omega
        · rw [if_neg b2]; omega
    · rw [if_neg a2]
      by_cases b1 : b < -M
      · rw [if_pos b1]; omega
      · rw [if_neg b1]
        by_cases b2 : b > M
        · rw [if_pos b2]; omega
        · rw [if_neg b2]; omega

theorem mul_pair {s y y' : Int} (hs : 0 ≤ s ∧ s ≤ 32768) (hy : -16777216 ≤ y ∧ y ≤ 16777216) (hy' : -16777216 ≤ y' ∧ y' ≤ 16777216) (h : 0 ≤ y + y' ∧ y + y' ≤ 1) :
    0 ≤ mulI s y 15 + mulI s y' 15 ∧ mulI s y 15 + mulI s y' 15 ≤ 1 := by
  unfold mulI
  have e1 : fac s = s := clamp_id (by omega) (by omega)
  have e2 : fac y = y := clamp_id (by omega) (by omega)
  have e3 : fac y' = y' := clamp_id (by omega) (by omega)
  rw [e1, e2, e3]
  show 0 ≤ (s * y + 16384) / 32768 + (s * y' + 16384) / 32768 ∧ (s * y + 16384) / 32768 + (s * y' + 16384) / 32768 ≤ 1
  have hsum : s * y + s * y' = s * (y + y') := (Int.mul_add _ _ _).symm
  by_cases c : y + y' = 0
  · rw [c, Int.mul_zero] at hsum
    generalize s * y = p at *
    generalize s * y' = q at *
    omega
  · have c1 : y + y' = 1 := by omega
    rw [c1, Int.mul_one] at hsum
    by_cases c2 : s = 32768
    · subst c2; omega
    · generalize s * y = p at *
      generalize s * y' = q at *
      omega

theorem mulI_small {s y : Int} (hs : 0 ≤ s ∧ s ≤ 32768) (hy : -16777216 ≤ y ∧ y ≤ 16777216) : -16777216 ≤ mulI s y 15 ∧ mulI s y 15 ≤ 16777216 :=
  mulI_in 32768 (-16777216) 16777216 (-16777216) 16777216 15 hs hy (by decide) (by decide) (by decide) (by decide) (by decide)

theorem gW_neg (n : Nat) (f : List Int) (hb : ∀ j, j < n → -17179869184 ≤ f.getD j 0 ∧ f.getD j 0 ≤ 17179869184) :
    gW n ((List.range n).map fun j : Nat => wrap64 (-(f.getD j 0))) = (gW n f).map fun a => -a := by
  unfold gW
  rw [List.map_map]
  apply List.map_congr_left
  intro j hj
  rw [List.mem_range] at hj
  have h := hb j hj
  simp only [Function.comp]
  rw [List.getD_eq_getElem?_getD (l := List.map _ _), List.getElem?_map, List.getElem?_range hj, Option.map_some, Option.getD_some, wrap_id (by omega) (by omega), clamp_id (by omega) (by omega), clamp_id (by omega) (by omega)]

theorem nought_pair (n l z : Nat) (hz : 2 * z + l = n) (hl : 2 ≤ l) (h0 : 1 ≤ n) (hn : n ≤ 120) (f : List Int) (hf : f.length = n) (hb : ∀ j, j < n → -17179869184 ≤ f.getD j 0 ∧ f.getD j 0 ≤ 17179869184) (j : Nat) :
    (-16777216 ≤ inverseP n l z f j ∧ inverseP n l z f j ≤ 16777216) ∧
    (0 ≤ inverseP n l z f j + inverseP n l z ((List.range n).map fun j : Nat => wrap64 (-(f.getD j 0))) j ∧ inverseP n l z f j + inverseP n l z ((List.range n).map fun j : Nat => wrap64 (-(f.getD j 0))) j ≤ 1) := by
  have hg : (gW n f).length = n := by unfold gW; simp
  have hin : ∀ a ∈ gW n f, -17179869184 ≤ a ∧ a ≤ 17179869184 := by
    intro a ha
    unfold gW at ha
    obtain ⟨i, _, rfl⟩ := List.mem_map.1 ha
    exact clamp_bd (by decide)
  have hin' : ∀ a ∈ (gW n f).map (fun a => -a), -17179869184 ≤ a ∧ a ≤ 17179869184 := by
    intro a ha
    obtain ⟨b, hb, rfl⟩ := List.mem_map.1 ha
    have := hin b hb
    omega
  have e1 := dotW_eq (waveW n) (8 * n) (2 * (2 * j + 1 + n) % (8 * n)) 17179869184 4611686018427387904 (by decide) (by decide) (by decide) (wave_in n) (gW n f) 0 ((2 * j + 1 + n) % (8 * n)) hin (by rw [hg]; omega) (by rw [hg]; omega)
  have e2 := dotW_eq (waveW n) (8 * n) (2 * (2 * j + 1 + n) % (8 * n)) 17179869184 4611686018427387904 (by decide) (by decide) (by decide) (wave_in n) ((gW n f).map fun a => -a) 0 ((2 * j + 1 + n) % (8 * n)) hin' (by rw [List.length_map, hg]; omega) (by rw [List.length_map, hg]; omega)
  have hd := dotE_in (waveW n) (8 * n) (2 * (2 * j + 1 + n) % (8 * n)) 17179869184 (wave_in n) (gW n f) ((2 * j + 1 + n) % (8 * n)) hin
  rw [hg] at hd
  rw [dotE_neg] at e2
  unfold inverseP sumP
  rw [gW_neg n f hb, e1, e2, shapeN_get hz (by omega) hl]
  clear e1 e2 hin hin' hb
  have hs := shapeP_in (p := j) hz (show n ≤ 480 by omega)
  generalize shapeP n l z j = s at *
  generalize dotE (waveW n) (8 * n) (2 * (2 * j + 1 + n) % (8 * n)) (gW n f) ((2 * j + 1 + n) % (8 * n)) = d at *
  have w1 : wrap64 (2 * (0 + d)) = 2 * d := (wrap_id (by omega) (by omega)).trans (by omega)
  have w2 : wrap64 (2 * (0 + -d)) = -(2 * d) := by clear w1; exact (wrap_id (by omega) (by omega)).trans (by omega)
  rw [w1, w2]
  clear w1 w2
  have w3 : wrap64 (2 * d + 16384 * (n : Int)) = 2 * d + 16384 * n := wrap_id (by omega) (by omega)
  have w4 : wrap64 (-(2 * d) + 16384 * (n : Int)) = -(2 * d) + 16384 * n := by clear w3; exact wrap_id (by omega) (by omega)
  rw [w3, w4]
  clear w3 w4
  rw [downI_eq (by omega) (by omega), downI_eq (by omega) (by omega)]
  have hp := half_pair (s := d) (N := 16384 * (n : Int)) (by omega)
  rw [show 2 * (16384 * (n : Int)) = 32768 * n by omega] at hp
  have hc := clamp_pair (M := 16777216) (by decide) hp
  generalize (2 * d + 16384 * (n : Int)) / (32768 * n) = u at *
  generalize (-(2 * d) + 16384 * (n : Int)) / (32768 * n) = v at *
  have b1 := clamp_bd (a := u) (lo := -16777216) (hi := 16777216) (by decide)
  have b2 := clamp_bd (a := v) (lo := -16777216) (hi := 16777216) (by decide)
  exact ⟨mulI_small hs b1, mul_pair hs b1 b2 hc⟩

theorem map_getD (n : Nat) (F : Nat → Int) {j : Nat} (hj : j < n) : ((List.range n).map F).getD j 0 = F j := by
  rw [List.getD_eq_getElem?_getD, List.getElem?_map, List.getElem?_range hj, Option.map_some, Option.getD_some]

theorem nought_l1 (m : Nat) (hm : m ≤ 1000) (F G : Nat → Int) (hF : ∀ j, (-16777216 ≤ F j ∧ F j ≤ 16777216) ∧ (0 ≤ F j + G j ∧ F j + G j ≤ 1)) (d : Nat) : ∀ i, i + d = m →
    Ev (fun k => madrigallaw15_MdctNought.l1 k ((List.range m).map F) ((List.range m).map G) (i : Int)) true := by
  induction d with
  | zero =>
    intro i h
    refine Ev.step (fun k => by rw [madrigallaw15_MdctNought.l1]) ?_
    exact ev_neg (by simp; omega) (Ev.now _)
  | succ d ih =>
    intro i h
    have hn := ih (i + 1) (by omega)
    clear ih
    refine Ev.step (fun k => by rw [madrigallaw15_MdctNought.l1, wsucc (by omega), rd_nat, rd_nat, map_getD m F (by omega), map_getD m G (by omega)]) ?_
    have hf := hF i
    have e : wrap64 (F i + G i) = F i + G i := by
      generalize F i = a at *
      generalize G i = b at *
      exact wrap_id (by omega) (by omega)
    rw [e]
    clear e
    refine ev_pos (by simp; omega) (ev_pos (by omega) (ev_pos (by simp; omega) (ev_neg (by omega) (ev_neg (by omega) hn))))

theorem nought_l0 (n l z : Nat) (hz : 2 * z + l = n) (hl : 2 ≤ l) (h0 : 1 ≤ n) (hn : n ≤ 120) (hg : goodW n l = true) (f : List Int) (hf : f.length = n) (d : Nat) : ∀ (i : Nat), i + d = n →
    (∀ j, j < i → -17179869184 ≤ f.getD j 0 ∧ f.getD j 0 ≤ 17179869184) →
    Ev (fun k => madrigallaw15_MdctNought.l0 k f (l : Int) (n : Int) ((List.range i).map fun j : Nat => wrap64 (-(f.getD j 0))) (i : Int)) true := by
  induction d with
  | zero =>
    intro i h hb
    obtain rfl : i = n := by omega
    refine Ev.step (fun k => by rw [madrigallaw15_MdctNought.l0]) ?_
    refine ev_neg (by omega) (Ev.bind (inv_ev i (by omega) h0 l z hz hl hg f hf) (Ev.bind (inv_ev i (by omega) h0 l z hz hl hg _ (by simp)) ?_))
    exact nought_l1 (2 * i) (by omega) _ _ (fun j => nought_pair i l z hz hl h0 hn f hf hb j) (2 * i) 0 (by omega)
  | succ d ih =>
    intro i h hb
    refine Ev.step (fun k => by rw [madrigallaw15_MdctNought.l0, wsucc (by omega), rd_nat]) ?_
    refine ev_pos (by omega) (ev_pos (by omega) (ev_pos (by omega) ?_))
    by_cases c1 : f.getD i 0 < -17179869184
    · exact ev_pos c1 (Ev.now _)
    · refine ev_neg c1 ?_
      by_cases c2 : f.getD i 0 > 17179869184
      · exact ev_pos c2 (Ev.now _)
      · refine ev_neg c2 (ev_pos (by simp; omega) ?_)
        have hr := ih (i + 1) (by omega) (fun j hj => by
          by_cases c : j = i
          · subst c; omega
          · exact hb j (by omega))
        rw [List.range_succ, List.map_append] at hr
        exact hr

theorem MdctNought : madrigallaw15_MdctNought.Pure := by
  intro f l _ _ _ w2
  have hl := ((Lit.wf_int_iff .i64 l).1 w2).1
  replace hl : -9223372036854775808 ≤ l := hl
  refine Ev.rounds ?_
  unfold madrigallaw15_MdctNought.f madrigallaw15_awake.f
  refine ev_some (ev_pos rfl ?_)
  have hj : Ev (fun k => madrigallaw15_MdctNought.j0 k f l (f.length : Int) true) true := by
    refine Ev.step (fun k => by rw [madrigallaw15_MdctNought.j0]) ?_
    exact ev_pos rfl (Ev.now _)
  by_cases h1 : (f.length : Int) > 120
  · exact ev_pos h1 hj
  · refine ev_neg h1 (ev_bind' (good_f _ _ hl) ?_)
    cases hg : goodW (f.length : Int) l with
    | false => exact hj
    | true =>
      obtain ⟨N, L, Z, hN, rfl, hz, hN2, hL, h4⟩ := good_nat hg
      obtain rfl : f.length = N := by omega
      have e1 : wrap64 (2 * (f.length : Int)) = ((2 * f.length : Nat) : Int) := by rw [wrap_id] <;> omega
      refine Ev.step (fun k => by rw [madrigallaw15_MdctNought.j0, e1, Int.toNat_natCast, Int.toNat_natCast]) ?_
      clear e1
      refine ev_neg (by decide) (ev_pos (by omega) (ev_pos (by omega) (Ev.bind (fwd_ev _ hN2 (by omega) L Z hz hL hg _ (by simp)) (ev_pos (by omega) (ev_pos (by omega) (Ev.bind (inv_ev _ hN2 (by omega) L Z hz hL hg _ (by simp)) (ev_pos rfl (ev_pos rfl ?_))))))))
      rw [forward_zero, inverse_zero _ _ _ (by omega) hN2]
      refine Ev.bind (same_ev _ (by simp; omega)) (ev_pos rfl (Ev.bind (same_ev _ (by simp; omega)) ?_))
      refine Ev.step (fun k => by rw [madrigallaw15_MdctNought.j1]) ?_
      refine ev_neg (by decide) ?_
      exact nought_l0 f.length L Z hz hL (by omega) (by omega) hg f rfl f.length 0 (by omega) (fun j hj => absurd hj (by omega))

end Go.Proofs.Ytnliianjljgcbaa.Pure
