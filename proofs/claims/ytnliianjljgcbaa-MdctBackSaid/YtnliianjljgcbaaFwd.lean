/- What Forward comes to, of the program and of the reference: one plain form. Condition: blocks that are good. -/
import Derived.Test.YtnliianjljgcbaaMAx3
import Derived.Test.YtnliianjljgcbaaMAx8
import Derived.Test.YtnliianjljgcbaaDot
namespace Go.Proofs.Ytnliianjljgcbaa.Fwd
open Go.RowKit Go.Proofs.YtnliianjljgcbaaW.PrintWords Go.Proofs.YtnliianjljgcbaaW.PrintLast Go.Proofs.YtnliianjljgcbaaW.PrintMore Go.Proofs.Ytnliianjljgcbaa.Core Go.Proofs.Ytnliianjljgcbaa.MA Go.Proofs.Ytnliianjljgcbaa.Base Go.Proofs.Ytnliianjljgcbaa.RefA Go.Proofs.Ytnliianjljgcbaa.Cos Go.Proofs.Ytnliianjljgcbaa.Win Go.Proofs.Ytnliianjljgcbaa.Shape Go.Proofs.Ytnliianjljgcbaa.Dot

section
variable (n : Nat) (hn : n ≤ 480) (h0 : 1 ≤ n)
include hn h0

theorem fwd_l2 (v out : List Int) (K step len : Nat) (hv : v.length ≤ 1000) (hK : K < out.length) (ho : out.length ≤ 1000) (hs : step < 8 * n) (r : List Int × Int)
    (d : Nat) : ∀ (i : Nat) (s : Int) (p : Nat), i + d = v.length → p < 8 * n →
      Ev (fun k => mdct_Forward.l1 k (n : Int) v (waveW n) (out.set K (dotW (waveW n) (8 * n) step (v.drop i) s p / 32768)) (len : Int) ((K + 1 : Nat) : Int)) r →
      Ev (fun k => mdct_Forward.l2 k (n : Int) v (waveW n) out (K : Int) s (p : Int) (step : Int) (len : Int) (K : Int) v (v.length : Int) (i : Int)) r := by
  have hw := waveW_length n
  induction d with
  | zero =>
    intro i s p h1 hp hc
    refine Ev.step (fun k => by rw [mdct_Forward.l2, Int.toNat_natCast]) ?_
    refine ev_neg (by omega) (ev_pos (by omega) (ev_pos (by omega) ?_))
    rw [wsucc (by omega)]
    rw [List.drop_eq_nil_of_le (by omega)] at hc
    exact hc
  | succ d ih =>
    intro i s p h1 hp hc
    have e1 : wrap64 ((p : Int) + step) = ((p + step : Nat) : Int) := by clear ih hc; rw [wrap_id] <;> omega
    have e3 : wrap64 ((i : Int) + 1) = ((i + 1 : Nat) : Int) := by clear ih hc e1; exact wsucc (by omega)
    refine Ev.step (fun k => by rw [mdct_Forward.l2, e1, e3, hw, rd_nat, rd_nat]) ?_
    clear e1 e3 hw
    refine ev_pos (by omega) (ev_pos (by omega) (ev_pos (by omega) (ev_pos (by omega) (ev_pos (by omega) ?_))))
    have e : v.getD i 0 = v[i]'(by omega) := by simp [List.getD, List.getElem?_eq_getElem (show i < v.length by omega)]
    rw [List.drop_eq_getElem_cons (by omega), dotW, ← e] at hc
    by_cases c : 8 * n ≤ p + step
    · rw [if_pos c] at hc
      have e2 : wrap64 (((p + step : Nat) : Int) - ((8 * n : Nat) : Int)) = ((p + step - 8 * n : Nat) : Int) := by clear ih hc; rw [wrap_id] <;> omega
      rw [e2]
      exact ev_pos (by omega) (ih (i + 1) _ _ (by omega) (by omega) hc)
    · rw [if_neg c] at hc
      exact ev_neg (by omega) (ih (i + 1) _ _ (by omega) (by omega) hc)

/-- where a block's sums begin -/
theorem at_eq (j : Nat) (hj : j < n) : Int.tmod (wrap64 ((wrap64 (1 + (n : Int))) * (wrap64 ((wrap64 (2 * (j : Int))) + 1)))) (wrap64 (8 * (n : Int))) = (((1 + n) * (2 * j + 1) % (8 * n) : Nat) : Int) := by
  have e1 : wrap64 (1 + (n : Int)) = ((1 + n : Nat) : Int) := by rw [wrap_id] <;> omega
  have e2 : wrap64 (2 * (j : Int)) = 2 * j := wrap_id (by omega) (by omega)
  have e3 : wrap64 (2 * (j : Int) + 1) = ((2 * j + 1 : Nat) : Int) := by clear e1 e2; rw [wrap_id] <;> omega
  have e4 : wrap64 (8 * (n : Int)) = ((8 * n : Nat) : Int) := by clear e1 e2 e3; rw [wrap_id] <;> omega
  have hb : (1 + n) * (2 * j + 1) ≤ 481 * 961 := Nat.mul_le_mul (by omega) (by omega)
  have e5 : wrap64 (((1 + n : Nat) : Int) * ((2 * j + 1 : Nat) : Int)) = (((1 + n) * (2 * j + 1) : Nat) : Int) := by
    rw [← Int.natCast_mul]
    clear e1 e2 e3 e4
    generalize (1 + n) * (2 * j + 1) = q at *
    exact wrap_id (by omega) (by omega)
  rw [e1, e2, e3, e4, e5]
  rfl

theorem step_eq (j : Nat) (hj : j < n) : Int.tmod (wrap64 (2 * (wrap64 ((wrap64 (2 * (j : Int))) + 1)))) (wrap64 (8 * (n : Int))) = ((2 * (2 * j + 1) : Nat) : Int) := by
  have e2 : wrap64 (2 * (j : Int)) = 2 * j := wrap_id (by omega) (by omega)
  have e3 : wrap64 (2 * (j : Int) + 1) = ((2 * j + 1 : Nat) : Int) := by clear e2; rw [wrap_id] <;> omega
  have e4 : wrap64 (8 * (n : Int)) = ((8 * n : Nat) : Int) := by clear e2 e3; rw [wrap_id] <;> omega
  have e5 : wrap64 (2 * ((2 * j + 1 : Nat) : Int)) = ((2 * (2 * j + 1) : Nat) : Int) := by clear e2 e3 e4; rw [wrap_id] <;> omega
  rw [e2, e3, e4, e5]
  show ((2 * (2 * j + 1) % (8 * n) : Nat) : Int) = _
  rw [Nat.mod_eq_of_lt (by omega)]

theorem fwd_l1 (v : List Int) (hv : v.length ≤ 1000) (d : Nat) : ∀ (K : Nat) (out : List Int), K + d = n → out.length = n →
    Ev (fun k => mdct_Forward.l1 k (n : Int) v (waveW n) out ((n : Nat) : Int) (K : Int)) (fill (fun j => dotW (waveW n) (8 * n) (2 * (2 * j + 1)) v 16384 ((1 + n) * (2 * j + 1) % (8 * n)) / 32768) out K d, 0) := by
  induction d with
  | zero =>
    intro K out h1 h2
    refine Ev.step (fun k => by rw [mdct_Forward.l1]) ?_
    exact ev_neg (by omega) (Ev.now _)
  | succ d ih =>
    intro K out h1 h2
    refine Ev.step (fun k => by rw [mdct_Forward.l1, at_eq n hn h0 K (by omega), step_eq n hn h0 K (by omega)]) ?_
    refine ev_pos (by omega) (ev_neg ?_ ?_)
    · rw [wrap_id (n := 8 * (n : Int)) (by omega) (by omega)]; omega
    · have hm : (1 + n) * (2 * K + 1) % (8 * n) < 8 * n := Nat.mod_lt _ (by omega)
      refine fwd_l2 n hn h0 v out K _ n hv (by omega) (by omega) (by omega) _ v.length 0 16384 _ (by omega) hm ?_
      exact ih (K + 1) _ (by omega) (by simpa using h2)

theorem fwd_l0 (l z : Nat) (hz : 2 * z + l = n) (x : List Int) (hx : x.length = 2 * n) (d : Nat) : ∀ (i : Nat) (v : List Int), i + d = 2 * n → v.length = 2 * n →
    fill (fun j => mulI ((shapeN n l z).getD j 0) (clamp (x.getD j 0) (-16777216) 16777216) 15) v i d = vW n l z x →
    Ev (fun k => mdct_Forward.l0 k x (n : Int) (shapeN n l z) v ((2 * n : Nat) : Int) (i : Int)) (forwardW n l z x, 0) := by
  have hS := shapeN_length n l z
  induction d with
  | zero =>
    intro i v h1 h2 h3
    rw [fill] at h3
    subst h3
    refine Ev.step (fun k => by rw [mdct_Forward.l0, Int.toNat_natCast]) ?_
    refine ev_neg (by omega) (Ev.bind (waves_ev n hn h0) (ev_pos (by omega) (ev_pos (by omega) (ev_some ?_))))
    have h := fwd_l1 n hn h0 (vW n l z x) (by omega) n 0 (List.replicate n 0) (by omega) (by simp)
    have h4 := fill_all (fun j => dotW (waveW n) (8 * n) (2 * (2 * j + 1)) (vW n l z x) 16384 ((1 + n) * (2 * j + 1) % (8 * n)) / 32768) (List.replicate n 0)
    rw [List.length_replicate] at h4
    rw [h4] at h
    rw [List.length_replicate]
    exact h
  | succ d ih =>
    intro i v h1 h2 h3
    refine Ev.step (fun k => by rw [mdct_Forward.l0, wsucc (by omega), rd_nat, rd_nat, Int.toNat_natCast]) ?_
    refine ev_pos (by omega) (ev_pos (by omega) (ev_pos (by omega) (ev_pos (by omega) (Ev.bind (clamp_ev _ _ _) (Ev.bind (mul_ev _ _ _ (by omega) (by omega)) (ev_pos (by omega) ?_))))))
    exact ih (i + 1) _ (by omega) (by simpa using h2) h3

theorem fwd_ev (l z : Nat) (hz : 2 * z + l = n) (hl : 2 ≤ l) (hg : goodW n l = true) (x : List Int) (hx : x.length = 2 * n) :
    Ev (fun k => mdct_Forward.f k x (l : Int)) (forwardW n l z x, 0) := by
  unfold mdct_Forward.f
  have e1 : wrap64 ((x.length : Int) / 2) = (n : Int) := by rw [wrap_id] <;> omega
  rw [e1]
  refine Ev.bind (shape_ev n l z hz hn hl hg) (ev_pos rfl ?_)
  have e2 : (((x.length : Int) % 2) != 0) = false := by rw [show (x.length : Int) % 2 = 0 by omega]; rfl
  rw [e2]
  refine Ev.step (fun k => by rw [mdct_Forward.j0, hx, Int.toNat_natCast]) ?_
  refine ev_neg (by decide) (ev_pos (by omega) (ev_pos (by omega) (ev_some ?_)))
  rw [List.length_replicate]
  refine fwd_l0 n hn h0 l z hz x hx (2 * n) 0 _ (by omega) (by simp) ?_
  have h4 := fill_all (fun j => mulI ((shapeN n l z).getD j 0) (clamp (x.getD j 0) (-16777216) 16777216) 15) (List.replicate (2 * n) 0)
  rw [List.length_replicate] at h4
  rw [h4]; rfl

theorem rfwd_l2 (v out : List Int) (K : Nat) (hv : v.length = 2 * n) (hK : K < n) (ho : out.length ≤ 1000) (r : List Int)
    (d : Nat) : ∀ (i : Nat) (s : Int) (p : Nat), i + d = 2 * n → p < 8 * n →
      Ev (fun k => madrigalref10_Forward.l1 k (n : Int) (waveW n) v (out ++ [dotW (waveW n) (8 * n) (2 * (2 * K + 1)) (v.drop i) s p / 32768]) ((K + 1 : Nat) : Int)) r →
      Ev (fun k => madrigalref10_Forward.l2 k (n : Int) (waveW n) v out (K : Int) s (p : Int) (i : Int)) r := by
  have hw := waveW_length n
  have e6 : wrap64 (2 * (n : Int)) = 2 * n := wrap_id (by omega) (by omega)
  have e7 : wrap64 (8 * (n : Int)) = ((8 * n : Nat) : Int) := by clear e6; rw [wrap_id] <;> omega
  have e5 : wrap64 (2 * (wrap64 ((wrap64 (2 * (K : Int))) + 1))) = ((2 * (2 * K + 1) : Nat) : Int) := by
    clear e6 e7
    have e2 : wrap64 (2 * (K : Int)) = 2 * K := wrap_id (by omega) (by omega)
    have e3 : wrap64 (2 * (K : Int) + 1) = ((2 * K + 1 : Nat) : Int) := by clear e2; rw [wrap_id] <;> omega
    rw [e2, e3]
    clear e2 e3
    rw [wrap_id] <;> omega
  induction d with
  | zero =>
    intro i s p h1 hp hc
    refine Ev.step (fun k => by rw [madrigalref10_Forward.l2, e6]) ?_
    refine ev_neg (by omega) (ev_pos (by omega) ?_)
    rw [wsucc (by omega)]
    rw [List.drop_eq_nil_of_le (by omega)] at hc
    exact hc
  | succ d ih =>
    intro i s p h1 hp hc
    have e1 : wrap64 ((p : Int) + ((2 * (2 * K + 1) : Nat) : Int)) = ((p + 2 * (2 * K + 1) : Nat) : Int) := by clear ih hc e5 e6 e7; rw [wrap_id] <;> omega
    have e3 : wrap64 ((i : Int) + 1) = ((i + 1 : Nat) : Int) := by clear ih hc e1 e5 e6 e7; exact wsucc (by omega)
    refine Ev.step (fun k => by rw [madrigalref10_Forward.l2, e6, e5, e7, e1, e3, hw, rd_nat, rd_nat]) ?_
    clear e1 e3 hw e5 e6 e7
    refine ev_pos (by omega) (ev_pos (by omega) (ev_pos (by omega) (ev_pos (by omega) (ev_pos (by omega) ?_))))
    have e : v.getD i 0 = v[i]'(by omega) := by simp [List.getD, List.getElem?_eq_getElem (show i < v.length by omega)]
    rw [List.drop_eq_getElem_cons (by omega), dotW, ← e] at hc
    by_cases c : 8 * n ≤ p + 2 * (2 * K + 1)
    · rw [if_pos c] at hc
      have e2 : wrap64 (((p + 2 * (2 * K + 1) : Nat) : Int) - ((8 * n : Nat) : Int)) = ((p + 2 * (2 * K + 1) - 8 * n : Nat) : Int) := by clear ih hc; rw [wrap_id] <;> omega
      rw [e2]
      exact ev_pos (by omega) (ih (i + 1) _ _ (by omega) (by omega) hc)
    · rw [if_neg c] at hc
      exact ev_neg (by omega) (ih (i + 1) _ _ (by omega) (by omega) hc)

theorem rfwd_l1 (v : List Int) (hv : v.length = 2 * n) (d : Nat) : ∀ (K : Nat), K + d = n →
    Ev (fun k => madrigalref10_Forward.l1 k (n : Int) (waveW n) v ((List.range K).map fun j : Nat => dotW (waveW n) (8 * n) (2 * (2 * j + 1)) v 16384 ((1 + n) * (2 * j + 1) % (8 * n)) / 32768) (K : Int))
      ((List.range n).map fun j : Nat => dotW (waveW n) (8 * n) (2 * (2 * j + 1)) v 16384 ((1 + n) * (2 * j + 1) % (8 * n)) / 32768) := by
  induction d with
  | zero =>
    intro K h1
    refine Ev.step (fun k => by rw [madrigalref10_Forward.l1]) ?_
    rw [show K = n by omega]
    exact ev_neg (by omega) (Ev.now _)
  | succ d ih =>
    intro K h1
    refine Ev.step (fun k => by rw [madrigalref10_Forward.l1, at_eq n hn h0 K (by omega)]) ?_
    refine ev_pos (by omega) (ev_neg ?_ ?_)
    · rw [wrap_id (n := 8 * (n : Int)) (by omega) (by omega)]; omega
    · have hm : (1 + n) * (2 * K + 1) % (8 * n) < 8 * n := Nat.mod_lt _ (by omega)
      refine rfwd_l2 n hn h0 v _ K hv (by omega) (by simp; omega) _ (2 * n) 0 16384 _ (by omega) hm ?_
      have h := ih (K + 1) (by omega)
      rw [List.range_succ, List.map_append] at h
      exact h

theorem rfwd_l0 (l z : Nat) (hz : 2 * z + l = n) (x : List Int) (hx : x.length = 2 * n) (d : Nat) : ∀ (i : Nat) (v : List Int), i + d = 2 * n → v.length = 2 * n →
    fill (fun j => mulI ((shapeN n l z).getD j 0) (clamp (x.getD j 0) (-16777216) 16777216) 15) v i d = vW n l z x →
    Ev (fun k => madrigalref10_Forward.l0 k x (n : Int) (shapeN n l z) (waveW n) v (i : Int)) (forwardW n l z x) := by
  have hS := shapeN_length n l z
  have e6 : wrap64 (2 * (n : Int)) = 2 * n := wrap_id (by omega) (by omega)
  induction d with
  | zero =>
    intro i v h1 h2 h3
    rw [fill] at h3
    subst h3
    refine Ev.step (fun k => by rw [madrigalref10_Forward.l0, e6]) ?_
    refine ev_neg (by omega) ?_
    exact rfwd_l1 n hn h0 (vW n l z x) (by omega) n 0 (by omega)
  | succ d ih =>
    intro i v h1 h2 h3
    have e3 : wrap64 ((i : Int) + 1) = ((i + 1 : Nat) : Int) := by clear ih e6; exact wsucc (by omega)
    refine Ev.step (fun k => by rw [madrigalref10_Forward.l0, e6, e3, rd_nat, rd_nat, Int.toNat_natCast]) ?_
    refine ev_pos (by omega) (ev_pos (by omega) (ev_pos (by omega) (ev_pos (by omega) (Ev.bind (a := clamp (x.getD i 0) (-16777216) 16777216) ?_ (Ev.bind (rmul_ev _ _ _ (by omega) (by omega)) (ev_pos (by omega) ?_))))))
    · unfold madrigalref10_keep.f
      exact Ev.bind (rclamp_ev _ _ _) (Ev.now _)
    · exact ih (i + 1) _ (by omega) (by simpa using h2) h3

theorem rfwd_ev (l z : Nat) (hz : 2 * z + l = n) (hl : 2 ≤ l) (x : List Int) (hx : x.length = 2 * n) :
    Ev (fun k => madrigalref10_Forward.f k x (l : Int)) (forwardW n l z x) := by
  unfold madrigalref10_Forward.f
  have e1 : wrap64 ((x.length : Int) / 2) = (n : Int) := by rw [wrap_id] <;> omega
  have e6 : wrap64 (2 * (n : Int)) = ((2 * n : Nat) : Int) := by rw [wrap_id] <;> omega
  rw [e1, e6, Int.toNat_natCast]
  refine Ev.bind (rshape_ev n l z hz hn hl) (Ev.bind (table_ev n hn h0) (ev_pos (by omega) (ev_pos (by omega) ?_)))
  refine rfwd_l0 n hn h0 l z hz x hx (2 * n) 0 _ (by omega) (by simp) ?_
  have h4 := fill_all (fun j => mulI ((shapeN n l z).getD j 0) (clamp (x.getD j 0) (-16777216) 16777216) 15) (List.replicate (2 * n) 0)
  rw [List.length_replicate] at h4
  rw [h4]; rfl
end

theorem fwd_bad (x : List Int) (l : Int) (hl : -9223372036854775808 ≤ l) (hx : x.length ≤ 1000000) (h : (x.length : Int) % 2 ≠ 0 ∨ goodW ((x.length / 2 : Nat) : Int) l = false) :
    Ev (fun k => mdct_Forward.f k x l) ([], 1) := by
  unfold mdct_Forward.f
  have e1 : wrap64 ((x.length : Int) / 2) = ((x.length / 2 : Nat) : Int) := by rw [wrap_id] <;> omega
  rw [e1]
  have hj : ∀ s, Ev (fun k => mdct_Forward.j0 k x ((x.length / 2 : Nat) : Int) s true) ([], 1) := by
    intro s
    refine Ev.step (fun k => by rw [mdct_Forward.j0]) ?_
    exact ev_pos rfl (Ev.now _)
  cases hg : goodW ((x.length / 2 : Nat) : Int) l with
  | false => exact Ev.bind (shape_bad _ l hl hg) (ev_neg (by decide) (hj _))
  | true =>
    obtain ⟨N, L, Z, hN, rfl, hz, hN2, hL, _⟩ := good_nat hg
    have hodd : (x.length : Int) % 2 ≠ 0 := by
      rcases h with h | h
      · exact h
      · rw [hg] at h; exact absurd h (by decide)
    obtain rfl : x.length / 2 = N := by omega
    refine Ev.bind (shape_ev _ L Z hz hN2 hL hg) (ev_pos rfl ?_)
    have e2 : (((x.length : Int) % 2) != 0) = true := by simpa using hodd
    rw [e2]
    exact hj _

end Go.Proofs.Ytnliianjljgcbaa.Fwd
