/- What Inverse comes to, of the program and of the reference: one plain form. Condition: blocks that are good. -/
import Derived.Test.YtnliianjljgcbaaFwd
namespace Go.Proofs.Ytnliianjljgcbaa.Inv
open Go.RowKit Go.Proofs.YtnliianjljgcbaaW.PrintWords Go.Proofs.YtnliianjljgcbaaW.PrintLast Go.Proofs.YtnliianjljgcbaaW.PrintMore Go.Proofs.Ytnliianjljgcbaa.Core Go.Proofs.Ytnliianjljgcbaa.MA Go.Proofs.Ytnliianjljgcbaa.Base Go.Proofs.Ytnliianjljgcbaa.RefA Go.Proofs.Ytnliianjljgcbaa.Cos Go.Proofs.Ytnliianjljgcbaa.Win Go.Proofs.Ytnliianjljgcbaa.Shape Go.Proofs.Ytnliianjljgcbaa.Dot

theorem down_f (a b : Int) (h : b ≠ 0) : mdct_down.f a b = some (downI a b) := by
  unfold mdct_down.f downI
  rw [if_neg h]
  split <;> rfl
theorem rdown_f (a b : Int) (h : b ≠ 0) : madrigalref1_Down.f a b = some (downI a b) := down_f a b h

section
variable (n : Nat) (hn : n ≤ 480) (h0 : 1 ≤ n)
include hn h0

/-- where a block's sums begin, and by what they go on -/
theorem iat_eq (j : Nat) (hj : j < 2 * n) : Int.tmod (wrap64 ((wrap64 ((wrap64 (2 * (j : Int))) + 1)) + (n : Int))) (wrap64 (8 * (n : Int))) = (((2 * j + 1 + n) % (8 * n) : Nat) : Int) := by
  have e2 : wrap64 (2 * (j : Int)) = 2 * j := wrap_id (by omega) (by omega)
  have e3 : wrap64 (2 * (j : Int) + 1) = ((2 * j + 1 : Nat) : Int) := by clear e2; rw [wrap_id] <;> omega
  have e4 : wrap64 (8 * (n : Int)) = ((8 * n : Nat) : Int) := by clear e2 e3; rw [wrap_id] <;> omega
  have e5 : wrap64 (((2 * j + 1 : Nat) : Int) + n) = ((2 * j + 1 + n : Nat) : Int) := by clear e2 e3 e4; rw [wrap_id] <;> omega
  rw [e2, e3, e4, e5]
  rfl
theorem istep_eq (j : Nat) (hj : j < 2 * n) : Int.tmod (wrap64 (2 * (wrap64 ((wrap64 ((wrap64 (2 * (j : Int))) + 1)) + (n : Int))))) (wrap64 (8 * (n : Int))) = ((2 * (2 * j + 1 + n) % (8 * n) : Nat) : Int) := by
  have e2 : wrap64 (2 * (j : Int)) = 2 * j := wrap_id (by omega) (by omega)
  have e3 : wrap64 (2 * (j : Int) + 1) = ((2 * j + 1 : Nat) : Int) := by clear e2; rw [wrap_id] <;> omega
  have e4 : wrap64 (8 * (n : Int)) = ((8 * n : Nat) : Int) := by clear e2 e3; rw [wrap_id] <;> omega
  have e5 : wrap64 (((2 * j + 1 : Nat) : Int) + n) = ((2 * j + 1 + n : Nat) : Int) := by clear e2 e3 e4; rw [wrap_id] <;> omega
  have e6 : wrap64 (2 * ((2 * j + 1 + n : Nat) : Int)) = ((2 * (2 * j + 1 + n) : Nat) : Int) := by clear e2 e3 e4 e5; rw [wrap_id] <;> omega
  rw [e2, e3, e4, e5, e6]
  rfl

theorem inv_l2 (shape g out : List Int) (J step len : Nat) (hS : shape.length = 2 * n) (hv : g.length ≤ 1000) (hJ : J < 2 * n) (ho : out.length = 2 * n) (hs : step < 8 * n) (r : List Int × Int)
    (d : Nat) : ∀ (i : Nat) (s : Int) (p : Nat), i + d = g.length → p < 8 * n →
      Ev (fun k => mdct_Inverse.l1 k (n : Int) shape g (waveW n) (out.set J (mulI (shape.getD J 0) (clamp (downI (wrap64 (wrap64 (2 * dotW (waveW n) (8 * n) step (g.drop i) s p) + 16384 * n)) (32768 * n)) (-16777216) 16777216) 15)) (len : Int) ((J + 1 : Nat) : Int)) r →
      Ev (fun k => mdct_Inverse.l2 k (n : Int) shape g (waveW n) out (J : Int) s (p : Int) (step : Int) (len : Int) (J : Int) g (g.length : Int) (i : Int)) r := by
  have hw := waveW_length n
  induction d with
  | zero =>
    intro i s p h1 hp hc
    have e7 : wrap64 (16384 * (n : Int)) = 16384 * n := wrap_id (by omega) (by omega)
    have e8 : wrap64 (32768 * (n : Int)) = 32768 * n := by clear e7; exact wrap_id (by omega) (by omega)
    have e9 : wrap64 ((J : Int) + 1) = ((J + 1 : Nat) : Int) := by clear e7 e8; exact wsucc (by omega)
    refine Ev.step (fun k => by rw [mdct_Inverse.l2, e7, e8, e9, rd_nat, Int.toNat_natCast]) ?_
    clear e7 e8 e9 hw
    rw [List.drop_eq_nil_of_le (by omega)] at hc
    refine ev_neg (by omega) (ev_pos (by omega) (ev_pos (by omega) (ev_bind' (down_f _ _ (by omega)) (Ev.bind (clamp_ev _ _ _) (Ev.bind (mul_ev _ _ _ (by omega) (by omega)) (ev_pos (by omega) ?_))))))
    exact hc
  | succ d ih =>
    intro i s p h1 hp hc
    have e1 : wrap64 ((p : Int) + step) = ((p + step : Nat) : Int) := by clear ih hc; rw [wrap_id] <;> omega
    have e3 : wrap64 ((i : Int) + 1) = ((i + 1 : Nat) : Int) := by clear ih hc e1; exact wsucc (by omega)
    refine Ev.step (fun k => by rw [mdct_Inverse.l2, e1, e3, hw, rd_nat, rd_nat]) ?_
    clear e1 e3 hw
    refine ev_pos (by omega) (ev_pos (by omega) (ev_pos (by omega) (ev_pos (by omega) (ev_pos (by omega) ?_))))
    have e : g.getD i 0 = g[i]'(by omega) := by simp [List.getD, List.getElem?_eq_getElem (show i < g.length by omega)]
    rw [List.drop_eq_getElem_cons (by omega), dotW, ← e] at hc
    by_cases c : 8 * n ≤ p + step
    · rw [if_pos c] at hc
      have e2 : wrap64 (((p + step : Nat) : Int) - ((8 * n : Nat) : Int)) = ((p + step - 8 * n : Nat) : Int) := by clear ih hc; rw [wrap_id] <;> omega
      rw [e2]
      exact ev_pos (by omega) (ih (i + 1) _ _ (by omega) (by omega) hc)
    · rw [if_neg c] at hc
      exact ev_neg (by omega) (ih (i + 1) _ _ (by omega) (by omega) hc)

theorem inv_l1 (l z : Nat) (f : List Int) (d : Nat) : ∀ (J : Nat) (out : List Int), J + d = 2 * n → out.length = 2 * n →
    Ev (fun k => mdct_Inverse.l1 k (n : Int) (shapeN n l z) (gW n f) (waveW n) out ((2 * n : Nat) : Int) (J : Int)) (fill (fun j => inverseP n l z f j) out J d, 0) := by
  have hS := shapeN_length n l z
  have hG : (gW n f).length = n := by unfold gW; simp
  induction d with
  | zero =>
    intro J out h1 h2
    refine Ev.step (fun k => by rw [mdct_Inverse.l1]) ?_
    exact ev_neg (by omega) (Ev.now _)
  | succ d ih =>
    intro J out h1 h2
    refine Ev.step (fun k => by rw [mdct_Inverse.l1, iat_eq n hn h0 J (by omega), istep_eq n hn h0 J (by omega)]) ?_
    refine ev_pos (by omega) (ev_neg ?_ ?_)
    · rw [wrap_id (n := 8 * (n : Int)) (by omega) (by omega)]; omega
    · have hm : (2 * J + 1 + n) % (8 * n) < 8 * n := Nat.mod_lt _ (by omega)
      have hm2 : 2 * (2 * J + 1 + n) % (8 * n) < 8 * n := Nat.mod_lt _ (by omega)
      refine inv_l2 n hn h0 _ _ out J _ (2 * n) hS (by omega) (by omega) (by omega) hm2 _ (gW n f).length 0 0 _ (by omega) hm ?_
      exact ih (J + 1) _ (by omega) (by simpa using h2)

theorem inv_l0 (l z : Nat) (f : List Int) (hf : f.length = n) (d : Nat) : ∀ (i : Nat) (v : List Int), i + d = n → v.length = n →
    fill (fun j => clamp (f.getD j 0) (-17179869184) 17179869184) v i d = gW n f →
    Ev (fun k => mdct_Inverse.l0 k (n : Int) (shapeN n l z) v f ((n : Nat) : Int) (i : Int)) (inverseW n l z f, 0) := by
  induction d with
  | zero =>
    intro i v h1 h2 h3
    rw [fill] at h3
    subst h3
    have e6 : wrap64 (2 * (n : Int)) = ((2 * n : Nat) : Int) := by rw [wrap_id] <;> omega
    refine Ev.step (fun k => by rw [mdct_Inverse.l0, e6, Int.toNat_natCast]) ?_
    clear e6
    refine ev_neg (by omega) (Ev.bind (waves_ev n hn h0) (ev_pos (by omega) (ev_pos (by omega) (ev_some ?_))))
    have h := inv_l1 n hn h0 l z f (2 * n) 0 (List.replicate (2 * n) 0) (by omega) (by simp)
    have h4 := fill_all (fun j => inverseP n l z f j) (List.replicate (2 * n) 0)
    rw [List.length_replicate] at h4
    rw [h4] at h
    rw [List.length_replicate]
    exact h
  | succ d ih =>
    intro i v h1 h2 h3
    refine Ev.step (fun k => by rw [mdct_Inverse.l0, wsucc (by omega), rd_nat, Int.toNat_natCast]) ?_
    refine ev_pos (by omega) (ev_pos (by omega) (ev_pos (by omega) (Ev.bind (clamp_ev _ _ _) (ev_pos (by omega) ?_))))
    exact ih (i + 1) _ (by omega) (by simpa using h2) h3

theorem inv_ev (l z : Nat) (hz : 2 * z + l = n) (hl : 2 ≤ l) (hg : goodW n l = true) (f : List Int) (hf : f.length = n) :
    Ev (fun k => mdct_Inverse.f k f (l : Int)) (inverseW n l z f, 0) := by
  unfold mdct_Inverse.f
  rw [hf, Int.toNat_natCast]
  refine Ev.bind (shape_ev n l z hz hn hl hg) (ev_pos rfl (ev_pos (by omega) (ev_pos (by omega) ?_)))
  refine inv_l0 n hn h0 l z f hf n 0 _ (by omega) (by simp) ?_
  have h4 := fill_all (fun j => clamp (f.getD j 0) (-17179869184) 17179869184) (List.replicate n 0)
  rw [List.length_replicate] at h4
  rw [h4]; rfl

theorem rinv_l2 (shape g out : List Int) (J step : Nat) (hS : shape.length = 2 * n) (hv : g.length = n) (hJ : J < 2 * n) (ho : out.length ≤ 1000) (hs : step < 8 * n) (r : List Int)
    (d : Nat) : ∀ (i : Nat) (s : Int) (p : Nat), i + d = n → p < 8 * n →
      Ev (fun k => madrigalref10_Inverse.l1 k (n : Int) shape (waveW n) (out ++ [mulI (shape.getD J 0) (clamp (downI (wrap64 (wrap64 (2 * dotW (waveW n) (8 * n) step (g.drop i) s p) + 16384 * n)) (32768 * n)) (-16777216) 16777216) 15]) g ((J + 1 : Nat) : Int)) r →
      Ev (fun k => madrigalref10_Inverse.l2 k (n : Int) shape (waveW n) out g (J : Int) s (p : Int) (step : Int) (i : Int)) r := by
  have hw := waveW_length n
  have e6 : wrap64 (8 * (n : Int)) = ((8 * n : Nat) : Int) := by rw [wrap_id] <;> omega
  induction d with
  | zero =>
    intro i s p h1 hp hc
    clear e6
    have e7 : wrap64 ((n : Int) * 16384) = 16384 * n := (wrap_id (by omega) (by omega)).trans (by omega)
    have e8 : wrap64 ((n : Int) * 32768) = 32768 * n := by clear e7; exact (wrap_id (by omega) (by omega)).trans (by omega)
    have e9 : wrap64 ((J : Int) + 1) = ((J + 1 : Nat) : Int) := by clear e7 e8; exact wsucc (by omega)
    refine Ev.step (fun k => by rw [madrigalref10_Inverse.l2, e7, e8, e9, rd_nat]) ?_
    clear e7 e8 e9 hw
    rw [List.drop_eq_nil_of_le (by omega)] at hc
    refine ev_neg (by omega) (ev_bind' (rdown_f _ _ (by omega)) (Ev.bind (a := clamp (downI (wrap64 (wrap64 (2 * s) + 16384 * n)) (32768 * n)) (-16777216) 16777216) ?_ (ev_pos (by omega) (ev_pos (by omega) (Ev.bind (rmul_ev _ _ _ (by omega) (by omega)) (ev_pos (by omega) ?_))))))
    · unfold madrigalref10_keep.f
      exact Ev.bind (rclamp_ev _ _ _) (Ev.now _)
    · exact hc
  | succ d ih =>
    intro i s p h1 hp hc
    have e1 : wrap64 ((p : Int) + step) = ((p + step : Nat) : Int) := by clear ih hc e6; rw [wrap_id] <;> omega
    have e3 : wrap64 ((i : Int) + 1) = ((i + 1 : Nat) : Int) := by clear ih hc e1 e6; exact wsucc (by omega)
    refine Ev.step (fun k => by rw [madrigalref10_Inverse.l2, e6, e1, e3, hw, rd_nat, rd_nat]) ?_
    clear e1 e3 e6 hw
    refine ev_pos (by omega) (ev_pos (by omega) (ev_pos (by omega) (ev_pos (by omega) (ev_pos (by omega) ?_))))
    have e : g.getD i 0 = g[i]'(by omega) := by simp [List.getD, List.getElem?_eq_getElem (show i < g.length by omega)]
    rw [List.drop_eq_getElem_cons (by omega), dotW, ← e] at hc
    by_cases c : 8 * n ≤ p + step
    · rw [if_pos c] at hc
      have e2 : wrap64 (((p + step : Nat) : Int) - ((8 * n : Nat) : Int)) = ((p + step - 8 * n : Nat) : Int) := by clear ih hc; rw [wrap_id] <;> omega
      rw [e2]
      exact ev_pos (by omega) (ih (i + 1) _ _ (by omega) (by omega) hc)
    · rw [if_neg c] at hc
      exact ev_neg (by omega) (ih (i + 1) _ _ (by omega) (by omega) hc)

theorem rinv_l1 (l z : Nat) (f : List Int) (d : Nat) : ∀ (J : Nat), J + d = 2 * n →
    Ev (fun k => madrigalref10_Inverse.l1 k (n : Int) (shapeN n l z) (waveW n) ((List.range J).map fun j : Nat => inverseP n l z f j) (gW n f) (J : Int)) (inverseW n l z f) := by
  have hS := shapeN_length n l z
  have hG : (gW n f).length = n := by unfold gW; simp
  have e6 : wrap64 (2 * (n : Int)) = 2 * n := wrap_id (by omega) (by omega)
  induction d with
  | zero =>
    intro J h1
    refine Ev.step (fun k => by rw [madrigalref10_Inverse.l1, e6]) ?_
    rw [show J = 2 * n by omega]
    exact ev_neg (by omega) (Ev.now _)
  | succ d ih =>
    intro J h1
    refine Ev.step (fun k => by rw [madrigalref10_Inverse.l1, e6, iat_eq n hn h0 J (by omega), istep_eq n hn h0 J (by omega)]) ?_
    clear e6
    refine ev_pos (by omega) (ev_neg ?_ ?_)
    · rw [wrap_id (n := 8 * (n : Int)) (by omega) (by omega)]; omega
    · have hm : (2 * J + 1 + n) % (8 * n) < 8 * n := Nat.mod_lt _ (by omega)
      have hm2 : 2 * (2 * J + 1 + n) % (8 * n) < 8 * n := Nat.mod_lt _ (by omega)
      refine rinv_l2 n hn h0 _ _ _ J _ hS hG (by omega) (by simp; omega) hm2 _ n 0 0 _ (by omega) hm ?_
      have h := ih (J + 1) (by omega)
      rw [List.range_succ, List.map_append] at h
      exact h

theorem rinv_l0 (l z : Nat) (f : List Int) (hf : f.length = n) (d : Nat) : ∀ (i : Nat) (v : List Int), i + d = n → v.length = n →
    fill (fun j => clamp (f.getD j 0) (-17179869184) 17179869184) v i d = gW n f →
    Ev (fun k => madrigalref10_Inverse.l0 k f (n : Int) (shapeN n l z) (waveW n) v (i : Int)) (inverseW n l z f) := by
  induction d with
  | zero =>
    intro i v h1 h2 h3
    rw [fill] at h3
    subst h3
    refine Ev.step (fun k => by rw [madrigalref10_Inverse.l0]) ?_
    refine ev_neg (by omega) ?_
    exact rinv_l1 n hn h0 l z f (2 * n) 0 (by omega)
  | succ d ih =>
    intro i v h1 h2 h3
    refine Ev.step (fun k => by rw [madrigalref10_Inverse.l0, wsucc (by omega), rd_nat, Int.toNat_natCast]) ?_
    refine ev_pos (by omega) (ev_pos (by omega) (ev_pos (by omega) (Ev.bind (rclamp_ev _ _ _) (ev_pos (by omega) ?_))))
    exact ih (i + 1) _ (by omega) (by simpa using h2) h3

theorem rinv_ev (l z : Nat) (hz : 2 * z + l = n) (hl : 2 ≤ l) (f : List Int) (hf : f.length = n) :
    Ev (fun k => madrigalref10_Inverse.f k f (l : Int)) (inverseW n l z f) := by
  unfold madrigalref10_Inverse.f
  rw [hf, Int.toNat_natCast]
  refine Ev.bind (rshape_ev n l z hz hn hl) (Ev.bind (table_ev n hn h0) (ev_pos (by omega) (ev_pos (by omega) ?_)))
  refine rinv_l0 n hn h0 l z f hf n 0 _ (by omega) (by simp) ?_
  have h4 := fill_all (fun j => clamp (f.getD j 0) (-17179869184) 17179869184) (List.replicate n 0)
  rw [List.length_replicate] at h4
  rw [h4]; rfl
end

theorem inv_bad (f : List Int) (l : Int) (hl : -9223372036854775808 ≤ l) (h : goodW (f.length : Int) l = false) :
    Ev (fun k => mdct_Inverse.f k f l) ([], 1) := by
  unfold mdct_Inverse.f
  exact Ev.bind (shape_bad _ l hl h) (ev_neg (by decide) (Ev.now _))

theorem inverseW_length (n l z : Nat) (f : List Int) : (inverseW n l z f).length = 2 * n := by unfold inverseW; simp
theorem forwardW_length (n l z : Nat) (f : List Int) : (forwardW n l z f).length = n := by unfold forwardW; simp

end Go.Proofs.Ytnliianjljgcbaa.Inv
