/- The cosine of package fix and of the reference of chapter 1: both come to one plain form. No condition. -/
import Derived.Test.YtnliianjljgcbaaMAx7
import Derived.Test.YtnliianjljgcbaaRefA
namespace Go.Proofs.Ytnliianjljgcbaa.Cos
open Go.RowKit Go.Proofs.YtnliianjljgcbaaW.PrintWords Go.Proofs.YtnliianjljgcbaaW.PrintLast Go.Proofs.YtnliianjljgcbaaW.PrintMore Go.Proofs.Ytnliianjljgcbaa.Core Go.Proofs.Ytnliianjljgcbaa.MA Go.Proofs.Ytnliianjljgcbaa.Base Go.Proofs.Ytnliianjljgcbaa.RefA

/-- a polynomial, by Horner's rule -/
def serW (x : Int) : List Int → Int → Int
  | [], v => v
  | c :: cs, v => serW x cs (wrap64 (c + mulI x v 30))

theorem ser_l0 (x : Int) (cs : List Int) (hl : cs.length ≤ 1000) (d : Nat) : ∀ (i : Nat) (v : Int), i + d = cs.length →
    Ev (fun k => fix_series.l0 k x v cs (cs.length : Int) (i : Int)) (serW x (cs.drop i) v) := by
  induction d with
  | zero =>
    intro i v h
    refine Ev.step (fun k => by rw [fix_series.l0]) ?_
    refine ev_neg (by omega) ?_
    rw [List.drop_eq_nil_of_le (by omega)]
    exact Ev.now _
  | succ d ih =>
    intro i v h
    refine Ev.step (fun k => by rw [fix_series.l0]) ?_
    refine ev_pos (by omega) (ev_pos (by omega) (ev_pos (by omega) ?_))
    refine Ev.bind (mul_ev _ _ _ (by omega) (by omega)) ?_
    rw [wsucc (by omega), rd_nat, List.drop_eq_getElem_cons (by omega), serW]
    have e : cs.getD i 0 = cs[i]'(by omega) := by simp [List.getD, List.getElem?_eq_getElem (show i < cs.length by omega)]
    rw [e]
    exact ih (i + 1) _ (by omega)

theorem ser_ev (x c : Int) (cs : List Int) (hl : cs.length ≤ 1000) : Ev (fun k => fix_series.f k x (c :: cs)) (serW x cs c) := by
  unfold fix_series.f
  refine ev_pos (by simp only [List.length_cons]; omega) (ev_pos (by simp only [List.length_cons]; omega) ?_)
  exact ser_l0 x cs hl cs.length 0 c (by omega)

theorem rser_l0 (x : Int) (cs : List Int) (hl : cs.length ≤ 1000) (d : Nat) : ∀ (i : Nat) (v : Int), i + d = cs.length →
    Ev (fun k => madrigalref1_series.l0 k x v cs (i : Int)) (serW x (cs.drop i) v) := by
  induction d with
  | zero =>
    intro i v h
    refine Ev.step (fun k => by rw [madrigalref1_series.l0]) ?_
    refine ev_neg (by omega) ?_
    rw [List.drop_eq_nil_of_le (by omega)]
    exact Ev.now _
  | succ d ih =>
    intro i v h
    refine Ev.step (fun k => by rw [madrigalref1_series.l0]) ?_
    refine ev_pos (by omega) (ev_pos (by omega) ?_)
    refine Ev.bind (rmul_ev _ _ _ (by omega) (by omega)) ?_
    rw [wsucc (by omega), rd_nat, List.drop_eq_getElem_cons (by omega), serW]
    have e : cs.getD i 0 = cs[i]'(by omega) := by simp [List.getD, List.getElem?_eq_getElem (show i < cs.length by omega)]
    rw [e]
    exact ih (i + 1) _ (by omega)

theorem rser_ev (x c : Int) (cs : List Int) (hl : cs.length ≤ 1000) : Ev (fun k => madrigalref1_series.f k x c cs) (serW x cs c) := by
  unfold madrigalref1_series.f
  exact rser_l0 x cs hl cs.length 0 c (by omega)

/-- the cosine of a first quarter -/
def quarterW (v : Int) : Int :=
  if v ≤ 8192 then mulI (serW (mulI (mulI v 1686629713 14) (mulI v 1686629713 14) 30) [26631, (-1491308), 44739243, (-536870912), 1073741824] (-296)) 1 15
  else mulI (mulI (mulI (wrap64 (16384 - v)) 1686629713 14) (serW (mulI (mulI (wrap64 (16384 - v)) 1686629713 14) (mulI (wrap64 (16384 - v)) 1686629713 14) 30) [(-213044), 8947849, (-178956971), 1073741824] 2959) 30) 1 15

/-- the cosine of a turn of 65536 parts -/
def cosT (c : Int) : Int := if c > 16384 then wrap64 (-(quarterW (wrap64 (32768 - c)))) else quarterW c
def cosW (a : Int) : Int := if (Go.bits .and .i64 a 65535) > 32768 then cosT (wrap64 (65536 - (Go.bits .and .i64 a 65535))) else cosT (Go.bits .and .i64 a 65535)
def sinW (a : Int) : Int := cosW (wrap64 ((Go.bits .and .i64 a 65535) - 16384))

theorem quarter_ev (v : Int) : Ev (fun k => madrigalref1_quarter.f k v) (quarterW v) := by
  unfold madrigalref1_quarter.f quarterW
  by_cases h : v ≤ 8192
  · rw [if_pos h]
    refine ev_pos h ?_
    refine Ev.bind (rmul_ev _ _ _ (by omega) (by omega)) ?_
    refine Ev.bind (rmul_ev _ _ _ (by omega) (by omega)) ?_
    refine Ev.bind (rser_ev _ _ _ (by simp)) ?_
    refine Ev.bind (rmul_ev _ _ _ (by omega) (by omega)) ?_
    exact Ev.now _
  · rw [if_neg h]
    refine ev_neg h ?_
    refine Ev.bind (rmul_ev _ _ _ (by omega) (by omega)) ?_
    refine Ev.bind (rmul_ev _ _ _ (by omega) (by omega)) ?_
    refine Ev.bind (rser_ev _ _ _ (by simp)) ?_
    refine Ev.bind (rmul_ev _ _ _ (by omega) (by omega)) ?_
    refine Ev.bind (rmul_ev _ _ _ (by omega) (by omega)) ?_
    exact Ev.now _

theorem rcosT_ev (c : Int) : Ev (fun k => madrigalref1_Cos.j0 k c) (cosT c) := by
  refine Ev.step (fun k => by rw [madrigalref1_Cos.j0]) ?_
  unfold cosT
  by_cases h : c > 16384
  · rw [if_pos h]
    exact ev_pos h (Ev.bind (quarter_ev _) (Ev.now _))
  · rw [if_neg h]
    exact ev_neg h (Ev.bind (quarter_ev _) (Ev.now _))

theorem rcos_ev (a : Int) : Ev (fun k => madrigalref1_Cos.f k a) (cosW a) := by
  unfold madrigalref1_Cos.f cosW
  by_cases h : (Go.bits .and .i64 a 65535) > 32768
  · rw [if_pos h]; exact ev_pos h (rcosT_ev _)
  · rw [if_neg h]; exact ev_neg h (rcosT_ev _)

theorem rsin_ev (a : Int) : Ev (fun k => madrigalref1_Sin.f k a) (sinW a) := by
  unfold madrigalref1_Sin.f sinW
  exact Ev.bind (rcos_ev _) (Ev.now _)

theorem cosT_ev (c : Int) : Ev (fun k => fix_Cos.j0 k c) (cosT c) := by
  refine Ev.step (fun k => by rw [fix_Cos.j0]) ?_
  unfold cosT
  by_cases h : c > 16384
  · rw [if_pos h]
    refine ev_pos h ?_
    unfold quarterW
    by_cases g : wrap64 (32768 - c) ≤ 8192
    · rw [if_pos g]
      refine ev_pos g ?_
      refine Ev.bind (mul_ev _ _ _ (by omega) (by omega)) ?_
      refine Ev.bind (mul_ev _ _ _ (by omega) (by omega)) ?_
      refine Ev.bind (ser_ev _ _ _ (by simp)) ?_
      refine Ev.bind (mul_ev _ _ _ (by omega) (by omega)) ?_
      exact Ev.now _
    · rw [if_neg g]
      refine ev_neg g ?_
      refine Ev.bind (mul_ev _ _ _ (by omega) (by omega)) ?_
      refine Ev.bind (mul_ev _ _ _ (by omega) (by omega)) ?_
      refine Ev.bind (ser_ev _ _ _ (by simp)) ?_
      refine Ev.bind (mul_ev _ _ _ (by omega) (by omega)) ?_
      refine Ev.bind (mul_ev _ _ _ (by omega) (by omega)) ?_
      exact Ev.now _
  · rw [if_neg h]
    refine ev_neg h ?_
    unfold quarterW
    by_cases g : c ≤ 8192
    · rw [if_pos g]
      refine ev_pos g ?_
      refine Ev.bind (mul_ev _ _ _ (by omega) (by omega)) ?_
      refine Ev.bind (mul_ev _ _ _ (by omega) (by omega)) ?_
      refine Ev.bind (ser_ev _ _ _ (by simp)) ?_
      refine Ev.bind (mul_ev _ _ _ (by omega) (by omega)) ?_
      exact Ev.now _
    · rw [if_neg g]
      refine ev_neg g ?_
      refine Ev.bind (mul_ev _ _ _ (by omega) (by omega)) ?_
      refine Ev.bind (mul_ev _ _ _ (by omega) (by omega)) ?_
      refine Ev.bind (ser_ev _ _ _ (by simp)) ?_
      refine Ev.bind (mul_ev _ _ _ (by omega) (by omega)) ?_
      refine Ev.bind (mul_ev _ _ _ (by omega) (by omega)) ?_
      exact Ev.now _

theorem cos_ev (a : Int) : Ev (fun k => fix_Cos.f k a) (cosW a) := by
  unfold fix_Cos.f cosW
  by_cases h : (Go.bits .and .i64 a 65535) > 32768
  · rw [if_pos h]; exact ev_pos h (cosT_ev _)
  · rw [if_neg h]; exact ev_neg h (cosT_ev _)

theorem sin_ev (a : Int) : Ev (fun k => fix_Sin.f k a) (sinW a) := by
  unfold fix_Sin.f sinW
  exact Ev.bind (cos_ev _) (Ev.now _)
end Go.Proofs.Ytnliianjljgcbaa.Cos
