/- The tables of cosines, and sums of products along them: one plain form for the program and the reference. Condition: blocks of 1 to 480. -/
import Derived.Test.YtnliianjljgcbaaMAx4
import Derived.Test.YtnliianjljgcbaaMAx9
import Derived.Test.YtnliianjljgcbaaShape
namespace Go.Proofs.Ytnliianjljgcbaa.Dot
open Go.RowKit Go.Proofs.YtnliianjljgcbaaW.PrintWords Go.Proofs.YtnliianjljgcbaaW.PrintLast Go.Proofs.YtnliianjljgcbaaW.PrintMore Go.Proofs.Ytnliianjljgcbaa.Core Go.Proofs.Ytnliianjljgcbaa.MA Go.Proofs.Ytnliianjljgcbaa.Base Go.Proofs.Ytnliianjljgcbaa.RefA Go.Proofs.Ytnliianjljgcbaa.Cos Go.Proofs.Ytnliianjljgcbaa.Win Go.Proofs.Ytnliianjljgcbaa.Shape

def waveP (n p : Nat) : Int := cosW (((p : Int) * 16384 / n + 1) / 2)
def waveW (n : Nat) : List Int := (List.range (8 * n)).map fun p : Nat => waveP n p
theorem waveW_length (n : Nat) : (waveW n).length = 8 * n := by unfold waveW; simp

theorem quot_in {n i : Nat} (hi : i < 8 * n) : 0 ≤ (i : Int) * 16384 / n ∧ (i : Int) * 16384 / n < 131072 := by
  constructor
  · exact Int.ediv_nonneg (by omega) (by omega)
  · exact (Int.ediv_lt_iff_lt_mul (by omega)).2 (by omega)

theorem arg1 {n i : Nat} (hn : n ≤ 480) (hi : i < 8 * n) : wrap64 (Int.tdiv (wrap64 ((wrap64 (Int.tdiv (wrap64 (Int.tdiv (wrap64 ((i : Int) * 65536)) 4)) n)) + 1)) 2) = ((i : Int) * 16384 / n + 1) / 2 := by
  have hq := quot_in hi
  have e1 : wrap64 ((i : Int) * 65536) = i * 65536 := by clear hq; exact wrap_id (by omega) (by omega)
  have e2 : Int.tdiv ((i : Int) * 65536) 4 = i * 16384 := by
    clear hq e1
    rw [Int.tdiv_eq_ediv_of_nonneg (by omega)]; omega
  have e3 : wrap64 ((i : Int) * 16384) = i * 16384 := by clear hq e1 e2; exact wrap_id (by omega) (by omega)
  rw [e1, e2, e3, Int.tdiv_eq_ediv_of_nonneg (a := (i : Int) * 16384) (by omega)]
  clear e1 e2 e3
  generalize (i : Int) * 16384 / n = q at *
  have e4 : wrap64 q = q := wrap_id (by omega) (by omega)
  have e5 : wrap64 (q + 1) = q + 1 := by clear e4; exact wrap_id (by omega) (by omega)
  rw [e4, e5, Int.tdiv_eq_ediv_of_nonneg (a := q + 1) (by omega)]
  clear e4 e5
  exact wrap_id (by omega) (by omega)

theorem arg2 {n i : Nat} (hn : n ≤ 480) (hi : i < 8 * n) : wrap64 (Int.tdiv (wrap64 ((wrap64 (Int.tdiv (wrap64 ((i : Int) * 16384)) n)) + 1)) 2) = ((i : Int) * 16384 / n + 1) / 2 := by
  have hq := quot_in hi
  have e3 : wrap64 ((i : Int) * 16384) = i * 16384 := by clear hq; exact wrap_id (by omega) (by omega)
  rw [e3, Int.tdiv_eq_ediv_of_nonneg (a := (i : Int) * 16384) (by omega)]
  clear e3
  generalize (i : Int) * 16384 / n = q at *
  have e4 : wrap64 q = q := wrap_id (by omega) (by omega)
  have e5 : wrap64 (q + 1) = q + 1 := by clear e4; exact wrap_id (by omega) (by omega)
  rw [e4, e5, Int.tdiv_eq_ediv_of_nonneg (a := q + 1) (by omega)]
  clear e4 e5
  exact wrap_id (by omega) (by omega)

section
variable (n : Nat) (hn : n ≤ 480) (h0 : 1 ≤ n)
include hn h0

theorem waves_l0 (d : Nat) : ∀ (i : Nat) (out : List Int), i + d = 8 * n → out.length = 8 * n →
    Ev (fun k => mdct_waves.l0 k (n : Int) out ((8 * n : Nat) : Int) (i : Int)) (fill (fun p => waveP n p) out i d) := by
  induction d with
  | zero =>
    intro i out h1 h2
    refine Ev.step (fun k => by rw [mdct_waves.l0]) ?_
    exact ev_neg (by omega) (Ev.now _)
  | succ d ih =>
    intro i out h1 h2
    refine Ev.step (fun k => by rw [mdct_waves.l0, arg1 hn (by omega), wsucc (by omega)]) ?_
    refine ev_pos (by omega) (ev_neg (by omega) (Ev.bind (cos_ev _) ?_))
    refine ev_pos (by omega) (ev_pos (by omega) ?_)
    exact ih (i + 1) _ (by omega) (by simpa using h2)

theorem waves_ev : Ev (fun k => mdct_waves.f k (n : Int)) (waveW n) := by
  unfold mdct_waves.f waveW
  have e1 : wrap64 (8 * (n : Int)) = ((8 * n : Nat) : Int) := by rw [wrap_id] <;> omega
  rw [e1, Int.toNat_natCast]
  refine ev_pos (by omega) (ev_pos (by omega) (ev_some ?_))
  have h := waves_l0 n hn h0 (8 * n) 0 (List.replicate (8 * n) 0) (by omega) (by simp)
  have h4 := fill_all (fun p => waveP n p) (List.replicate (8 * n) 0)
  rw [List.length_replicate] at h4
  rw [h4] at h
  rw [List.length_replicate]
  exact h

theorem table_l0 (d : Nat) : ∀ (i : Nat) (out : List Int), i + d = 8 * n → out.length = 8 * n →
    Ev (fun k => madrigalref10_table.l0 k (n : Int) out (i : Int)) (fill (fun p => waveP n p) out i d) := by
  have e1 : wrap64 (8 * (n : Int)) = ((8 * n : Nat) : Int) := by rw [wrap_id] <;> omega
  induction d with
  | zero =>
    intro i out h1 h2
    refine Ev.step (fun k => by rw [madrigalref10_table.l0, e1]) ?_
    exact ev_neg (by omega) (Ev.now _)
  | succ d ih =>
    intro i out h1 h2
    refine Ev.step (fun k => by rw [madrigalref10_table.l0, e1, arg2 hn (by omega), wsucc (by omega)]) ?_
    refine ev_pos (by omega) (ev_neg (by omega) (Ev.bind (rcos_ev _) ?_))
    refine ev_pos (by omega) (ev_pos (by omega) ?_)
    exact ih (i + 1) _ (by omega) (by simpa using h2)

theorem table_ev : Ev (fun k => madrigalref10_table.f k (n : Int)) (waveW n) := by
  unfold madrigalref10_table.f waveW
  have e1 : wrap64 (8 * (n : Int)) = ((8 * n : Nat) : Int) := by rw [wrap_id] <;> omega
  rw [e1, Int.toNat_natCast]
  refine ev_pos (by omega) (ev_pos (by omega) ?_)
  have h := table_l0 n hn h0 (8 * n) 0 (List.replicate (8 * n) 0) (by omega) (by simp)
  have h4 := fill_all (fun p => waveP n p) (List.replicate (8 * n) 0)
  rw [List.length_replicate] at h4
  rw [h4] at h
  exact h
end

/-- a sum of products: the table's places go on by a step, around -/
def dotW (t : List Int) (m step : Nat) : List Int → Int → Nat → Int
  | [], s, _ => s
  | a :: cs, s, p => dotW t m step cs (wrap64 (s + wrap64 (a * t.getD p 0))) (if m ≤ p + step then p + step - m else p + step)

def vW (n l z : Nat) (x : List Int) : List Int := (List.range (2 * n)).map fun j : Nat => mulI ((shapeN n l z).getD j 0) (clamp (x.getD j 0) (-16777216) 16777216) 15
def forwardP (n l z : Nat) (x : List Int) (k : Nat) : Int := dotW (waveW n) (8 * n) (2 * (2 * k + 1)) (vW n l z x) 16384 ((1 + n) * (2 * k + 1) % (8 * n)) / 32768
def forwardW (n l z : Nat) (x : List Int) : List Int := (List.range n).map fun k : Nat => forwardP n l z x k

def gW (n : Nat) (f : List Int) : List Int := (List.range n).map fun k : Nat => clamp (f.getD k 0) (-17179869184) 17179869184
def downI (a b : Int) : Int := if Int.tmod a b < 0 then wrap64 (wrap64 (Int.tdiv a b) - 1) else wrap64 (Int.tdiv a b)
def sumP (n : Nat) (f : List Int) (j : Nat) : Int := dotW (waveW n) (8 * n) (2 * (2 * j + 1 + n) % (8 * n)) (gW n f) 0 ((2 * j + 1 + n) % (8 * n))
def inverseP (n l z : Nat) (f : List Int) (j : Nat) : Int :=
  mulI ((shapeN n l z).getD j 0) (clamp (downI (wrap64 (wrap64 (2 * sumP n f j) + 16384 * n)) (32768 * n)) (-16777216) 16777216) 15
def inverseW (n l z : Nat) (f : List Int) : List Int := (List.range (2 * n)).map fun j : Nat => inverseP n l z f j

end Go.Proofs.Ytnliianjljgcbaa.Dot
