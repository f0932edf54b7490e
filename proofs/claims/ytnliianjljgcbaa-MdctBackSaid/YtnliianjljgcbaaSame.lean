/- A list is the same as itself. Condition: at most a million numbers. -/
import Derived.Test.YtnliianjljgcbaaMAx5
import Derived.Test.YtnliianjljgcbaaInv
namespace Go.Proofs.Ytnliianjljgcbaa.Same
open Go.RowKit Go.Proofs.YtnliianjljgcbaaW.PrintWords Go.Proofs.YtnliianjljgcbaaW.PrintLast Go.Proofs.YtnliianjljgcbaaW.PrintMore Go.Proofs.Ytnliianjljgcbaa.Core Go.Proofs.Ytnliianjljgcbaa.MA Go.Proofs.Ytnliianjljgcbaa.Base
theorem same_l0 (a : List Int) (hl : a.length ≤ 1000000) (d : Nat) : ∀ n, n + d = a.length → Ev (fun k => madrigallaw15_same.l0 k a a (n : Int)) true := by
  induction d with
  | zero =>
    intro n h
    refine Ev.step (fun k => by rw [madrigallaw15_same.l0]) ?_
    exact ev_neg (by omega) (Ev.now _)
  | succ d ih =>
    intro n h
    refine Ev.step (fun k => by rw [madrigallaw15_same.l0]) ?_
    refine ev_pos (by omega) (ev_pos (by omega) (ev_pos (by omega) (ev_pos rfl ?_)))
    rw [wsucc (by omega)]
    exact ih (n + 1) (by omega)
theorem same_ev (a : List Int) (hl : a.length ≤ 1000000) : Ev (fun k => madrigallaw15_same.f k a a) true := by
  unfold madrigallaw15_same.f
  exact ev_pos rfl (same_l0 a hl a.length 0 (by omega))
end Go.Proofs.Ytnliianjljgcbaa.Same
