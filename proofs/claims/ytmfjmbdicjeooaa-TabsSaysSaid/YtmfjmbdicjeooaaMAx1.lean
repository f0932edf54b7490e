/- Functions of the program as plain Lean functions, and that the code comes to their answers. No condition. -/
import Derived.Test.YtmfjmbdicjeooaaMAx0
namespace Go.Proofs.Ytmfjmbdicjeooaa.MA
open Go.RowKit Go.Proofs.YtmfjmbdicjeooaaW.PrintWords Go.Proofs.YtmfjmbdicjeooaaW.PrintLast Go.Proofs.YtmfjmbdicjeooaaW.PrintMore
attribute [local go_sem] max2_int min2_int max_two min_two max_three min_three max_four min_four
set_option linter.unusedVariables false
set_option linter.unusedSimpArgs false

theorem eqArr_of {P : Program} {t elem : TypeId} {len n d : Nat} {xs ys : Array Value} {r : Bool} {w : World} (hu : P.underlying t = some (.array len elem)) (hs : (sizeOf elem).run P w = .ok n w)
   (h : (Op.eqFields d xs ys ((List.range' 0 len).map fun i => Field.mk "a" elem (i * n) false "" "" 0)).run P w = .ok r w) : (Op.equalIn (d + 1) t (.agg xs) (.agg ys)).run P w = .ok r w := by
  simp only [Op.equalIn, Sem.run_bind, run_underlying hu, Result.andThen_ok, hs, Std.Legacy.Range.forIn_eq_forIn_range']
  rw [← h]
  simp only [Std.Legacy.Range.size, Nat.sub_zero, Nat.add_sub_cancel, Nat.div_one]
  generalize List.range' 0 len 1 = l
  clear h hs hu
  induction l generalizing w with
  | nil => simp [Op.eqFields]
  | cons f fs ih =>
    simp only [List.forIn_cons, List.map_cons, Op.eqFields, Sem.run_bind, Sem.run_ite, ne_eq, show ¬ ("a" = "_") by decide, not_false_eq_true, if_true]
    generalize (part elem xs (f * n)).run P w = r1
    cases r1 with
    | ok a w1 =>
        simp only [Result.andThen_ok]
        generalize (part elem ys (f * n)).run P w1 = r2
        cases r2 with
        | ok b w2 =>
          simp only [Result.andThen_ok]
          generalize (Op.equalIn d elem a b).run P w2 = r3
          cases r3 with
          | ok r w3 =>
            cases r
            · simp only [Result.andThen_ok, Bool.not_false, if_true, Sem.run_pure]
            · simp only [Result.andThen_ok, Bool.not_true, Bool.false_eq_true, if_false, Sem.run_pure]
              exact ih
          | halt x w3 => simp [Result.andThen]
        | halt x w2 => simp [Result.andThen]
    | halt x w1 => simp [Result.andThen]
theorem eqA33 (d : Nat) (w : World) (x0 y0 : Int) (x1 y1 : Int) (x2 y2 : Int) (x3 y3 : Int) (x4 y4 : Int) :
  (Op.equalIn (d + 2) 33 (.agg #[.int .i64 x0, .int .i64 x1, .int .i64 x2, .int .i64 x3, .int .i64 x4]) (.agg #[.int .i64 y0, .int .i64 y1, .int .i64 y2, .int .i64 y3, .int .i64 y4])).run Try.prog w = .ok (x0 == y0 && (x1 == y1 && (x2 == y2 && (x3 == y3 && (x4 == y4))))) w := by
 refine eqArr_of Try.underlying33 (by go_simp; rfl) ?_
 refine eqf_cons (by rfl) (by go_simp; rfl) (by go_simp; rfl) (by go_simp) ?_
 refine eqf_cons (by rfl) (by go_simp; rfl) (by go_simp; rfl) (by go_simp) ?_
 refine eqf_cons (by rfl) (by go_simp; rfl) (by go_simp; rfl) (by go_simp) ?_
 refine eqf_cons (by rfl) (by go_simp; rfl) (by go_simp; rfl) (by go_simp) ?_
 exact eqf_last (by rfl) (by go_simp; rfl) (by go_simp; rfl) (by go_simp)
end Go.Proofs.Ytmfjmbdicjeooaa.MA
