/- The reference's comparison. -/
import Derived.Test.YtofndakpenpkbaaDoorRefB
import Derived.Test.YtofndakpenpkbaaDoorPLx1
namespace Go.Proofs.YtofndakpenpkbaaDoor.PA
open Go.RowKit Go.Proofs.YtofndakpenpkbaaDoorW.PrintWords Go.Proofs.YtofndakpenpkbaaDoorW.PrintLast Go.Proofs.YtofndakpenpkbaaDoorW.PrintMore Go.Proofs.YtofndakpenpkbaaDoor.PR Go.Proofs.YtofndakpenpkbaaDoor.PL
set_option linter.unusedSimpArgs false
set_option linter.unusedVariables false
theorem lessW (x y : Int) : surtitleref3_Less.f (wI x).1 (wI x).2.1 (wI x).2.2 (wI y).1 (wI y).2.1 (wI y).2.2 = some (decide (x < y)) := by
  unfold surtitleref3_Less.f wI
  dsimp only
  rw [above_any, above_any]
  simp only [Option.bind_some]
  by_cases hx : x < 0 <;> by_cases hy : y < 0
  · rw [decide_eq_true hx, decide_eq_true hy, if_neg (by decide), if_pos rfl]; congr 1; rw [decide_eq_decide]; omega
  · rw [decide_eq_true hx, decide_eq_false hy, if_pos (by decide)]; congr 1; symm; rw [decide_eq_true_eq]; omega
  · rw [decide_eq_false hx, decide_eq_true hy, if_pos (by decide)]; congr 1; symm; rw [decide_eq_false_iff_not]; omega
  · rw [decide_eq_false hx, decide_eq_false hy, if_neg (by decide), if_neg (by decide)]; congr 1; rw [decide_eq_decide]; omega
end Go.Proofs.YtofndakpenpkbaaDoor.PA
