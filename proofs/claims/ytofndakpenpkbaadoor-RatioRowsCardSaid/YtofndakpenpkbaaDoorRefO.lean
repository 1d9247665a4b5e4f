/- The reference's look at two. -/
import Derived.Test.YtofndakpenpkbaaDoorRefR
import Derived.Test.YtofndakpenpkbaaDoorPOx2
namespace Go.Proofs.YtofndakpenpkbaaDoor.PA
open Go.RowKit Go.Proofs.YtofndakpenpkbaaDoorW.PrintWords Go.Proofs.YtofndakpenpkbaaDoorW.PrintLast Go.Proofs.YtofndakpenpkbaaDoorW.PrintMore Go.Proofs.YtofndakpenpkbaaDoor.PR Go.Proofs.YtofndakpenpkbaaDoor.PO
set_option linter.unusedSimpArgs false
set_option linter.unusedVariables false
theorem bothR (k : Nat) (hk : 2147483648 < k) (a b c d : Int) : surtitleref3_both.f k a b c d = some (rightS a b && rightS c d) := by
  unfold surtitleref3_both.f
  rw [rightR k hk, rightR k hk]
  simp only [Option.bind_some]
  cases rightS a b <;> rfl
end Go.Proofs.YtofndakpenpkbaaDoor.PA
