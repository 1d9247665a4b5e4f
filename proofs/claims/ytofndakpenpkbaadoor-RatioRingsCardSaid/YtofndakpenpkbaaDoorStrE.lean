/- The law's known answers, whatever the world; as the printer spells it. -/
import Derived.Test.YtofndakpenpkbaaDoorStrD
import Derived.Test.YtofndakpenpkbaaDoorRatJ
namespace Go.Proofs.YtofndakpenpkbaaDoor.PA
open Go.RowKit Go.Proofs.YtofndakpenpkbaaDoorW.PrintWords Go.Proofs.YtofndakpenpkbaaDoorW.PrintLast Go.Proofs.YtofndakpenpkbaaDoorW.PrintMore
theorem known_any (w : World) : Calls Tryd.prog 16 #[] w fun e w' => e = .returned (.bool true) ∧ Below w.heap.size w w' :=
  known_of (fun w => by
    have h := addR_any 1 3 1 6 w (by decide) (by decide) (by decide) (by decide) (by decide) (by decide) (by decide) (by decide)
    rw [show addS 1 3 1 6 = (1, 2, 0) from by decide] at h
    exact h) w
def surtitlelaw3_known.f : Option Bool := some true
theorem surtitlelaw3_known.calls (r : Bool) (w : World) (h : surtitlelaw3_known.f = some r) :
    Calls Tryd.prog 16 #[] w fun e w' => e = .returned (.bool r) ∧ Below w.heap.size w w' := by
  obtain rfl := Option.some.inj h
  exact known_any w
end Go.Proofs.YtofndakpenpkbaaDoor.PA
