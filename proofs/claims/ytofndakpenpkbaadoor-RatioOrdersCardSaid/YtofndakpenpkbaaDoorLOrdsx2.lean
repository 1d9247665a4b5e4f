-- made by wip/pp2.py out of the translation, over contracts of my own
import Derived.Test.YtofndakpenpkbaaDoorLOrdsx0
namespace Go.Proofs.YtofndakpenpkbaaDoor.LOrds
open Go.Proofs.YtofndakpenpkbaaDoor.PA
open Go.RowKit Go.Proofs.YtofndakpenpkbaaDoorW.PrintWords Go.Proofs.YtofndakpenpkbaaDoorW.PrintLast Go.Proofs.YtofndakpenpkbaaDoorW.PrintMore
set_option linter.unusedVariables false
set_option linter.unusedSimpArgs false

/-! ### surtitlelaw3_known: function 16: told elsewhere -/

/-! ### ratio_Right: function 19: told elsewhere -/

/-! ### ratio_Sub: function 24: told elsewhere -/

/-! ### ratio_Cmp: function 32: told elsewhere -/

/-! ### surtitlelaw3_fine: function 33 -/
def surtitlelaw3_fine.f (a0 : Int) : Option (Bool) := some (a0 == 0)
set_option maxHeartbeats 8000000 in
set_option maxRecDepth 100000 in
theorem surtitlelaw3_fine.calls (a0 : Int) (r : Bool) (w : World) (h : surtitlelaw3_fine.f a0 = some r) :
    Calls Tryd.prog 33 #[.int .i64 a0] w fun e w' => e = .returned (.bool r) ∧ Drawn0 w w' := by
  have H : (some (a0 == 0)) = some r := h
  clear h
  obtain rfl := Option.some.inj H
  go_enter Tryd.func33, Tryd.ntmps33
  go_wp2
  go_ret
  exact ⟨by first | rfl | (simp; done) | (simp [*]; done), by repeat (first | exact Drawn0.refl _ | apply Drawn0.step)⟩

end Go.Proofs.YtofndakpenpkbaaDoor.LOrds
