/- RatioNames: the errors' words. -/
import Derived.Test.YtofndakpenpkbaaDoorLNamesx1
import Derived.Lib.Strings
namespace Go.Proofs.YtofndakpenpkbaaDoor.PA
open Go.RowKit Go.ChangeShapes Go.WideShapes Go.Proofs.YtofndakpenpkbaaDoor.LNames
theorem names_f : surtitlelaw3_RatioNames.f = some true := by
  unfold surtitlelaw3_RatioNames.f surtitlelaw3_known.f
  rw [show api_Errno_Error.f 12 = some (⟨#[119, 105, 100, 101]⟩ : ByteArray) from by rfl, show api_Errno_Error.f 11 = some (⟨#[122, 101, 114, 111]⟩ : ByteArray) from by rfl,
    show api_Errno_Error.f 13 = some (⟨#[110, 117, 109, 98, 101, 114]⟩ : ByteArray) from by rfl, show api_Errno_Error.f 31 = some (⟨#[116, 105, 109, 101]⟩ : ByteArray) from by rfl]
  simp only [Option.bind_some, Lib.toList_data, if_true]
  rfl
theorem names_true (w : World) : Calls Tryd.prog 14 #[] w fun e w' => e = .returned (.bool true) ∧ Below w.heap.size w w' :=
  surtitlelaw3_RatioNames.calls true w names_f
end Go.Proofs.YtofndakpenpkbaaDoor.PA
