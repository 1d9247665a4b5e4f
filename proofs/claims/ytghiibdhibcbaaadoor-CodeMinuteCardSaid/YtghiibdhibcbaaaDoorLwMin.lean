/- CodeMinute: the walk. -/
import Derived.Test.YtghiibdhibcbaaaDoorKn5
import Derived.Test.YtghiibdhibcbaaaDoorLwHlp
import Derived.Test.YtghiibdhibcbaaaDoorRfA
import Derived.OpenShut
namespace Go.Proofs.YtghiibdhibcbaaaDoor.PA
open Go Go.RowKit Go.Proofs.YtghiibdhibcbaaaDoorW.PrintWords Go.Proofs.YtghiibdhibcbaaaDoorW.PrintLast Go.Proofs.YtghiibdhibcbaaaDoorW.PrintMore Go.Proofs.YtghiibdhibcbaaaDoor.CS
set_option linter.unusedSimpArgs false
set_option linter.unusedVariables false
set_option maxHeartbeats 800000 in
set_option maxRecDepth 100000 in
theorem w59_0 (w : World) : Calls Tryd.prog 28 #[.int .i64 0] w fun e w' => e = .returned (.int .i64 0) ∧ Below w.heap.size w w' := by
  go_enter Tryd.func28, Tryd.ntmps28
  go_wp2
  go_ret
  exact ⟨rfl, Below.refl _ _⟩
set_option maxHeartbeats 800000 in
set_option maxRecDepth 100000 in
theorem w59_1 (s : Int) (h : 1 ≤ s) (w : World) : Calls Tryd.prog 28 #[.int .i64 s] w fun e w' => e = .returned (.int .i64 18) ∧ Below w.heap.size w w' := by
  have h1 : (s < 1) = False := eq_false (by omega)
  go_enter Tryd.func28, Tryd.ntmps28
  go_wp2
  go_ret
  exact ⟨rfl, Below.refl _ _⟩
theorem w59_any (s : Int) (h : 0 ≤ s) (w : World) : ∃ j : Int, 0 ≤ j ∧ j ≤ 18 ∧ Calls Tryd.prog 28 #[.int .i64 s] w fun e w' => e = .returned (.int .i64 j) ∧ Below w.heap.size w w' := by
  rcases (by omega : s = 0 ∨ 1 ≤ s) with rfl | h1
  · exact ⟨0, by decide, by decide, w59_0 w⟩
  · exact ⟨18, by decide, by decide, w59_1 s h1 w⟩
end Go.Proofs.YtghiibdhibcbaaaDoor.PA
