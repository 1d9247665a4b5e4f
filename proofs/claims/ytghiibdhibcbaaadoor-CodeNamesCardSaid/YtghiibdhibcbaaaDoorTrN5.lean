/- CodeNames: the numbers of chapter 5. -/
import Derived.Test.YtghiibdhibcbaaaDoorKn5
namespace Go.Proofs.YtghiibdhibcbaaaDoor.PA
open Go Go.RowKit
set_option maxHeartbeats 800000 in
set_option maxRecDepth 100000 in
theorem names5_true (w : World) (ht : TabN w) :
    Calls Tryd.prog 3 #[] w fun e w' => e = .returned (.bool true) ∧ Below w.heap.size w w' := by
  have M1 := Lib.hid (known_any w ht)
  clear ht
  go_enter Tryd.func3, Tryd.ntmps3
  go_wp2_with fail
  with_reducible refine M1.out.mono ?_
  rintro e w1 ⟨rfl, hb1⟩
  go_wp2
  go_ret
  exact ⟨by rfl, hb1⟩
end Go.Proofs.YtghiibdhibcbaaaDoor.PA
