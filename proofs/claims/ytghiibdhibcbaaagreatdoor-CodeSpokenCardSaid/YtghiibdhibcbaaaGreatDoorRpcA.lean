/- The reference: ParseClock. -/
import Derived.Test.YtghiibdhibcbaaaGreatDoorMH
import Derived.Test.YtghiibdhibcbaaaGreatDoorMJ
namespace Go.Proofs.YtghiibdhibcbaaaGreatDoor.PA
open Go Go.RowKit Go.Proofs.YtghiibdhibcbaaaGreatDoorW.PrintWords Go.Proofs.YtghiibdhibcbaaaGreatDoorW.PrintLast Go.Proofs.YtghiibdhibcbaaaGreatDoorW.PrintMore Go.Proofs.YtghiibdhibcbaaaGreatDoor.CS
set_option linter.unusedSimpArgs false
set_option linter.unusedVariables false
end Go.Proofs.YtghiibdhibcbaaaGreatDoor.PA
