/- The reference: Number. -/
import Derived.Test.YtghiibdhibcbaaaDoorRfC
import Derived.Test.YtghiibdhibcbaaaDoorRdrD
namespace Go.Proofs.YtghiibdhibcbaaaDoor.PA
open Go Go.RowKit Go.Proofs.YtghiibdhibcbaaaDoorW.PrintWords Go.Proofs.YtghiibdhibcbaaaDoorW.PrintLast Go.Proofs.YtghiibdhibcbaaaDoorW.PrintMore Go.Proofs.YtghiibdhibcbaaaDoor.CS
set_option linter.unusedSimpArgs false
set_option linter.unusedVariables false
end Go.Proofs.YtghiibdhibcbaaaDoor.PA
