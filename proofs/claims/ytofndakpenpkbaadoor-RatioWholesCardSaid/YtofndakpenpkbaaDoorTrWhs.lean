/- RatioWholes: the program's Whole tells what the document's does. -/
import Derived.Test.YtofndakpenpkbaaDoorLWhsx1
import Derived.Test.YtofndakpenpkbaaDoorRefH
import Derived.OpenShut
namespace Go.Proofs.YtofndakpenpkbaaDoor.PA
open Go.RowKit Go.ChangeShapes Go.WideShapes Go.Proofs.YtofndakpenpkbaaDoor.PC Go.Proofs.YtofndakpenpkbaaDoor.PH Go.Proofs.YtofndakpenpkbaaDoor.LWhs
theorem wholes_f (a b t how : Int) (ha : (Lit.int .i64 a).wf = true) (hb : (Lit.int .i64 b).wf = true) (ht : (Lit.int .i64 t).wf = true) : surtitlelaw3_RatioWholes.f 2147483649 a b t how = some true := by
  unfold surtitlelaw3_RatioWholes.f surtitlelaw3_known.f ratio_Whole.f
  rw [show PW.ratio_Whole.f 1 a b t how = _ from Whole_f 0 a b t how (bounds_i64 ha) (bounds_i64 hb) (bounds_i64 ht), refWhole _ (by decide) a b t how (bounds_i64 ht)]
  simp only [Option.bind_some, if_true]
  simp
theorem wholes_true (a b t how : Int) (ha : (Lit.int .i64 a).wf = true) (hb : (Lit.int .i64 b).wf = true) (ht : (Lit.int .i64 t).wf = true) (_ : (Lit.int .i64 how).wf = true) (w : World) :
    Calls Tryd.prog 10 #[.agg #[.int .i64 a, .int .i64 b], .int .i64 t, .int .i64 how] w fun e w' => e = .returned (.bool true) ∧ Below w.heap.size w w' :=
  surtitlelaw3_RatioWholes.calls 2147483649 a b t how true w (wholes_f a b t how ha hb ht)
end Go.Proofs.YtofndakpenpkbaaDoor.PA
