/- RatioNews: the program's New and Right tell what the document's do. -/
import Derived.Test.YtofndakpenpkbaaDoorLNewsx2
import Derived.OpenShut
namespace Go.Proofs.YtofndakpenpkbaaDoor.PA
open Go.RowKit Go.ChangeShapes Go.WideShapes Go.Proofs.YtofndakpenpkbaaDoor.PR Go.Proofs.YtofndakpenpkbaaDoor.PN Go.Proofs.YtofndakpenpkbaaDoor.LNews
theorem news_f (a0 a1 : Int) (h0 : (Lit.int .i64 a0).wf = true) (h1 : (Lit.int .i64 a1).wf = true) : surtitlelaw3_RatioNews.f 2147483649 a0 a1 = some true := by
  have b0 := bounds_i64 h0
  have b1 := bounds_i64 h1
  unfold surtitlelaw3_RatioNews.f surtitlelaw3_known.f ratio_New.f ratio_Right.f
  rw [newR a0 a1 b0.1 b0.2 b1.1 b1.2, rightR _ (by decide), if_pos ⟨i64ok_iff.mpr b0, i64ok_iff.mpr b1⟩, if_pos ⟨i64ok_iff.mpr b0, i64ok_iff.mpr b1⟩]
  simp
theorem news_true (a0 a1 : Int) (h0 : (Lit.int .i64 a0).wf = true) (h1 : (Lit.int .i64 a1).wf = true) (w : World) :
    Calls Tryd.prog 3 #[.int .i64 a0, .int .i64 a1] w fun e w' => e = .returned (.bool true) ∧ Below w.heap.size w w' :=
  surtitlelaw3_RatioNews.calls 2147483649 a0 a1 true w (news_f a0 a1 h0 h1)
end Go.Proofs.YtofndakpenpkbaaDoor.PA
