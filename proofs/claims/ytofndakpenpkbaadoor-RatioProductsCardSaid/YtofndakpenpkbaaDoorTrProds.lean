/- RatioProducts: the program's Mul and Div tell what the document's do. -/
import Derived.Test.YtofndakpenpkbaaDoorLProdsx1
import Derived.OpenShut
namespace Go.Proofs.YtofndakpenpkbaaDoor.PA
open Go.RowKit Go.ChangeShapes Go.WideShapes Go.Proofs.YtofndakpenpkbaaDoor.PR Go.Proofs.YtofndakpenpkbaaDoor.PO Go.Proofs.YtofndakpenpkbaaDoor.PM Go.Proofs.YtofndakpenpkbaaDoor.LProds
theorem told_same (x y z : Int) : surtitlelaw3_told.f x y z x y z = some true := by
  unfold surtitlelaw3_told.f
  rw [if_pos (by simp)]; simp
theorem prods_f (a b c d : Int) (ha : (Lit.int .i64 a).wf = true) (hb : (Lit.int .i64 b).wf = true) (hc : (Lit.int .i64 c).wf = true) (hd : (Lit.int .i64 d).wf = true) : surtitlelaw3_RatioProducts.f 2147483649 a b c d = some true := by
  have i0 := i64ok_iff.mpr (bounds_i64 ha)
  have i1 := i64ok_iff.mpr (bounds_i64 hb)
  have i2 := i64ok_iff.mpr (bounds_i64 hc)
  have i3 := i64ok_iff.mpr (bounds_i64 hd)
  unfold surtitlelaw3_RatioProducts.f surtitlelaw3_known.f ratio_Mul.f ratio_Div.f
  rw [mulR _ (by decide), divR _ (by decide), if_pos ⟨i0, i1, i2, i3⟩, if_pos ⟨i0, i1, i2, i3⟩]
  simp only [Option.bind_some, if_true]
  rw [told_same]
  simp only [Option.bind_some, if_true]
  rw [told_same]; rfl
theorem prods_true (a b c d : Int) (ha : (Lit.int .i64 a).wf = true) (hb : (Lit.int .i64 b).wf = true) (hc : (Lit.int .i64 c).wf = true) (hd : (Lit.int .i64 d).wf = true) (w : World) :
    Calls Tryd.prog 5 #[.agg #[.int .i64 a, .int .i64 b], .agg #[.int .i64 c, .int .i64 d]] w fun e w' => e = .returned (.bool true) ∧ Below w.heap.size w w' :=
  surtitlelaw3_RatioProducts.calls 2147483649 a b c d true w (prods_f a b c d ha hb hc hd)
end Go.Proofs.YtofndakpenpkbaaDoor.PA
