/- RatioSums: the program's Add, Sub and Neg tell what the document's do. -/
import Derived.Test.YtofndakpenpkbaaDoorLSumsx1
import Derived.OpenShut
namespace Go.Proofs.YtofndakpenpkbaaDoor.PA
open Go.RowKit Go.ChangeShapes Go.WideShapes Go.Proofs.YtofndakpenpkbaaDoor.PR Go.Proofs.YtofndakpenpkbaaDoor.PO Go.Proofs.YtofndakpenpkbaaDoor.PP Go.Proofs.YtofndakpenpkbaaDoor.PS Go.Proofs.YtofndakpenpkbaaDoor.LSums
theorem told_same (x y z : Int) : surtitlelaw3_told.f x y z x y z = some true := by
  unfold surtitlelaw3_told.f
  rw [if_pos (by simp)]; simp
theorem sums_f (a b c d : Int) (ha : (Lit.int .i64 a).wf = true) (hb : (Lit.int .i64 b).wf = true) (hc : (Lit.int .i64 c).wf = true) (hd : (Lit.int .i64 d).wf = true) : surtitlelaw3_RatioSums.f 2147483649 a b c d = some true := by
  have b0 := bounds_i64 ha
  have b1 := bounds_i64 hb
  have b2 := bounds_i64 hc
  have b3 := bounds_i64 hd
  unfold surtitlelaw3_RatioSums.f surtitlelaw3_known.f ratio_Add.f ratio_Neg.f ratio_Sub.f
  have i0 := i64ok_iff.mpr b0
  have i1 := i64ok_iff.mpr b1
  have i2 := i64ok_iff.mpr b2
  have i3 := i64ok_iff.mpr b3
  rw [addR _ (by decide), subR _ (by decide) _ _ _ _ b2.1 b2.2, negR _ (by decide), if_pos ⟨i0, i1, i2, i3⟩, if_pos ⟨i0, i1, i2, i3⟩]
  simp only [Option.bind_some, if_true]
  rw [told_same]
  simp only [Option.bind_some, if_true]
  rw [told_same]
  simp only [Option.bind_some, if_true]
  rw [if_pos ⟨by decide, by decide, i0, i1⟩]
  simp only [Option.bind_some]
  rw [told_same]; rfl
theorem sums_true (a b c d : Int) (ha : (Lit.int .i64 a).wf = true) (hb : (Lit.int .i64 b).wf = true) (hc : (Lit.int .i64 c).wf = true) (hd : (Lit.int .i64 d).wf = true) (w : World) :
    Calls Tryd.prog 4 #[.agg #[.int .i64 a, .int .i64 b], .agg #[.int .i64 c, .int .i64 d]] w fun e w' => e = .returned (.bool true) ∧ Below w.heap.size w w' :=
  surtitlelaw3_RatioSums.calls 2147483649 a b c d true w (sums_f a b c d ha hb hc hd)
end Go.Proofs.YtofndakpenpkbaaDoor.PA
