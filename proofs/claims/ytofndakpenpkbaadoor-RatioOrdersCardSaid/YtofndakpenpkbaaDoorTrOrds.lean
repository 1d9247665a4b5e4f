/- RatioOrders: Cmp is a total order of right ones, and the sign of Sub. -/
import Derived.Test.YtofndakpenpkbaaDoorLOrdsx3
import Derived.OpenShut
namespace Go.Proofs.YtofndakpenpkbaaDoor.PA
open Go.RowKit Go.ChangeShapes Go.WideShapes Go.Proofs.YtofndakpenpkbaaDoor.LOrds
theorem cmp_f {a b c d : Int} (i0 : i64ok a = true) (i1 : i64ok b = true) (i2 : i64ok c = true) (i3 : i64ok d = true) (h1 : rightS a b = true) (h2 : rightS c d = true) : ratio_Cmp.f a b c d = some (cmpS a b c d) := by
  have := right_bounds h1
  have := right_bounds h2
  unfold ratio_Cmp.f
  rw [if_pos ⟨i0, i1, i2, i3, by omega, by omega⟩]
theorem j0_true (k : Nat) (a b c d e f : Int) : surtitlelaw3_RatioOrders.j0 (k + 1) true a b c d e f = some true := by
  simp only [surtitlelaw3_RatioOrders.j0, if_true]
theorem ords_f (a b c d e f : Int) (ha : (Lit.int .i64 a).wf = true) (hb : (Lit.int .i64 b).wf = true) (hc : (Lit.int .i64 c).wf = true) (hd : (Lit.int .i64 d).wf = true) (he : (Lit.int .i64 e).wf = true) (hf : (Lit.int .i64 f).wf = true) :
    surtitlelaw3_RatioOrders.f 3 a b c d e f = some true := by
  have i0 := i64ok_iff.mpr (bounds_i64 ha)
  have i1 := i64ok_iff.mpr (bounds_i64 hb)
  have i2 := i64ok_iff.mpr (bounds_i64 hc)
  have i3 := i64ok_iff.mpr (bounds_i64 hd)
  have i4 := i64ok_iff.mpr (bounds_i64 he)
  have i5 := i64ok_iff.mpr (bounds_i64 hf)
  unfold surtitlelaw3_RatioOrders.f surtitlelaw3_known.f ratio_Right.f
  rw [if_pos ⟨i0, i1⟩, if_pos ⟨i2, i3⟩, if_pos ⟨i4, i5⟩]
  simp only [Option.bind_some, if_true]
  by_cases h1 : rightS a b = true
  case neg => rw [if_neg h1]; exact j0_true 2 _ _ _ _ _ _
  by_cases h2 : rightS c d = true
  case neg => rw [if_pos h1, if_neg h2]; exact j0_true 2 _ _ _ _ _ _
  by_cases h3 : rightS e f = true
  case neg =>
    have h3' : rightS e f = false := by simpa using h3
    rw [if_pos h1, if_pos h2, h3']; exact j0_true 2 _ _ _ _ _ _
  rw [if_pos h1, if_pos h2, h3]
  have r0 := cmpS_range a b c d
  have hn : cmpS c d a b = -cmpS a b c d := cmpS_neg h2 h1
  have hz := cmpS_zero h1 h2
  have hself : cmpS a b a b = 0 := (cmpS_zero h1 h1).mpr ⟨rfl, rfl⟩
  simp only [surtitlelaw3_RatioOrders.j0, Bool.not_true, Bool.false_eq_true, if_false]
  rw [cmp_f i0 i1 i2 i3 h1 h2, cmp_f i2 i3 i0 i1 h2 h1, cmp_f i0 i1 i0 i1 h1 h1, hself, hn]
  simp only [Option.bind_some]
  have hw : wrap64 (- -cmpS a b c d) = cmpS a b c d := by unfold wrap64; omega
  rw [hw, if_pos rfl]
  have hb1 : ((cmpS a b c d == 0) != (a == c && b == d)) = false := by
    rw [bne_eq_false_iff_eq, Bool.eq_iff_iff, beq_iff_eq, Bool.and_eq_true, beq_iff_eq, beq_iff_eq]; exact hz
  rw [hb1, if_neg (by decide), if_neg (by omega), if_neg (by omega)]
  have j2t : ∀ x : Int, x = cmpS a b c d → surtitlelaw3_RatioOrders.j2 1 x false a b c d = some true := fun x hx => by
    simp only [surtitlelaw3_RatioOrders.j2, Bool.false_eq_true, if_false]
    unfold ratio_Sub.f
    rw [if_pos ⟨i0, i1, i2, i3⟩]
    simp only [Option.bind_some]
    unfold surtitlelaw3_fine.f
    simp only [Option.bind_some]
    obtain ⟨p, q, r, hs⟩ : ∃ p q r, subS a b c d = (p, q, r) := ⟨_, _, _, rfl⟩
    rw [hs]
    dsimp only
    by_cases hr : r = 0
    · subst hr
      rw [if_pos (by rfl)]
      obtain ⟨s1, s2⟩ := sub_sign hs
      subst hx
      have e1 : (decide (p > 0) == decide (cmpS a b c d > 0)) = true := by rw [beq_iff_eq, decide_eq_decide]; exact s1
      have e2 : (decide (p < 0) == decide (cmpS a b c d < 0)) = true := by rw [beq_iff_eq, decide_eq_decide]; exact s2
      rw [if_pos e1, e2]
    · rw [if_neg (by simpa using hr)]
      have ht := subS_T3 h1 h2
      rw [ht] at hs
      have := T3_err hs hr
      simp only [Prod.mk.injEq] at this
      obtain ⟨rfl, rfl, _⟩ := this
      rfl
  simp only [surtitlelaw3_RatioOrders.j1, bne_self_eq_false, Bool.false_eq_true, if_false]
  by_cases hx : cmpS a b c d ≤ 0
  · rw [if_pos hx, cmp_f i2 i3 i4 i5 h2 h3]
    simp only [Option.bind_some]
    by_cases hy : cmpS c d e f ≤ 0
    · rw [if_pos hy, cmp_f i0 i1 i4 i5 h1 h3]
      simp only [Option.bind_some]
      have := cmpS_trans h1 h2 h3 hx hy
      rw [decide_eq_false (by omega)]
      exact j2t _ rfl
    · rw [if_neg hy]; exact j2t _ rfl
  · rw [if_neg hx]; exact j2t _ rfl
theorem orders_true (a b c d e f : Int) (ha : (Lit.int .i64 a).wf = true) (hb : (Lit.int .i64 b).wf = true) (hc : (Lit.int .i64 c).wf = true) (hd : (Lit.int .i64 d).wf = true) (he : (Lit.int .i64 e).wf = true) (hf : (Lit.int .i64 f).wf = true) (w : World) :
    Calls Tryd.prog 6 #[.agg #[.int .i64 a, .int .i64 b], .agg #[.int .i64 c, .int .i64 d], .agg #[.int .i64 e, .int .i64 f]] w fun e w' => e = .returned (.bool true) ∧ Below w.heap.size w w' :=
  surtitlelaw3_RatioOrders.calls 3 a b c d e f true w (ords_f a b c d e f ha hb hc hd he hf)
end Go.Proofs.YtofndakpenpkbaaDoor.PA
