/- Whole, told without fuel. -/
import Derived.Test.YtofndakpenpkbaaDoorWhoS
import Derived.Test.YtofndakpenpkbaaDoorRatP
namespace Go.Proofs.YtofndakpenpkbaaDoor.PC
open Go.RowKit
open Go.Proofs.YtofndakpenpkbaaDoor.PA in
def ratio_by.f (a b c d : Int) : Option (Bool × Int × Int × Int × Int) :=
  if i64ok a = true ∧ i64ok b = true ∧ i64ok c = true ∧ i64ok d = true ∧ 0 ≤ b ∧ 0 ≤ d then some (!(decide (a < 0) == decide (c < 0)), hiN (a.natAbs * d.natAbs), loN (a.natAbs * d.natAbs), hiN (b.natAbs * c.natAbs), loN (b.natAbs * c.natAbs)) else none
open Go.Proofs.YtofndakpenpkbaaDoor.PA in
theorem ratio_by.calls (a b c d : Int) (r1 : Bool) (r2 r3 r4 r5 : Int) (w : World) (h : ratio_by.f a b c d = some (r1, r2, r3, r4, r5)) :
    Calls Tryd.prog 64 #[.agg #[.int .i64 a, .int .i64 b], .agg #[.int .i64 c, .int .i64 d]] w fun e w' => e = .returned (.agg #[.bool r1, .int .u64 r2, .int .u64 r3, .int .u64 r4, .int .u64 r5]) ∧ Below w.heap.size w w' := by
  unfold ratio_by.f at h
  by_cases hc : i64ok a = true ∧ i64ok b = true ∧ i64ok c = true ∧ i64ok d = true ∧ 0 ≤ b ∧ 0 ≤ d
  case neg => rw [if_neg hc] at h; cases h
  rw [if_pos hc] at h
  obtain ⟨h0, h1, h2, h3, h4, h5⟩ := hc
  rw [i64ok_iff] at h0 h1 h2 h3
  simp only [Option.some.injEq, Prod.mk.injEq] at h
  obtain ⟨rfl, rfl, rfl, rfl, rfl⟩ := h
  exact by_any a b c d _ _ _ w h0.1 h0.2 h4 h1.2 h2.1 h2.2 h5 h3.2 rfl rfl rfl
def ratio_frac_whole.f (a0_0 : Bool) (a0_1 : Int) (a0_2 : Int) (a0_3 : Int) (a0_4 : Int) (a1 : Int) : Option (Int × Int) := PW.ratio_frac_whole.f 1 a0_0 a0_1 a0_2 a0_3 a0_4 a1
theorem ratio_frac_whole.calls (a0_0 : Bool) (a0_1 : Int) (a0_2 : Int) (a0_3 : Int) (a0_4 : Int) (a1 : Int) (r1 : Int) (r2 : Int) (w : World) (h : ratio_frac_whole.f a0_0 a0_1 a0_2 a0_3 a0_4 a1 = some (r1, r2)) :
    Calls Tryd.prog 67 #[.agg #[.bool a0_0, .int .u64 a0_1, .int .u64 a0_2, .int .u64 a0_3, .int .u64 a0_4], .int .i64 a1] w fun e w' => e = .returned (.tuple #[.int .i64 r1, .int .i64 r2]) ∧ Below w.heap.size w w' :=
  PW.ratio_frac_whole.calls 1 a0_0 a0_1 a0_2 a0_3 a0_4 a1 r1 r2 w h
def ratio_Whole.f (a0_0 : Int) (a0_1 : Int) (a1 : Int) (a2 : Int) : Option (Int × Int) := PW.ratio_Whole.f 1 a0_0 a0_1 a1 a2
theorem ratio_Whole.calls (a0_0 : Int) (a0_1 : Int) (a1 : Int) (a2 : Int) (r1 : Int) (r2 : Int) (w : World) (h : ratio_Whole.f a0_0 a0_1 a1 a2 = some (r1, r2)) :
    Calls Tryd.prog 40 #[.agg #[.int .i64 a0_0, .int .i64 a0_1], .int .i64 a1, .int .i64 a2] w fun e w' => e = .returned (.tuple #[.int .i64 r1, .int .i64 r2]) ∧ Below w.heap.size w w' :=
  PW.ratio_Whole.calls 1 a0_0 a0_1 a1 a2 r1 r2 w h
end Go.Proofs.YtofndakpenpkbaaDoor.PC
