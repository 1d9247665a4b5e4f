/- lowest, as the printer spells it. -/
import Derived.Test.YtofndakpenpkbaaDoorRefC
namespace Go.Proofs.YtofndakpenpkbaaDoor.PA
open Go.RowKit Go.Proofs.YtofndakpenpkbaaDoorW.PrintWords Go.Proofs.YtofndakpenpkbaaDoorW.PrintLast Go.Proofs.YtofndakpenpkbaaDoorW.PrintMore
set_option linter.unusedSimpArgs false
set_option linter.unusedVariables false
def surtitleref3_lowest.f (a0_0 : Bool) (a0_1 : Int) (a0_2 : Int) (a1_0 : Bool) (a1_1 : Int) (a1_2 : Int) : Option (Int × Int × Int) :=
  if u64ok a0_1 = true ∧ u64ok a0_2 = true ∧ u64ok a1_1 = true ∧ u64ok a1_2 = true ∧ a1_0 = false ∧ (wvN a0_1 a0_2 = 0 → a0_0 = false) ∧ wvN a1_1 a1_2 ≠ 0 then some (fitS a0_0 (wvN a0_1 a0_2) (wvN a1_1 a1_2)) else none
theorem surtitleref3_lowest.calls (a0_0 : Bool) (a0_1 : Int) (a0_2 : Int) (a1_0 : Bool) (a1_1 : Int) (a1_2 : Int) (r1 : Int) (r2 : Int) (r3 : Int) (w : World) (h : surtitleref3_lowest.f a0_0 a0_1 a0_2 a1_0 a1_1 a1_2 = some (r1, r2, r3)) :
    Calls Tryd.prog 53 #[.agg #[.bool a0_0, .int .u64 a0_1, .int .u64 a0_2], .agg #[.bool a1_0, .int .u64 a1_1, .int .u64 a1_2]] w fun e w' => e = .returned (.tuple #[.agg #[.int .i64 r1, .int .i64 r2], .int .i64 r3]) ∧ Below w.heap.size w w' := by
  unfold surtitleref3_lowest.f at h
  by_cases hc : u64ok a0_1 = true ∧ u64ok a0_2 = true ∧ u64ok a1_1 = true ∧ u64ok a1_2 = true ∧ a1_0 = false ∧ (wvN a0_1 a0_2 = 0 → a0_0 = false) ∧ wvN a1_1 a1_2 ≠ 0
  case neg => rw [if_neg hc] at h; cases h
  rw [if_pos hc] at h
  obtain ⟨h1, h2, h3, h4, rfl, h6, h7⟩ := hc
  rw [u64ok_iff] at h1 h2 h3 h4
  have h8 := Option.some.inj h
  have e1 : hiN (wvN a0_1 a0_2) = a0_1 := by unfold hiN wvN; omega
  have e2 : loN (wvN a0_1 a0_2) = a0_2 := by unfold loN wvN; omega
  have e3 : hiN (wvN a1_1 a1_2) = a1_1 := by unfold hiN wvN; omega
  have e4 : loN (wvN a1_1 a1_2) = a1_2 := by unfold loN wvN; omega
  have h9 := lowest_any a0_0 (wvN a0_1 a0_2) (wvN a1_1 a1_2) w h6 (by unfold wvN; omega) (by omega) (by unfold wvN; omega)
  rw [e1, e2, e3, e4, h8] at h9
  exact h9
theorem lowest_f (z : Int) (D : Nat) (hz : z.natAbs < 340282366920938463463374607431768211456) (hD0 : 0 < D) (hD : D < 340282366920938463463374607431768211456) :
    surtitleref3_lowest.f (wI z).1 (wI z).2.1 (wI z).2.2 false (hiN D) (loN D) = some (fitS (decide (z < 0)) z.natAbs D) := by
  unfold surtitleref3_lowest.f wI
  dsimp only
  rw [wvN_hl, wvN_hl, if_pos ⟨hiN_ok hz, loN_ok _, hiN_ok hD, loN_ok _, rfl, fun h => by rw [decide_eq_false_iff_not]; omega, by omega⟩]
end Go.Proofs.YtofndakpenpkbaaDoor.PA
