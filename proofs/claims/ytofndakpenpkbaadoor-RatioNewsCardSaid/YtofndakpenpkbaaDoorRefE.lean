/- What the reference's New tells is what the program tells. -/
import Derived.Test.YtofndakpenpkbaaDoorRefR
import Derived.Test.YtofndakpenpkbaaDoorPNx1
namespace Go.Proofs.YtofndakpenpkbaaDoor.PA
open Go.RowKit Go.Proofs.YtofndakpenpkbaaDoorW.PrintWords Go.Proofs.YtofndakpenpkbaaDoorW.PrintLast Go.Proofs.YtofndakpenpkbaaDoorW.PrintMore Go.Proofs.YtofndakpenpkbaaDoor.PR Go.Proofs.YtofndakpenpkbaaDoor.PN
set_option linter.unusedSimpArgs false
set_option linter.unusedVariables false
theorem newR (n d : Int) (hn0 : -9223372036854775808 ≤ n) (hn1 : n ≤ 9223372036854775807) (hd0 : -9223372036854775808 ≤ d) (hd1 : d ≤ 9223372036854775807) : surtitleref3_New.f n d = some (newS n d) := by
  unfold surtitleref3_New.f newS
  by_cases h : d = 0
  · rw [if_pos h, if_pos h]
  · rw [if_neg h, if_neg h, timesW n 1 hn0 hn1 (by omega) (by omega), Int.mul_one, sizeW d hd0 hd1]
    simp only [Option.bind_some]
    have hz : (0 : Int) = hiN d.natAbs := by unfold hiN; omega
    have hl : ((d.natAbs : Nat) : Int) = loN d.natAbs := by unfold loN; omega
    have e : ∀ s : Bool, (surtitleref3_right.f s (wI n).2.1 (wI n).2.2) = some (s && decide (n.natAbs ≠ 0), hiN n.natAbs, loN n.natAbs) := fun s => rightW s n.natAbs
    have hn2 : n.natAbs < 340282366920938463463374607431768211456 := by omega
    have hd2 : d.natAbs < 340282366920938463463374607431768211456 := by omega
    have hlow : ∀ s : Bool, surtitleref3_lowest.f (s && decide (n.natAbs ≠ 0)) (hiN n.natAbs) (loN n.natAbs) false 0 ((d.natAbs : Nat) : Int) = some (fitS (s && decide (n.natAbs ≠ 0)) n.natAbs d.natAbs) := fun s => by
      rw [hz, hl]
      unfold surtitleref3_lowest.f
      rw [wvN_hl, wvN_hl, if_pos ⟨hiN_ok hn2, loN_ok _, hiN_ok hd2, loN_ok _, rfl, fun h => by rw [h]; simp, by omega⟩]
    by_cases h2 : d < 0
    · rw [if_pos h2, e]
      simp only [Option.bind_some]
      rw [hlow]
      simp only [Option.bind_some]
      congr 1
      refine fitS_sign _ _ _ _ (fun hne => ?_) (by omega)
      unfold wI
      simp only [hne, ne_eq, not_false_eq_true, decide_true, Bool.and_true, h2]
      cases decide (n < 0) <;> rfl
    · rw [if_neg h2, e]
      simp only [Option.bind_some]
      rw [hlow]
      simp only [Option.bind_some]
      congr 1
      refine fitS_sign _ _ _ _ (fun hne => ?_) (by omega)
      unfold wI
      simp only [hne, ne_eq, not_false_eq_true, decide_true, Bool.and_true, h2, decide_false]
      cases decide (n < 0) <;> rfl
end Go.Proofs.YtofndakpenpkbaaDoor.PA
