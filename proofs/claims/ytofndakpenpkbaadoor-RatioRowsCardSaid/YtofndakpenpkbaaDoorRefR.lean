/- The reference's Right. -/
import Derived.Test.YtofndakpenpkbaaDoorRefD
import Derived.Test.YtofndakpenpkbaaDoorRatQ
namespace Go.Proofs.YtofndakpenpkbaaDoor.PA
open Go.RowKit Go.Proofs.YtofndakpenpkbaaDoorW.PrintWords Go.Proofs.YtofndakpenpkbaaDoorW.PrintLast Go.Proofs.YtofndakpenpkbaaDoorW.PrintMore Go.Proofs.YtofndakpenpkbaaDoor.PR
set_option linter.unusedSimpArgs false
set_option linter.unusedVariables false
theorem fitS_sign (s t : Bool) (n d : Nat) (h : n ≠ 0 → s = t) (hd : 0 < d) : fitS s n d = fitS t n d := by
  by_cases h0 : n = 0
  · subst h0
    unfold fitS
    rw [Nat.gcd_zero_left, Nat.zero_div, Nat.div_self hd]
    cases s <;> cases t <;> rfl
  · rw [h h0]
theorem rightR (k : Nat) (hk : 2147483648 < k) (n d : Int) : surtitleref3_Right.f k n d = some (rightS n d) := by
  unfold surtitleref3_Right.f
  by_cases h1 : d ≥ 1
  · rw [if_pos h1]
    by_cases h2 : d ≤ 2147483648
    · rw [if_pos h2]
      by_cases h3 : n ≥ -4611686018427387904
      · rw [if_pos h3]
        by_cases h4 : n ≤ 4611686018427387904
        · rw [if_pos h4, sizeW n (by omega) (by omega)]
          simp only [Option.bind_some]
          have hw : IntKind.u64.wrap d = (d.natAbs : Int) := by rw [U64.wrap_u64]; omega
          rw [hw, common_any' n.natAbs d.natAbs k (by omega)]
          simp only [Option.bind_some]
          congr 1
          rw [Bool.eq_iff_iff, rightS_iff, beq_iff_eq]
          omega
        · rw [if_neg h4]; congr 1; symm; rw [← Bool.not_eq_true, rightS_iff]; omega
      · rw [if_neg h3]; congr 1; symm; rw [← Bool.not_eq_true, rightS_iff]; omega
    · rw [if_neg h2]; congr 1; symm; rw [← Bool.not_eq_true, rightS_iff]; omega
  · rw [if_neg h1]; congr 1; symm; rw [← Bool.not_eq_true, rightS_iff]; omega
end Go.Proofs.YtofndakpenpkbaaDoor.PA
