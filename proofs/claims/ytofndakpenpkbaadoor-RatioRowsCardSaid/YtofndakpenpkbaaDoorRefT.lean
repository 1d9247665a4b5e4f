/- The reference's Cmp and Time are the program's. -/
import Derived.Test.YtofndakpenpkbaaDoorRefR
import Derived.Test.YtofndakpenpkbaaDoorRefL
import Derived.Test.YtofndakpenpkbaaDoorPTx1
import Derived.Test.YtofndakpenpkbaaDoorSnpC
namespace Go.Proofs.YtofndakpenpkbaaDoor.PA
open Go.RowKit Go.Proofs.YtofndakpenpkbaaDoorW.PrintWords Go.Proofs.YtofndakpenpkbaaDoorW.PrintLast Go.Proofs.YtofndakpenpkbaaDoorW.PrintMore Go.Proofs.YtofndakpenpkbaaDoor.PR Go.Proofs.YtofndakpenpkbaaDoor.PL Go.Proofs.YtofndakpenpkbaaDoor.PT
set_option linter.unusedSimpArgs false
set_option linter.unusedVariables false
theorem cmpI (a b c d : Int) (ha : -9223372036854775808 ≤ a ∧ a ≤ 9223372036854775807) (hb : 0 < b ∧ b ≤ 9223372036854775807) (hc : -9223372036854775808 ≤ c ∧ c ≤ 9223372036854775807) (hd : 0 < d ∧ d ≤ 9223372036854775807) :
    surtitleref3_Cmp.f a b c d = some (cmpS a b c d) := by
  unfold surtitleref3_Cmp.f
  rw [timesW a d (by omega) (by omega) (by omega) (by omega), timesW c b (by omega) (by omega) (by omega) (by omega)]
  simp only [Option.bind_some]
  rw [lessW, lessW]
  simp only [Option.bind_some]
  rw [cmpS_eq hb.1 hd.1]
  by_cases h1 : a * d < c * b
  · rw [if_pos (decide_eq_true h1), if_neg (by omega), if_pos h1]
  · rw [if_neg (by simpa using h1)]
    by_cases h2 : c * b < a * d
    · rw [if_pos (decide_eq_true h2), if_neg (by omega), if_neg h1]
    · rw [if_neg (by simpa using h2), if_pos (by omega)]
theorem refTime (k : Nat) (hk : 2147483648 < k) (a b : Int) : surtitleref3_Time.f k a b = some (timeS a b) := by
  unfold surtitleref3_Time.f timeS
  rw [rightR k hk]
  simp only [Option.bind_some]
  obtain ⟨k, rfl⟩ : ∃ m, k = m + 1 := ⟨k - 1, by omega⟩
  cases h : rightS a b
  · rw [if_neg (by decide), Bool.false_and, if_neg (by decide)]
    simp only [surtitleref3_Time.j0, if_true]
  · rw [if_pos rfl, Bool.true_and]
    have hb := right_bounds h
    by_cases h1 : b ≤ 1048576
    · rw [decide_eq_false (show ¬ b > 1048576 by omega), decide_eq_true h1, if_pos rfl]
      simp only [surtitleref3_Time.j0, Bool.false_eq_true, if_false]
      by_cases h2 : a < 0
      · rw [if_pos h2, if_pos h2]
      · rw [if_neg h2, if_neg h2, cmpI a b 360000 1 (by omega) (by omega) (by decide) (by decide)]
        simp only [Option.bind_some]
        by_cases h3 : cmpS a b 360000 1 > 0
        · rw [if_pos h3, if_pos h3]
        · rw [if_neg h3, if_neg h3]
    · rw [decide_eq_true (show b > 1048576 by omega), decide_eq_false h1, if_neg (by decide)]
      simp only [surtitleref3_Time.j0, if_true]
end Go.Proofs.YtofndakpenpkbaaDoor.PA
