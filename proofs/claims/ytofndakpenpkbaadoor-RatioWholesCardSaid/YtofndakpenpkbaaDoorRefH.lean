/- The reference's Whole is the program's. -/
import Derived.Test.YtofndakpenpkbaaDoorRefG
import Derived.Test.YtofndakpenpkbaaDoorRefO
import Derived.Test.YtofndakpenpkbaaDoorPHx2
namespace Go.Proofs.YtofndakpenpkbaaDoor.PA
open Go.RowKit Go.Proofs.YtofndakpenpkbaaDoorW.PrintWords Go.Proofs.YtofndakpenpkbaaDoorW.PrintLast Go.Proofs.YtofndakpenpkbaaDoorW.PrintMore Go.Proofs.YtofndakpenpkbaaDoor.PR Go.Proofs.YtofndakpenpkbaaDoor.PP Go.Proofs.YtofndakpenpkbaaDoor.PF Go.Proofs.YtofndakpenpkbaaDoor.PH
set_option linter.unusedSimpArgs false
set_option linter.unusedVariables false
theorem refWhole (k : Nat) (hk : 2147483648 < k) (a b t how : Int) (ht : -9223372036854775808 ≤ t ∧ t ≤ 9223372036854775807) :
    surtitleref3_Whole.f k a b t how = some (if rightS a b = true then wholeT (a * t) b.toNat how else (0, 12)) := by
  unfold surtitleref3_Whole.f
  rw [rightR k hk]
  simp only [Option.bind_some]
  by_cases h : rightS a b = true
  · rw [if_pos h, if_pos h]
    obtain ⟨b1, b2, b3, _⟩ := right_bounds h
    obtain ⟨k, rfl⟩ : ∃ m, k = m + 4 := ⟨k - 4, by omega⟩
    unfold wholeT
    by_cases hh : how = 1 ∨ how = 2 ∨ how = 3
    · rw [if_neg (by omega), decide_eq_false (by omega), if_pos hh]
      simp only [surtitleref3_Whole.j0, Bool.false_eq_true, if_false]
      rw [timesW a t (by omega) (by omega) ht.1 ht.2, timesW b 1 (by omega) (by omega) (by omega) (by omega), Int.mul_one]
      simp only [Option.bind_some]
      have m1 : (a * t).natAbs ≤ 42535295865117307932921825928971026432 := by rw [Int.natAbs_mul]; exact mul_bd b3 (show t.natAbs ≤ 9223372036854775808 by omega)
      rw [wholeW k (by omega) (a * t) b how (by omega) (by omega) hh]
      simp only [Option.bind_some]
      rw [fitsW]
      simp only [Option.bind_some]
      have e : b.toNat = b.natAbs := by omega
      rw [e]
      by_cases hz : (wholeZ (a * t) b.natAbs how).natAbs ≤ 4611686018427387904
      · rw [if_pos (decide_eq_true hz), if_pos hz, numberW _ hz]
        simp only [Option.bind_some]
      · rw [if_neg (by simpa using hz), if_neg hz]
    · rw [if_neg hh]
      by_cases h1 : how < 1
      · rw [if_pos h1]
        simp only [surtitleref3_Whole.j0, if_true]
      · rw [if_neg h1, decide_eq_true (by omega)]
        simp only [surtitleref3_Whole.j0, if_true]
  · rw [if_neg h, if_neg h]
end Go.Proofs.YtofndakpenpkbaaDoor.PA
