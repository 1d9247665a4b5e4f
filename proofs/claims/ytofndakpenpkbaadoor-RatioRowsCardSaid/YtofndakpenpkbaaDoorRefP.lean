/- The reference's sums. -/
import Derived.Test.YtofndakpenpkbaaDoorRefB
import Derived.Test.YtofndakpenpkbaaDoorPPx1
namespace Go.Proofs.YtofndakpenpkbaaDoor.PA
open Go.RowKit Go.Proofs.YtofndakpenpkbaaDoorW.PrintWords Go.Proofs.YtofndakpenpkbaaDoorW.PrintLast Go.Proofs.YtofndakpenpkbaaDoorW.PrintMore Go.Proofs.YtofndakpenpkbaaDoor.PR Go.Proofs.YtofndakpenpkbaaDoor.PP
set_option linter.unusedSimpArgs false
set_option linter.unusedVariables false
theorem plus_hi1 {x y : Nat} (h : x + y < 340282366920938463463374607431768211456) (hl : IntKind.u64.wrap (loN x + loN y) < loN x) : IntKind.u64.wrap (IntKind.u64.wrap (hiN x + hiN y) + 1) = hiN (x + y) := by
  unfold hiN loN at *
  rw [U64.wrap_u64] at hl
  rw [U64.wrap_u64, U64.wrap_u64]; omega
theorem plus_hi0 {x y : Nat} (h : x + y < 340282366920938463463374607431768211456) (hl : ¬ IntKind.u64.wrap (loN x + loN y) < loN x) : IntKind.u64.wrap (hiN x + hiN y) = hiN (x + y) := by
  unfold hiN loN at *
  rw [U64.wrap_u64] at hl
  rw [U64.wrap_u64]; omega
theorem plus_lo {x y : Nat} : IntKind.u64.wrap (loN x + loN y) = loN (x + y) := by unfold loN; rw [U64.wrap_u64]; omega
theorem plusSame (k : Nat) (n : Bool) (x y : Nat) (h : x + y < 340282366920938463463374607431768211456) : surtitleref3_Plus.f (k + 1) n (hiN x) (loN x) n (hiN y) (loN y) = some (n && decide (x + y ≠ 0), hiN (x + y), loN (x + y)) := by
  simp only [surtitleref3_Plus.f]
  rw [if_pos (by simp)]
  by_cases hl : IntKind.u64.wrap (loN x + loN y) < loN x
  · rw [if_pos hl, plus_hi1 h hl, plus_lo, rightW]; rfl
  · rw [if_neg hl, plus_hi0 h hl, plus_lo, rightW]; rfl
theorem plusDown (k : Nat) (n m : Bool) (x y : Nat) (hn : (n == m) = false) (h : y ≤ x) (hx : x < 340282366920938463463374607431768211456) : surtitleref3_Plus.f (k + 1) n (hiN x) (loN x) m (hiN y) (loN y) = some (n && decide (x - y ≠ 0), hiN (x - y), loN (x - y)) := by
  simp only [surtitleref3_Plus.f]
  rw [if_neg (by rw [hn]; decide), above_any]
  simp only [Option.bind_some, decide_eq_true_eq]
  rw [if_neg (by omega)]
  by_cases hl : loN x < loN y
  · rw [if_pos hl, sub_hi1 h hx hl, sub_lo h, rightW]; rfl
  · rw [if_neg hl, sub_hi0 h hx hl, sub_lo h, rightW]; rfl
theorem plusUp (k : Nat) (n m : Bool) (x y : Nat) (hn : (n == m) = false) (h : x < y) (hy : y < 340282366920938463463374607431768211456) : surtitleref3_Plus.f (k + 2) n (hiN x) (loN x) m (hiN y) (loN y) = some (m && decide (y - x ≠ 0), hiN (y - x), loN (y - x)) := by
  rw [surtitleref3_Plus.f, if_neg (by rw [hn]; decide), above_any]
  simp only [Option.bind_some, decide_eq_true_eq]
  rw [if_pos h, plusDown k m n y x (by rw [Bool.beq_comm]; exact hn) (by omega) hy]; rfl
theorem plusW (k : Nat) (x y : Int) (h : x.natAbs + y.natAbs < 340282366920938463463374607431768211456) : surtitleref3_Plus.f (k + 2) (wI x).1 (wI x).2.1 (wI x).2.2 (wI y).1 (wI y).2.1 (wI y).2.2 = some (wI (x + y)) := by
  unfold wI
  dsimp only
  by_cases hx : x < 0 <;> by_cases hy : y < 0
  · rw [decide_eq_true hx, decide_eq_true hy, plusSame (k + 1) true _ _ h, show (x + y).natAbs = x.natAbs + y.natAbs by omega]
    congr 2; rw [Bool.true_and, decide_eq_decide]; omega
  · rw [decide_eq_true hx, decide_eq_false hy]
    by_cases hl : y.natAbs ≤ x.natAbs
    · rw [plusDown (k + 1) _ _ _ _ rfl hl (by omega), show (x + y).natAbs = x.natAbs - y.natAbs by omega]
      congr 2; rw [Bool.true_and, decide_eq_decide]; omega
    · rw [plusUp k _ _ _ _ rfl (by omega) (by omega), show (x + y).natAbs = y.natAbs - x.natAbs by omega]
      congr 2; rw [Bool.false_and]; symm; rw [decide_eq_false_iff_not]; omega
  · rw [decide_eq_false hx, decide_eq_true hy]
    by_cases hl : y.natAbs ≤ x.natAbs
    · rw [plusDown (k + 1) _ _ _ _ rfl hl (by omega), show (x + y).natAbs = x.natAbs - y.natAbs by omega]
      congr 2; rw [Bool.false_and]; symm; rw [decide_eq_false_iff_not]; omega
    · rw [plusUp k _ _ _ _ rfl (by omega) (by omega), show (x + y).natAbs = y.natAbs - x.natAbs by omega]
      congr 2; rw [Bool.true_and, decide_eq_decide]; omega
  · rw [decide_eq_false hx, decide_eq_false hy, plusSame (k + 1) false _ _ h, show (x + y).natAbs = x.natAbs + y.natAbs by omega]
    congr 2; rw [Bool.false_and]; symm; rw [decide_eq_false_iff_not]; omega
end Go.Proofs.YtofndakpenpkbaaDoor.PA
