/- What the reference's Add, Sub, Neg tell is what the program tells. -/
import Derived.Test.YtofndakpenpkbaaDoorRefO
import Derived.Test.YtofndakpenpkbaaDoorRefP
import Derived.Test.YtofndakpenpkbaaDoorPSx1
namespace Go.Proofs.YtofndakpenpkbaaDoor.PA
open Go.RowKit Go.Proofs.YtofndakpenpkbaaDoorW.PrintWords Go.Proofs.YtofndakpenpkbaaDoorW.PrintLast Go.Proofs.YtofndakpenpkbaaDoorW.PrintMore Go.Proofs.YtofndakpenpkbaaDoor.PR Go.Proofs.YtofndakpenpkbaaDoor.PO Go.Proofs.YtofndakpenpkbaaDoor.PP Go.Proofs.YtofndakpenpkbaaDoor.PS
set_option linter.unusedSimpArgs false
set_option linter.unusedVariables false
theorem negR (k : Nat) (hk : 2147483648 < k) (a b : Int) : surtitleref3_Neg.f k a b = some (subS 0 1 a b) := by
  unfold surtitleref3_Neg.f
  rw [rightR k hk]
  simp only [Option.bind_some]
  by_cases h : rightS a b = true
  · rw [if_pos h, subS_T3 right01 h, qv01, show (0 : Rat) - qv a b = -qv a b by grind]
    have hb := right_bounds h
    rw [← qv_neg (by omega), T3_q (by rw [rightS_neg]; exact h)]
    congr 2
    unfold wrap64; omega
  · have h' : rightS a b = false := by simpa using h
    rw [if_neg h, (bad2 (a := 0) (b := 1) (by rw [h', Bool.and_false])).2.1]
theorem fitS_val {s t : Bool} {n m d e : Nat} (hd : 0 < d) (he : d = e) (h : (if s = true then -(n : Int) else n) = (if t = true then -(m : Int) else m)) : fitS s n d = fitS t m e := by
  subst he
  rw [fitS_T3 _ _ _ hd, fitS_T3 _ _ _ hd, h]
theorem addR (k : Nat) (hk : 2147483648 < k) (a b c d : Int) : surtitleref3_Add.f k a b c d = some (addS a b c d) := by
  unfold surtitleref3_Add.f
  rw [bothR k hk]
  simp only [Option.bind_some]
  by_cases h : (rightS a b && rightS c d) = true
  · rw [if_pos h]
    rw [Bool.and_eq_true] at h
    obtain ⟨b1, b2, b3, _⟩ := right_bounds h.1
    obtain ⟨d1, d2, d3, _⟩ := right_bounds h.2
    rw [timesW a d (by omega) (by omega) (by omega) (by omega), timesW c b (by omega) (by omega) (by omega) (by omega), timesW b d (by omega) (by omega) (by omega) (by omega)]
    simp only [Option.bind_some]
    have m1 : (a * d).natAbs ≤ 9903520314283042199192993792 := by rw [Int.natAbs_mul]; exact Nat.mul_le_mul b3 (show d.natAbs ≤ 2147483648 by omega)
    have m2 : (c * b).natAbs ≤ 9903520314283042199192993792 := by rw [Int.natAbs_mul]; exact Nat.mul_le_mul d3 (show b.natAbs ≤ 2147483648 by omega)
    have m3 : (b * d).natAbs ≤ 4611686018427387904 := by rw [Int.natAbs_mul]; exact Nat.mul_le_mul (show b.natAbs ≤ 2147483648 by omega) (show d.natAbs ≤ 2147483648 by omega)
    have m4 : 0 < b * d := Int.mul_pos (by omega) (by omega)
    obtain ⟨k, rfl⟩ : ∃ m, k = m + 2 := ⟨k - 2, by omega⟩
    rw [plusW k _ _ (by omega)]
    simp only [Option.bind_some]
    have e : wI (b * d) = (false, hiN (b * d).natAbs, loN (b * d).natAbs) := by unfold wI; rw [decide_eq_false (by omega)]
    rw [e]
    dsimp only
    rw [lowest_f _ _ (by omega) (by omega) (by omega)]
    simp only [Option.bind_some]
    congr 1
    unfold addS
    rw [if_pos (by rw [h.1, h.2]; rfl)]
    refine fitS_val (by omega) (Int.natAbs_mul b d) ?_
    rw [sumS_val, sgn_pos _ _ (by omega), sgn_pos _ _ (by omega)]
    exact sgn_abs _
  · rw [if_neg h, (bad2 (by simpa using h)).1]
theorem subR (k : Nat) (hk : 2147483648 < k) (a b c d : Int) (hc0 : -9223372036854775808 ≤ c) (hc1 : c ≤ 9223372036854775807) : surtitleref3_Sub.f k a b c d = some (subS a b c d) := by
  unfold surtitleref3_Sub.f subS
  rw [bothR k hk]
  simp only [Option.bind_some]
  by_cases h : (rightS a b && rightS c d) = true
  · rw [if_pos h, if_pos h]
    rw [Bool.and_eq_true] at h
    have hb := right_bounds h.2
    rw [show wrap64 (-c) = -c by unfold wrap64; omega, addR k hk]; rfl
  · rw [if_neg h, if_neg h]
end Go.Proofs.YtofndakpenpkbaaDoor.PA
