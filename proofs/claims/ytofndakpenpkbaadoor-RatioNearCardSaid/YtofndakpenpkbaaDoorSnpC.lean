/- Snap and Time, told without fuel, and what they come to. -/
import Derived.Test.YtofndakpenpkbaaDoorPSpx1
import Derived.Test.YtofndakpenpkbaaDoorPTmx1
namespace Go.Proofs.YtofndakpenpkbaaDoor.PC
open Go.RowKit
def ratio_Snap.f (a0_0 : Int) (a0_1 : Int) (a1_0 : Int) (a1_1 : Int) (a2 : Int) : Option (Int × Int × Int) := PSp.ratio_Snap.f 3 a0_0 a0_1 a1_0 a1_1 a2
theorem ratio_Snap.calls (a0_0 : Int) (a0_1 : Int) (a1_0 : Int) (a1_1 : Int) (a2 : Int) (r1 : Int) (r2 : Int) (r3 : Int) (w : World) (h : ratio_Snap.f a0_0 a0_1 a1_0 a1_1 a2 = some (r1, r2, r3)) :
    Calls Tryd.prog 42 #[.agg #[.int .i64 a0_0, .int .i64 a0_1], .agg #[.int .i64 a1_0, .int .i64 a1_1], .int .i64 a2] w fun e w' => e = .returned (.tuple #[.agg #[.int .i64 r1, .int .i64 r2], .int .i64 r3]) ∧ Below w.heap.size w w' :=
  PSp.ratio_Snap.calls 3 a0_0 a0_1 a1_0 a1_1 a2 r1 r2 r3 w h
def ratio_Time.f (a0_0 : Int) (a0_1 : Int) : Option Int := PTm.ratio_Time.f 1 a0_0 a0_1
theorem ratio_Time.calls (a0_0 : Int) (a0_1 : Int) (r : Int) (w : World) (h : ratio_Time.f a0_0 a0_1 = some r) :
    Calls Tryd.prog 44 #[.agg #[.int .i64 a0_0, .int .i64 a0_1]] w fun e w' => e = .returned (.int .i64 r) ∧ Below w.heap.size w w' :=
  PTm.ratio_Time.calls 1 a0_0 a0_1 r w h
end Go.Proofs.YtofndakpenpkbaaDoor.PC
namespace Go.Proofs.YtofndakpenpkbaaDoor.PA
open Go.RowKit Go.Proofs.YtofndakpenpkbaaDoorW.PrintWords Go.Proofs.YtofndakpenpkbaaDoor.PSp
set_option linter.unusedSimpArgs false
set_option linter.unusedVariables false
def snapS (a b c d how : Int) : Int × Int × Int :=
  if (rightS a b && rightS c d) = true then (if c ≤ 0 then (0, 0, 11) else if (wholeT (a * d) (b.natAbs * c.natAbs) how).2 = 0 then mulS (wholeT (a * d) (b.natAbs * c.natAbs) how).1 1 c d else (0, 0, (wholeT (a * d) (b.natAbs * c.natAbs) how).2)) else (0, 0, 12)
theorem right_f2 (a b c d : Int) (i0 : i64ok a = true) (i1 : i64ok b = true) (i2 : i64ok c = true) (i3 : i64ok d = true) : PSp.ratio_right.f 3 [⟨a, b⟩, ⟨c, d⟩] = some (rightS a b && rightS c d) := by
  unfold PSp.ratio_right.f
  have e0 : rd_T24 [(⟨a, b⟩ : S24), ⟨c, d⟩] 0 = ⟨a, b⟩ := rfl
  have e1 : rd_T24 [(⟨a, b⟩ : S24), ⟨c, d⟩] 1 = ⟨c, d⟩ := rfl
  have w1 : wrap64 (0 + 1) = 1 := by unfold wrap64; omega
  have w2 : wrap64 (1 + 1) = 2 := by unfold wrap64; omega
  simp only [PSp.ratio_right.l0, List.length_cons, List.length_nil, e0, e1, w1, w2, ratio_Right.f]
  rw [if_pos (by decide), if_pos (by decide), if_pos (by decide), if_pos ⟨i0, i1⟩]
  simp only [Option.bind_some]
  cases h : rightS a b
  · rw [if_neg (by decide), Bool.false_and]
  · rw [if_pos rfl, if_pos (by decide), if_pos (by decide), if_pos (by decide), if_pos ⟨i2, i3⟩]
    simp only [Option.bind_some]
    cases h2 : rightS c d
    · rfl
    · rw [if_pos rfl, if_neg (by decide)]; rfl
theorem right_n1 {n : Int} (h : n.natAbs ≤ 4611686018427387904) : rightS n 1 = true := rightS_iff.mpr ⟨by decide, by decide, h, by simp⟩
theorem wholeT_ok {z : Int} {D : Nat} {how : Int} (h : (wholeT z D how).2 = 0) : (how = 1 ∨ how = 2 ∨ how = 3) ∧ (wholeT z D how).1 = wholeZ z D how ∧ (wholeZ z D how).natAbs ≤ 4611686018427387904 := by
  unfold wholeT at h ⊢
  by_cases hh : how = 1 ∨ how = 2 ∨ how = 3
  · rw [if_pos hh] at h ⊢
    by_cases hz : (wholeZ z D how).natAbs ≤ 4611686018427387904
    · rw [if_pos hz]; exact ⟨hh, rfl, hz⟩
    · rw [if_neg hz] at h; simp at h
  · rw [if_neg hh] at h; simp at h
theorem snap_f (a b c d how : Int) (i0 : i64ok a = true) (i1 : i64ok b = true) (i2 : i64ok c = true) (i3 : i64ok d = true) : PC.ratio_Snap.f a b c d how = some (snapS a b c d how) := by
  unfold PC.ratio_Snap.f PSp.ratio_Snap.f snapS
  rw [right_f2 a b c d i0 i1 i2 i3]
  simp only [Option.bind_some]
  by_cases h : (rightS a b && rightS c d) = true
  · rw [if_pos h, if_pos h]
    rw [Bool.and_eq_true] at h
    obtain ⟨b1, b2, b3, _⟩ := right_bounds h.1
    obtain ⟨d1, d2, d3, _⟩ := right_bounds h.2
    by_cases hc : c ≤ 0
    · rw [if_pos hc, if_pos hc]
    · rw [if_neg hc, if_neg hc]
      unfold PC.ratio_by.f PC.ratio_frac_whole.f
      rw [if_pos ⟨i0, i1, i2, i3, by omega, by omega⟩]
      simp only [Option.bind_some]
      have m1 : a.natAbs * d.natAbs ≤ 9903520314283042199192993792 := Nat.mul_le_mul b3 (show d.natAbs ≤ 2147483648 by omega)
      have m2 : b.natAbs * c.natAbs ≤ 9903520314283042199192993792 := by rw [Nat.mul_comm]; exact Nat.mul_le_mul d3 (show b.natAbs ≤ 2147483648 by omega)
      have m3 : 0 < b.natAbs * c.natAbs := Nat.mul_pos (by omega) (by omega)
      rw [show PW.ratio_frac_whole.f 1 _ _ _ _ _ how = _ from whole_f 0 _ _ _ how (by omega) m3 (by omega)]
      simp only [Option.bind_some]
      have e : valD (!(decide (a < 0) == decide (c < 0))) (a.natAbs * d.natAbs) = a * d := by
        have h1 := valD_mul a d
        rw [decide_eq_false (show ¬ d < 0 by omega)] at h1
        rw [decide_eq_false (show ¬ c < 0 by omega), ← h1]
        rfl
      rw [e]
      by_cases hw : (wholeT (a * d) (b.natAbs * c.natAbs) how).2 = 0
      · rw [if_pos hw, if_pos hw]
        obtain ⟨_, w1, w2⟩ := wholeT_ok hw
        unfold ratio_Mul.f
        rw [w1, if_pos ⟨i64ok_iff.mpr (by omega), i64ok_iff.mpr (by omega), i2, i3⟩]
        simp only [Option.bind_some, Prod.eta]
      · rw [if_neg hw, if_neg hw]
  · rw [if_neg h, if_neg h]
def timeS (a b : Int) : Int := if (rightS a b && decide (b ≤ 1048576)) = true then (if a < 0 then 31 else if cmpS a b 360000 1 > 0 then 31 else 0) else 12
theorem time_f (a b : Int) (i0 : i64ok a = true) (i1 : i64ok b = true) : PC.ratio_Time.f a b = some (timeS a b) := by
  unfold PC.ratio_Time.f PTm.ratio_Time.f timeS ratio_Right.f
  rw [if_pos ⟨i0, i1⟩]
  simp only [Option.bind_some, PTm.ratio_Time.j0]
  cases h : rightS a b
  · rw [if_neg (by decide), Bool.false_and, if_pos trivial, if_neg (by decide)]
  · rw [if_pos rfl, Bool.true_and]
    have hb := right_bounds h
    by_cases h1 : b ≤ 1048576
    · rw [decide_eq_false (show ¬ b > 1048576 by omega), decide_eq_true h1, if_neg (by decide), if_pos rfl]
      by_cases h2 : a < 0
      · rw [if_pos h2, if_pos h2]
      · rw [if_neg h2, if_neg h2]
        unfold ratio_Cmp.f
        rw [if_pos ⟨i0, i1, by decide, by decide, by omega, by decide⟩]
        simp only [Option.bind_some]
        by_cases h3 : cmpS a b 360000 1 > 0
        · rw [if_pos h3, if_pos h3]
        · rw [if_neg h3, if_neg h3]
    · rw [decide_eq_true (show b > 1048576 by omega), decide_eq_false h1, if_pos rfl, if_neg (by decide)]
end Go.Proofs.YtofndakpenpkbaaDoor.PA
