/- The reference's whole parts. -/
import Derived.Test.YtofndakpenpkbaaDoorRefP
import Derived.Test.YtofndakpenpkbaaDoorPFx2
namespace Go.Proofs.YtofndakpenpkbaaDoor.PA
open Go.RowKit Go.Proofs.YtofndakpenpkbaaDoorW.PrintWords Go.Proofs.YtofndakpenpkbaaDoorW.PrintLast Go.Proofs.YtofndakpenpkbaaDoorW.PrintMore Go.Proofs.YtofndakpenpkbaaDoor.PR Go.Proofs.YtofndakpenpkbaaDoor.PP Go.Proofs.YtofndakpenpkbaaDoor.PF
set_option linter.unusedSimpArgs false
set_option linter.unusedVariables false
theorem floorW (k : Nat) (hk : 128 < k) (z : Int) (D : Nat) (hz : z.natAbs < 340282366920938463463374607431768211455) (hD : 0 < D) (n2 : Bool) :
    surtitleref3_Floor.f (k + 3) (wI z).1 (wI z).2.1 (wI z).2.2 n2 (hiN D) (loN D) = some (wI (z / (D : Int))) := by
  unfold surtitleref3_Floor.f
  have e : wI z = (decide (z < 0), hiN z.natAbs, loN z.natAbs) := rfl
  rw [e]
  dsimp only
  rw [divided_any _ _ (by omega) hD _ _ _ (by omega)]
  simp only [Option.bind_some]
  have hdm := Nat.div_add_mod z.natAbs D
  have hml := Nat.mod_lt z.natAbs hD
  have hq := Nat.div_le_self z.natAbs D
  by_cases hz0 : z < 0
  · have hv : z = -(z.natAbs : Int) := by omega
    rw [if_pos (decide_eq_true hz0)]
    have hr : (if hiN (z.natAbs % D) = 0 then surtitleref3_Floor.j0 (k + 3) (loN (z.natAbs % D) != 0) false (hiN (z.natAbs / D)) (loN (z.natAbs / D)) else surtitleref3_Floor.j0 (k + 3) true false (hiN (z.natAbs / D)) (loN (z.natAbs / D))) = surtitleref3_Floor.j0 (k + 3) (decide (z.natAbs % D ≠ 0)) false (hiN (z.natAbs / D)) (loN (z.natAbs / D)) := by
      by_cases h1 : hiN (z.natAbs % D) = 0
      · rw [if_pos h1]; congr 1
        rw [Bool.eq_iff_iff]; simp only [bne_iff_ne, ne_eq, decide_eq_true_eq]
        rw [← hl_zero_iff (z.natAbs % D)]
        constructor
        · intro a b; exact a b.2
        · intro a b; exact a ⟨h1, b⟩
      · rw [if_neg h1]; congr 1; symm; rw [decide_eq_true_eq]
        intro a; exact h1 ((hl_zero_iff _).mpr a).1
    rw [hr]
    by_cases h0 : z.natAbs % D = 0
    · rw [h0]
      simp only [surtitleref3_Floor.j0, ne_eq, not_true_eq_false, decide_false, Bool.false_eq_true, if_false]
      rw [rightW]
      simp only [Option.bind_some, Bool.true_and]
      have hd : z / (D : Int) = -((z.natAbs / D : Nat) : Int) := by
        rw [h0, Nat.add_zero] at hdm
        have : z = (D : Int) * (-((z.natAbs / D : Nat) : Int)) := by rw [Int.mul_neg, ← Int.natCast_mul, hdm]; exact hv
        conv => lhs; rw [this]
        rw [Int.mul_ediv_cancel_left _ (by omega)]
      rw [hd]; unfold wI
      rw [Int.natAbs_neg, Int.natAbs_natCast]
      generalize z.natAbs / D = q
      congr 2; rw [decide_eq_decide]; omega
    · simp only [surtitleref3_Floor.j0, ne_eq, h0, not_false_eq_true, decide_true, if_true]
      have hp := plusSame (k + 1) false (z.natAbs / D) 1 (by omega)
      rw [show hiN 1 = 0 from by decide, show loN 1 = 1 from by decide] at hp
      rw [show k + 2 = k + 1 + 1 from rfl, hp]
      simp only [Option.bind_some]
      rw [rightW]
      simp only [Option.bind_some, Bool.true_and]
      have hd : z / (D : Int) = -((z.natAbs / D + 1 : Nat) : Int) := by
        have h2 : z = (D : Int) * (-((z.natAbs / D + 1 : Nat) : Int)) + ((D - z.natAbs % D : Nat) : Int) := by
          have h3 : (D : Int) * ((z.natAbs / D : Nat) : Int) = ((D * (z.natAbs / D) : Nat) : Int) := by rw [Int.natCast_mul]
          rw [Int.natCast_add, Int.mul_neg, Int.mul_add, h3]
          omega
        conv => lhs; rw [h2]
        rw [Int.mul_add_ediv_left _ _ (by omega), Int.ediv_eq_zero_of_lt (by omega) (by omega)]
        omega
      rw [hd]; unfold wI
      rw [Int.natAbs_neg, Int.natAbs_natCast]
      generalize z.natAbs / D = q
      congr 2; rw [decide_eq_decide]; omega
  · rw [if_neg (by simpa using hz0)]
    have hd : z / (D : Int) = ((z.natAbs / D : Nat) : Int) := by
      have hv : z = (z.natAbs : Int) := by omega
      conv => lhs; rw [hv]
      rfl
    rw [hd]; unfold wI
    rw [Int.natAbs_natCast, decide_eq_false (Int.not_lt.mpr (Int.natCast_nonneg (z.natAbs / D)))]
end Go.Proofs.YtofndakpenpkbaaDoor.PA
