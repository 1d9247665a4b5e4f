/- The reference's numbers made whole. -/
import Derived.Test.YtofndakpenpkbaaDoorRefF
import Derived.Test.YtofndakpenpkbaaDoorWhoS
namespace Go.Proofs.YtofndakpenpkbaaDoor.PA
open Go.RowKit Go.Proofs.YtofndakpenpkbaaDoorW.PrintWords Go.Proofs.YtofndakpenpkbaaDoorW.PrintLast Go.Proofs.YtofndakpenpkbaaDoorW.PrintMore Go.Proofs.YtofndakpenpkbaaDoor.PR Go.Proofs.YtofndakpenpkbaaDoor.PP Go.Proofs.YtofndakpenpkbaaDoor.PF
set_option linter.unusedSimpArgs false
set_option linter.unusedVariables false
theorem floorI (k : Nat) (hk : 128 < k) (z d : Int) (hz : z.natAbs < 340282366920938463463374607431768211455) (hd : 0 < d) :
    surtitleref3_Floor.f (k + 3) (wI z).1 (wI z).2.1 (wI z).2.2 (wI d).1 (wI d).2.1 (wI d).2.2 = some (wI (z / d)) := by
  have h := floorW k hk z d.natAbs hz (by omega) (wI d).1
  rw [show ((d.natAbs : Nat) : Int) = d by omega] at h
  exact h
theorem rightNot (z : Int) : surtitleref3_right.f (!(wI z).1) (wI z).2.1 (wI z).2.2 = some (wI (-z)) := by
  have h := rightW (!decide (z < 0)) z.natAbs
  show surtitleref3_right.f (!decide (z < 0)) (hiN z.natAbs) (loN z.natAbs) = _
  rw [h]
  unfold wI
  rw [Int.natAbs_neg]
  congr 2
  rw [Bool.eq_iff_iff]
  simp only [Bool.and_eq_true, Bool.not_eq_true', decide_eq_false_iff_not, decide_eq_true_eq, ne_eq]
  omega
theorem wholeZ_le {z : Int} {D : Nat} {how : Int} (hD : 0 < D) : (wholeZ z D how).natAbs ≤ 2 * z.natAbs + D := by
  have key : ∀ (x : Int) (E : Nat), 0 < E → (x / (E : Int)).natAbs ≤ x.natAbs := fun x E hE => by
    have h1 := Int.mul_ediv_add_emod x E
    have h2 := Int.emod_nonneg x (show (E : Int) ≠ 0 by omega)
    have h3 := Int.emod_lt_of_pos x (show (0 : Int) < E by omega)
    by_cases hx : 0 ≤ x
    · have h4 := Int.ediv_le_self (E : Int) hx
      have h5 : 0 ≤ x / (E : Int) := Int.ediv_nonneg hx (by omega)
      omega
    · have h5 : x / (E : Int) < 0 := Int.ediv_neg_of_neg_of_pos (by omega) (by omega)
      have h6 : x ≤ x / (E : Int) := by
        have : (E : Int) * (x / E) ≤ 1 * (x / E) := Int.mul_le_mul_of_nonpos_right (by omega) (by omega)
        by_cases h0 : x % (E : Int) = 0
        · omega
        · have h7 : (E : Int) * (x / E + 1) ≤ 1 * (x / E + 1) := Int.mul_le_mul_of_nonpos_right (by omega) (by omega)
          rw [Int.mul_add] at h7
          omega
      omega
  unfold wholeZ
  split
  · have := key z D hD; omega
  · split
    · have := key (2 * z + D) (2 * D) (by omega); omega
    · have := key (-z) D hD; omega
theorem wholeW (k : Nat) (hk : 128 < k) (z d how : Int) (hd : 0 < d) (hb : 2 * z.natAbs + 2 * d.natAbs < 340282366920938463463374607431768211455) (hh : how = 1 ∨ how = 2 ∨ how = 3) :
    surtitleref3_whole.f (k + 3) (wI z).1 (wI z).2.1 (wI z).2.2 (wI d).1 (wI d).2.1 (wI d).2.2 how = some (wI (wholeZ z d.natAbs how)) := by
  have hD : ((d.natAbs : Nat) : Int) = d := by omega
  unfold surtitleref3_whole.f wholeZ
  by_cases h2 : how = 2
  · subst h2
    rw [if_pos rfl, if_neg (by decide), if_pos rfl, show k + 3 = k + 1 + 2 from rfl, plusW (k + 1) z z (by omega)]
    simp only [Option.bind_some]
    rw [plusW (k + 1) (z + z) d (by omega)]
    simp only [Option.bind_some]
    rw [plusW (k + 1) d d (by omega)]
    simp only [Option.bind_some]
    rw [show k + 1 + 2 = k + 3 from rfl, floorI k hk (z + z + d) (d + d) (by omega) (by omega)]
    simp only [Option.bind_some, Prod.eta]
    rw [show z + z + d = 2 * z + d by omega, show d + d = 2 * d by omega, Int.natCast_mul, hD]
    rfl
  · rw [if_neg h2]
    by_cases h3 : how = 3
    · subst h3
      rw [if_pos rfl, if_neg (by decide), if_neg (by decide), rightNot]
      simp only [Option.bind_some]
      rw [floorI k hk (-z) d (by omega) hd]
      simp only [Option.bind_some]
      rw [rightNot]
      simp only [Option.bind_some, Prod.eta]
      rw [hD]
    · rw [if_neg h3, if_pos (by omega), floorI k hk z d (by omega) hd]
      simp only [Option.bind_some, Prod.eta]
      rw [hD]
end Go.Proofs.YtofndakpenpkbaaDoor.PA
