/- The reference: Grid, Time, Timed, Frame told at all inputs. -/
import Derived.Test.YtghiibdhibcbaaaDoorRfB
namespace Go.Proofs.YtghiibdhibcbaaaDoor.PA
open Go Go.RowKit Go.Proofs.YtghiibdhibcbaaaDoor.CS
set_option linter.unusedSimpArgs false
set_option linter.unusedVariables false
/-- how many numbers a minute leaves out -/
def outS (n d : Int) (dr : Bool) (m : Int) : Int := if m % 10 = 0 then 0 else drop n d dr
theorem rgridf_any (f : Int) (w : World) :
    Calls Tryd.prog 66 #[.int .i64 f] w fun e w' => e = .returned (.int .i64 (partsOf f)) ∧ Below w.heap.size w w' := by
  unfold partsOf
  by_cases h1 : f = 1
  · subst h1; exact rgrid_1 w
  · rw [if_neg h1]
    by_cases h2 : f = 2
    · subst h2; exact rgrid_2 w
    · rw [if_neg h2]
      by_cases h4 : f = 4
      · subst h4; exact rgrid_4 w
      · rw [if_neg h4]; exact rgrid_0 f (beq_f h1) (beq_f h2) (beq_f h4) w
theorem rlowest_any {n d : Int} (n0 : 0 ≤ n) (n1 : n ≤ 4611686018427387904) (d0 : 1 ≤ d) (d1 : d ≤ 2147483648) (w : World) :
    Calls Tryd.prog 50 #[.int .i64 n, .int .i64 d] w fun e w' => e = .returned (.agg #[.int .i64 (newS n d).1, .int .i64 (newS n d).2.1]) ∧ Below w.heap.size w w' := by
  rw [new_pos n0 n1 d0 d1]
  have hg : 0 < Nat.gcd n.natAbs d.natAbs := Nat.gcd_pos_of_pos_right _ (by omega)
  have q1 : n / (Nat.gcd n.natAbs d.natAbs : Int) ≤ n := Int.ediv_le_self _ n0
  have q2 : d / (Nat.gcd n.natAbs d.natAbs : Int) ≤ d := Int.ediv_le_self _ (by omega)
  exact rlowest_of n d _ _ _ n0 (by omega) (by omega) (by omega) (by omega) rfl rfl (Int.ediv_nonneg n0 (by omega)) (by omega) (Int.ediv_nonneg (by omega) (by omega)) (by omega) w (common_of n0 (by omega) (by omega) (by omega))
theorem rightS_iff' {a b : Int} : rightS a b = true ↔ 1 ≤ b ∧ b ≤ 2147483648 ∧ a.natAbs ≤ 4611686018427387904 ∧ Nat.gcd a.natAbs b.natAbs = 1 := by
  constructor
  · exact right_bounds
  · rintro ⟨b1, b2, a1, hg⟩
    unfold rightS
    rw [Bool.and_eq_true, decide_eq_true_eq, decide_eq_true_eq]
    refine ⟨b1, ?_⟩
    unfold newS
    rw [if_neg (by omega)]
    unfold fitS
    rw [hg, Nat.div_one, Nat.div_one, if_pos ⟨by omega, by omega⟩, decide_eq_false (show ¬ b < 0 by omega)]
    by_cases h : a < 0
    · rw [decide_eq_true h]; simp; omega
    · rw [decide_eq_false h]; simp; omega
theorem timeS_iff (a b : Int) : timeS a b = if 1 ≤ b ∧ b ≤ 1048576 ∧ a.natAbs ≤ 4611686018427387904 ∧ Nat.gcd a.natAbs b.natAbs = 1 then (if 0 ≤ a ∧ a ≤ 360000 * b then 0 else 31) else 12 := by
  unfold timeS
  by_cases h : rightS a b = true ∧ b ≤ 1048576
  · have hr := rightS_iff'.mp h.1
    have hc : 1 ≤ b ∧ b ≤ 1048576 ∧ a.natAbs ≤ 4611686018427387904 ∧ Nat.gcd a.natAbs b.natAbs = 1 := ⟨hr.1, h.2, hr.2.2⟩
    simp only [if_pos h, if_pos hc]
    by_cases h0 : 0 ≤ a
    · have := cmp_max h0 hr.1
      by_cases h1 : a ≤ 360000 * b
      · rw [if_pos ⟨h0, this.mpr h1⟩, if_pos ⟨h0, h1⟩]
      · rw [if_neg (fun x => h1 (this.mp x.2)), if_neg (fun x => h1 x.2)]
    · rw [if_neg (fun x => h0 x.1), if_neg (fun x => h0 x.1)]
  · rw [if_neg h, if_neg (fun x => h ⟨rightS_iff'.mpr ⟨x.1, by omega, x.2.2⟩, x.2.1⟩)]
end Go.Proofs.YtghiibdhibcbaaaDoor.PA
