/- code: Grid, Time, Frame, Label told at all inputs. -/
import Derived.Test.YtghiibdhibcbaaaDoorCodC
import Derived.Test.YtghiibdhibcbaaaDoorCodD
namespace Go.Proofs.YtghiibdhibcbaaaDoor.PA
open Go Go.RowKit Go.Proofs.YtghiibdhibcbaaaDoor.CS
set_option linter.unusedSimpArgs false
set_option linter.unusedVariables false
theorem beq_f {a b : Int} (h : a ≠ b) : (a == b) = false := by simpa using h
/-- n / d of small numbers above 0, in lowest terms -/
theorem new_pos {a b : Int} (h0 : 0 ≤ a) (h1 : a ≤ 4611686018427387904) (h2 : 1 ≤ b) (h3 : b ≤ 2147483648) :
    newS a b = (a / (Nat.gcd a.natAbs b.natAbs : Int), b / (Nat.gcd a.natAbs b.natAbs : Int), 0) := by
  have l1 := Nat.div_le_self a.natAbs (Nat.gcd a.natAbs b.natAbs)
  have l2 := Nat.div_le_self b.natAbs (Nat.gcd a.natAbs b.natAbs)
  unfold newS
  rw [if_neg (by omega)]
  unfold fitS
  rw [if_pos ⟨by omega, by omega⟩, decide_eq_false (show ¬ a < 0 by omega), decide_eq_false (show ¬ b < 0 by omega)]
  simp only [bne_self_eq_false, Bool.false_eq_true, if_false, Int.natCast_ediv]
  rw [show ((a.natAbs : Nat) : Int) = a by omega, show ((b.natAbs : Nat) : Int) = b by omega]
def gridS (n d : Int) (dr : Bool) : Int × Int × Int := if okR n d dr = true then (d, n, 0) else (0, 0, 14)
def timF (n d : Int) (dr : Bool) (fr : Int) : Int × Int × Int := if okR n d dr = true then (if inF n d fr = true then newS (fr * d) n else (0, 0, 31)) else (0, 0, 14)
theorem fr_le {n d fr : Int} {dr : Bool} (o : Ok n d dr) (h : inF n d fr = true) : 0 ≤ fr ∧ fr ≤ 86400000 ∧ 0 ≤ fr * d ∧ fr * d ≤ 360000 * n ∧ 360000 * n ≤ 86400000000 := by
  obtain ⟨l0, l1, l2, l3⟩ := last_le o
  obtain ⟨f0, f1⟩ := inF_iff.mp h
  obtain ⟨n1, n2, d1, d2, _, _, _, _⟩ := o
  have h1 : fr * d ≤ last n d * d := Int.mul_le_mul_of_nonneg_right f1 (by omega)
  exact ⟨f0, by omega, Int.mul_nonneg f0 (by omega), by omega, by omega⟩
theorem timF_ok {n d fr : Int} {dr : Bool} (h : okR n d dr = true) (hf : inF n d fr = true) :
    timF n d dr fr = (fr * d / (Nat.gcd (fr * d).natAbs n.natAbs : Int), n / (Nat.gcd (fr * d).natAbs n.natAbs : Int), 0) := by
  have o := okR_iff.mp h
  have b := fr_le o hf
  unfold timF
  rw [if_pos h, if_pos hf, new_pos b.2.2.1 (by omega) o.n1 (by have := o.n2; omega)]
theorem ctime_any (n d fr : Int) (dr : Bool) (w : World) :
    Calls Tryd.prog 17 #[rate n d dr, .int .i64 fr] w fun e w' => e = .returned (.tuple #[.agg #[.int .i64 (timF n d dr fr).1, .int .i64 (timF n d dr fr).2.1], .int .i64 (timF n d dr fr).2.2]) ∧ Below w.heap.size w w' := by
  have m1 := check_any n d dr
  unfold checkS at m1
  unfold timF
  by_cases h : okR n d dr = true
  · rw [if_pos h] at m1 ⊢
    have o := okR_iff.mp h
    have m2 := within_any n d fr dr o
    by_cases hf : inF n d fr = true
    · rw [hf] at m2
      rw [if_pos hf]
      obtain ⟨b0, b1, b2, b3, b4⟩ := fr_le o hf
      have m3 := fun w => new_any (fr * d) n w (by omega) (by omega) (by have := o.n1; omega) (by have := o.n2; omega)
      exact ctime_ok n d fr (fr * d) _ _ _ dr b0 b1 o.d1 o.d2 rfl w m1 m2 m3
    · have hf' : inF n d fr = false := by simpa using hf
      rw [hf'] at m2
      rw [if_neg hf]
      exact ctime_far n d fr dr w m1 m2
  · rw [if_neg h] at m1 ⊢
    exact ctime_bad n d 14 fr dr (by decide) w m1
theorem timeS_ok {a b : Int} (h : timeS a b = 0) : rightS a b = true ∧ b ≤ 1048576 ∧ 0 ≤ a ∧ cmpS a b 360000 1 ≤ 0 := by
  unfold timeS at h
  by_cases h1 : rightS a b = true ∧ b ≤ 1048576
  · rw [if_pos h1] at h
    by_cases h2 : 0 ≤ a ∧ cmpS a b 360000 1 ≤ 0
    · exact ⟨h1.1, h1.2, h2.1, h2.2⟩
    · rw [if_neg h2] at h; exact absurd h (by decide)
  · rw [if_neg h1] at h; exact absurd h (by decide)
theorem cmp_max {a b : Int} (h0 : 0 ≤ a) (hb : 1 ≤ b) : cmpS a b 360000 1 ≤ 0 ↔ a ≤ 360000 * b := by
  unfold cmpS
  rw [decide_eq_false (show ¬ a < 0 by omega), if_pos (by rfl), if_neg (by omega)]
  unfold cmpN
  have e1 : a.natAbs * Int.natAbs 1 = a.natAbs := by simp
  have e2 : Int.natAbs 360000 * b.natAbs = 360000 * b.natAbs := by rfl
  rw [e1, e2]
  split
  · constructor <;> intro <;> omega
  · split <;> constructor <;> intro <;> omega
theorem timeS_le {a b : Int} (h : timeS a b = 0) : rightS a b = true ∧ 1 ≤ b ∧ b ≤ 1048576 ∧ 0 ≤ a ∧ a ≤ 360000 * b := by
  obtain ⟨h1, h2, h3, h4⟩ := timeS_ok h
  have hb := right_bounds h1
  exact ⟨h1, hb.1, h2, h3, (cmp_max h3 hb.1).mp h4⟩
def frmS (n d : Int) (dr : Bool) (a b how : Int) : Int × Int :=
  if okR n d dr = true then (if timeS a b = 0 then (if how = 1 then (a * n / (b * d), 0) else if how = 2 then ((2 * (a * n) + b * d) / (2 * (b * d)), 0) else if how = 3 then ((a * n + (b * d - 1)) / (b * d), 0) else (0, 5)) else (0, timeS a b)) else (0, 14)
end Go.Proofs.YtghiibdhibcbaaaDoor.PA
