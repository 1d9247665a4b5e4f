/- code: Grid, Time, Frame, Label told at all inputs. -/
import Derived.Test.YtghiibdhibcbaaaDoorCodC
import Derived.Test.YtghiibdhibcbaaaDoorCodD
namespace Go.Proofs.YtghiibdhibcbaaaDoor.PA
open Go Go.RowKit Go.Proofs.YtghiibdhibcbaaaDoor.CS
set_option linter.unusedSimpArgs false
set_option linter.unusedVariables false
theorem beq_f {a b : Int} (h : a ≠ b) : (a == b) = false := by simpa using h
/-- n / d of small numbers above 0, in lowest terms -/
theorem new_pos {a b : Int} (h0 : 0 ≤ a) (h1 : a ≤ 4611686018427387904) (h2 : 1 ≤ b) (h3 : b ≤ 2147483648) :
    newS a b = (a / (Nat.gcd a.natAbs b.natAbs : Int), b / (Nat.gcd a.natAbs b.natAbs : Int), 0) := by
  have l1 := Nat.div_le_self a.natAbs (Nat.gcd a.natAbs b.natAbs)
  have l2 := Nat.div_le_self b.natAbs (Nat.gcd a.natAbs b.natAbs)
  unfold newS
  rw [if_neg (by omega)]
  unfold fitS
  rw [if_pos ⟨by omega, by omega⟩, decide_eq_false (show ¬ a < 0 by omega), decide_eq_false (show ¬ b < 0 by omega)]
  simp only [bne_self_eq_false, Bool.false_eq_true, if_false, Int.natCast_ediv]
  rw [show ((a.natAbs : Nat) : Int) = a by omega, show ((b.natAbs : Nat) : Int) = b by omega]
theorem new_self {a b : Int} (h0 : 0 ≤ a) (h1 : a ≤ 4611686018427387904) (h2 : 1 ≤ b) (h3 : b ≤ 2147483648) (hg : Nat.gcd a.natAbs b.natAbs = 1) : newS a b = (a, b, 0) := by
  rw [new_pos h0 h1 h2 h3, hg]; simp
def gridS (n d : Int) (dr : Bool) : Int × Int × Int := if okR n d dr = true then (d, n, 0) else (0, 0, 14)
theorem grid_any (n d : Int) (dr : Bool) (w : World) :
    Calls Tryd.prog 34 #[rate n d dr] w fun e w' => e = .returned (.tuple #[.agg #[.int .i64 (gridS n d dr).1, .int .i64 (gridS n d dr).2.1], .int .i64 (gridS n d dr).2.2]) ∧ Below w.heap.size w w' := by
  have m1 := check_any n d dr
  unfold checkS at m1
  unfold gridS
  by_cases h : okR n d dr = true
  · rw [if_pos h] at m1 ⊢
    have o := okR_iff.mp h
    obtain ⟨n1, n2, d1, d2, hg, _, _, _⟩ := o
    have m2 := fun w => new_any d n w (by omega) (by omega) (by omega) (by omega)
    rw [new_self (by omega) (by omega) (by omega) (by omega) (by rw [Nat.gcd_comm]; exact hg)] at m2
    exact grid_ok n d _ _ _ dr w m1 m2
  · rw [if_neg h] at m1 ⊢
    exact grid_bad n d 14 dr (by decide) w m1
def timF (n d : Int) (dr : Bool) (fr : Int) : Int × Int × Int := if okR n d dr = true then (if inF n d fr = true then newS (fr * d) n else (0, 0, 31)) else (0, 0, 14)
theorem fr_le {n d fr : Int} {dr : Bool} (o : Ok n d dr) (h : inF n d fr = true) : 0 ≤ fr ∧ fr ≤ 86400000 ∧ 0 ≤ fr * d ∧ fr * d ≤ 360000 * n ∧ 360000 * n ≤ 86400000000 := by
  obtain ⟨l0, l1, l2, l3⟩ := last_le o
  obtain ⟨f0, f1⟩ := inF_iff.mp h
  obtain ⟨n1, n2, d1, d2, _, _, _, _⟩ := o
  have h1 : fr * d ≤ last n d * d := Int.mul_le_mul_of_nonneg_right f1 (by omega)
  exact ⟨f0, by omega, Int.mul_nonneg f0 (by omega), by omega, by omega⟩
theorem timF_ok {n d fr : Int} {dr : Bool} (h : okR n d dr = true) (hf : inF n d fr = true) :
    timF n d dr fr = (fr * d / (Nat.gcd (fr * d).natAbs n.natAbs : Int), n / (Nat.gcd (fr * d).natAbs n.natAbs : Int), 0) := by
  have o := okR_iff.mp h
  have b := fr_le o hf
  unfold timF
  rw [if_pos h, if_pos hf, new_pos b.2.2.1 (by omega) o.n1 (by have := o.n2; omega)]
theorem ctime_any (n d fr : Int) (dr : Bool) (w : World) :
    Calls Tryd.prog 17 #[rate n d dr, .int .i64 fr] w fun e w' => e = .returned (.tuple #[.agg #[.int .i64 (timF n d dr fr).1, .int .i64 (timF n d dr fr).2.1], .int .i64 (timF n d dr fr).2.2]) ∧ Below w.heap.size w w' := by
  have m1 := check_any n d dr
  unfold checkS at m1
  unfold timF
  by_cases h : okR n d dr = true
  · rw [if_pos h] at m1 ⊢
    have o := okR_iff.mp h
    have m2 := within_any n d fr dr o
    by_cases hf : inF n d fr = true
    · rw [hf] at m2
      rw [if_pos hf]
      obtain ⟨b0, b1, b2, b3, b4⟩ := fr_le o hf
      have m3 := fun w => new_any (fr * d) n w (by omega) (by omega) (by have := o.n1; omega) (by have := o.n2; omega)
      exact ctime_ok n d fr (fr * d) _ _ _ dr b0 b1 o.d1 o.d2 rfl w m1 m2 m3
    · have hf' : inF n d fr = false := by simpa using hf
      rw [hf'] at m2
      rw [if_neg hf]
      exact ctime_far n d fr dr w m1 m2
  · rw [if_neg h] at m1 ⊢
    exact ctime_bad n d 14 fr dr (by decide) w m1
theorem timeS_ok {a b : Int} (h : timeS a b = 0) : rightS a b = true ∧ b ≤ 1048576 ∧ 0 ≤ a ∧ cmpS a b 360000 1 ≤ 0 := by
  unfold timeS at h
  by_cases h1 : rightS a b = true ∧ b ≤ 1048576
  · rw [if_pos h1] at h
    by_cases h2 : 0 ≤ a ∧ cmpS a b 360000 1 ≤ 0
    · exact ⟨h1.1, h1.2, h2.1, h2.2⟩
    · rw [if_neg h2] at h; exact absurd h (by decide)
  · rw [if_neg h1] at h; exact absurd h (by decide)
theorem cmp_max {a b : Int} (h0 : 0 ≤ a) (hb : 1 ≤ b) : cmpS a b 360000 1 ≤ 0 ↔ a ≤ 360000 * b := by
  unfold cmpS
  rw [decide_eq_false (show ¬ a < 0 by omega), if_pos (by rfl), if_neg (by omega)]
  unfold cmpN
  have e1 : a.natAbs * Int.natAbs 1 = a.natAbs := by simp
  have e2 : Int.natAbs 360000 * b.natAbs = 360000 * b.natAbs := by rfl
  rw [e1, e2]
  split
  · constructor <;> intro <;> omega
  · split <;> constructor <;> intro <;> omega
theorem timeS_le {a b : Int} (h : timeS a b = 0) : rightS a b = true ∧ 1 ≤ b ∧ b ≤ 1048576 ∧ 0 ≤ a ∧ a ≤ 360000 * b := by
  obtain ⟨h1, h2, h3, h4⟩ := timeS_ok h
  have hb := right_bounds h1
  exact ⟨h1, hb.1, h2, h3, (cmp_max h3 hb.1).mp h4⟩
def frmS (n d : Int) (dr : Bool) (a b how : Int) : Int × Int :=
  if okR n d dr = true then (if timeS a b = 0 then (if how = 1 then (a * n / (b * d), 0) else if how = 2 then ((2 * (a * n) + b * d) / (2 * (b * d)), 0) else if how = 3 then ((a * n + (b * d - 1)) / (b * d), 0) else (0, 5)) else (0, timeS a b)) else (0, 14)
theorem frm_le {n d a b : Int} {dr : Bool} (o : Ok n d dr) (h : timeS a b = 0) : 0 ≤ a * n ∧ a * n ≤ 100000000000000000 ∧ 1 ≤ b * d ∧ b * d ≤ 2000000000 := by
  obtain ⟨_, b1, b2, a1, a2⟩ := timeS_le h
  obtain ⟨n1, n2, d1, d2, _, _, _, _⟩ := o
  have h1 : 0 ≤ a * n := Int.mul_nonneg a1 (by omega)
  have h2 : a * n ≤ (360000 * 1048576) * 240000 := Int.mul_le_mul (by omega) n2 (by omega) (by omega)
  have h3 : b * d ≤ 1048576 * 1001 := Int.mul_le_mul b2 d2 (by omega) (by omega)
  have h4 : 1 * 1 ≤ b * d := Int.mul_le_mul b1 d1 (by omega) (by omega)
  omega
theorem cframe_any (n d a b how : Int) (dr : Bool) (w : World) (ha0 : -9223372036854775808 ≤ a) (ha1 : a ≤ 9223372036854775807) (hb0 : -9223372036854775808 ≤ b) (hb1 : b ≤ 9223372036854775807) :
    Calls Tryd.prog 30 #[rate n d dr, .agg #[.int .i64 a, .int .i64 b], .int .i64 how] w fun e w' => e = .returned (.tuple #[.int .i64 (frmS n d dr a b how).1, .int .i64 (frmS n d dr a b how).2]) ∧ Below w.heap.size w w' := by
  have m1 := check_any n d dr
  unfold checkS at m1
  unfold frmS
  by_cases h : okR n d dr = true
  · rw [if_pos h] at m1 ⊢
    have m2 := fun w => time_any a b w ha0 ha1 hb0 hb1
    by_cases ht : timeS a b = 0
    · rw [ht] at m2
      rw [if_pos ht]
      obtain ⟨p0, p1, q0, q1⟩ := frm_le (okR_iff.mp h) ht
      have e1 : (b * d == 0) = false := beq_f (by omega)
      have e2 : (2 * (b * d) == 0) = false := beq_f (by omega)
      by_cases h1 : how = 1
      · subst h1; rw [if_pos rfl]; exact frame_1 n d a b _ _ dr rfl rfl p0 p1 q0 q1 e1 w m1 m2
      · rw [if_neg h1]
        by_cases h2 : how = 2
        · subst h2; rw [if_pos rfl]; exact frame_2 n d a b _ _ dr rfl rfl p0 p1 q0 q1 e1 e2 w m1 m2
        · rw [if_neg h2]
          by_cases h3 : how = 3
          · subst h3; rw [if_pos rfl]; exact frame_3 n d a b _ _ dr rfl rfl p0 p1 q0 q1 e1 w m1 m2
          · rw [if_neg h3]; exact frame_how n d a b how _ _ dr rfl rfl p0 p1 q0 q1 (beq_f h1) (beq_f h2) (beq_f h3) w m1 m2
    · rw [if_neg ht]; exact frame_time n d a b how _ dr (beq_f ht) w m1 m2
  · rw [if_neg h] at m1 ⊢
    exact frame_bad n d a b how 14 dr (by decide) w m1
end Go.Proofs.YtghiibdhibcbaaaDoor.PA
