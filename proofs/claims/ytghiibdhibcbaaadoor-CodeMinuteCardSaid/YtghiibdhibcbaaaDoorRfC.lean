/- The reference: Grid, Time, Timed, Frame told at all inputs. -/
import Derived.Test.YtghiibdhibcbaaaDoorRfB
namespace Go.Proofs.YtghiibdhibcbaaaDoor.PA
open Go Go.RowKit Go.Proofs.YtghiibdhibcbaaaDoor.CS
set_option linter.unusedSimpArgs false
set_option linter.unusedVariables false
theorem rfull_any (n d : Int) (dr : Bool) (o : Ok n d dr) (w : World) :
    Calls Tryd.prog 51 #[rate n d dr] w fun e w' => e = .returned (.int .i64 (full n d)) ∧ Below w.heap.size w w' := rfull_of n d dr o.n1 o.n2 o.d1 o.d2 w
theorem rlast_any (n d : Int) (dr : Bool) (o : Ok n d dr) (w : World) :
    Calls Tryd.prog 49 #[rate n d dr] w fun e w' => e = .returned (.int .i64 (last n d)) ∧ Below w.heap.size w w' := rlast_of n d dr o.n1 o.n2 o.d1 o.d2 w
theorem rleft_any (n d : Int) (dr : Bool) (o : Ok n d dr) (w : World) :
    Calls Tryd.prog 52 #[rate n d dr] w fun e w' => e = .returned (.int .i64 (drop n d dr)) ∧ Below w.heap.size w w' := by
  obtain ⟨f0, f1⟩ := full_le o
  rcases o.kinds with ⟨rfl, hd⟩ | ⟨rfl, rfl, rfl, hd, hF⟩ | ⟨rfl, rfl, rfl, hd, hF⟩
  · rw [hd]; exact rleft_no n d w
  · have h := rleft_yes 30000 1001 (full 30000 1001) (by omega) f1 w (rfull_any _ _ _ o)
    rw [hF] at h; rw [hd]; exact h
  · have h := rleft_yes 60000 1001 (full 60000 1001) (by omega) f1 w (rfull_any _ _ _ o)
    rw [hF] at h; rw [hd]; exact h
/-- how many numbers a minute leaves out -/
def outS (n d : Int) (dr : Bool) (m : Int) : Int := if m % 10 = 0 then 0 else drop n d dr
theorem rout_any (n d m : Int) (dr : Bool) (o : Ok n d dr) (m0 : 0 ≤ m) (w : World) :
    Calls Tryd.prog 53 #[rate n d dr, .int .i64 m] w fun e w' => e = .returned (.int .i64 (outS n d dr m)) ∧ Below w.heap.size w w' := by
  unfold outS
  by_cases h : m % 10 = 0
  · rw [if_pos h]; exact rout_0 n d m dr m0 h w
  · rw [if_neg h]; exact rout_1 n d m _ dr m0 h w (rleft_any n d dr o)
theorem rwide_any (f : Int) (w : World) :
    Calls Tryd.prog 55 #[.int .i64 f] w fun e w' => e = .returned (.int .i64 (wide f : Int)) ∧ Below w.heap.size w w' := by
  unfold wide
  by_cases h : f > 100
  · rw [if_pos h]; exact rwide_3 f h w
  · rw [if_neg h]; exact rwide_2 f (by omega) w
theorem rgridf_any (f : Int) (w : World) :
    Calls Tryd.prog 66 #[.int .i64 f] w fun e w' => e = .returned (.int .i64 (partsOf f)) ∧ Below w.heap.size w w' := by
  unfold partsOf
  by_cases h1 : f = 1
  · subst h1; exact rgrid_1 w
  · rw [if_neg h1]
    by_cases h2 : f = 2
    · subst h2; exact rgrid_2 w
    · rw [if_neg h2]
      by_cases h4 : f = 4
      · subst h4; exact rgrid_4 w
      · rw [if_neg h4]; exact rgrid_0 f (beq_f h1) (beq_f h2) (beq_f h4) w
theorem rlowest_any {n d : Int} (n0 : 0 ≤ n) (n1 : n ≤ 4611686018427387904) (d0 : 1 ≤ d) (d1 : d ≤ 2147483648) (w : World) :
    Calls Tryd.prog 50 #[.int .i64 n, .int .i64 d] w fun e w' => e = .returned (.agg #[.int .i64 (newS n d).1, .int .i64 (newS n d).2.1]) ∧ Below w.heap.size w w' := by
  rw [new_pos n0 n1 d0 d1]
  have hg : 0 < Nat.gcd n.natAbs d.natAbs := Nat.gcd_pos_of_pos_right _ (by omega)
  have q1 : n / (Nat.gcd n.natAbs d.natAbs : Int) ≤ n := Int.ediv_le_self _ n0
  have q2 : d / (Nat.gcd n.natAbs d.natAbs : Int) ≤ d := Int.ediv_le_self _ (by omega)
  exact rlowest_of n d _ _ _ n0 (by omega) (by omega) (by omega) (by omega) rfl rfl (Int.ediv_nonneg n0 (by omega)) (by omega) (Int.ediv_nonneg (by omega) (by omega)) (by omega) w (common_of n0 (by omega) (by omega) (by omega))
theorem rgrid_any (n d : Int) (dr : Bool) (w : World) :
    Calls Tryd.prog 36 #[rate n d dr] w fun e w' => e = .returned (.tuple #[.agg #[.int .i64 (gridS n d dr).1, .int .i64 (gridS n d dr).2.1], .int .i64 (gridS n d dr).2.2]) ∧ Below w.heap.size w w' := by
  have m1 := rcheck_any n d dr
  unfold checkS at m1
  unfold gridS
  by_cases h : okR n d dr = true
  · rw [if_pos h] at m1 ⊢; exact rgrid_ok n d dr w m1
  · rw [if_neg h] at m1 ⊢; exact rgrid_bad n d 14 dr (by decide) w m1
theorem rtime_any (n d fr : Int) (dr : Bool) (w : World) :
    Calls Tryd.prog 19 #[rate n d dr, .int .i64 fr] w fun e w' => e = .returned (.tuple #[.agg #[.int .i64 (timF n d dr fr).1, .int .i64 (timF n d dr fr).2.1], .int .i64 (timF n d dr fr).2.2]) ∧ Below w.heap.size w w' := by
  have m1 := rcheck_any n d dr
  unfold checkS at m1
  by_cases h : okR n d dr = true
  · rw [if_pos h] at m1
    have o := okR_iff.mp h
    have m2 := rlast_any n d dr o
    by_cases hf : inF n d fr = true
    · obtain ⟨b0, b1, b2, b3, b4⟩ := fr_le o hf
      obtain ⟨f0, f1⟩ := inF_iff.mp hf
      have hz : (timF n d dr fr).2.2 = 0 := by rw [timF_ok h hf]
      have e : timF n d dr fr = newS (fr * d) n := by unfold timF; rw [if_pos h, if_pos hf]
      rw [hz, e]
      exact rtime_ok n d fr _ _ _ _ dr (decide_eq_false (by omega)) (decide_eq_false (by omega)) rfl b2 (by omega) w m1 m2 (rlowest_any b2 (by omega) o.n1 (by have := o.n2; omega))
    · have e : timF n d dr fr = (0, 0, 31) := by unfold timF; rw [if_pos h, if_neg hf]
      rw [e]
      by_cases h0 : fr < 0
      · exact rtime_neg n d fr dr (decide_eq_true h0) w m1
      · have h1 : last n d < fr := by
          rw [inF_iff] at hf; omega
        exact rtime_far n d fr _ dr (decide_eq_false h0) (decide_eq_true h1) w m1 m2
  · have e : timF n d dr fr = (0, 0, 14) := by unfold timF; rw [if_neg h]
    rw [if_neg h] at m1
    rw [e]; exact rtime_bad n d 14 fr dr (by decide) w m1
theorem rightS_iff' {a b : Int} : rightS a b = true ↔ 1 ≤ b ∧ b ≤ 2147483648 ∧ a.natAbs ≤ 4611686018427387904 ∧ Nat.gcd a.natAbs b.natAbs = 1 := by
  constructor
  · exact right_bounds
  · rintro ⟨b1, b2, a1, hg⟩
    unfold rightS
    rw [Bool.and_eq_true, decide_eq_true_eq, decide_eq_true_eq]
    refine ⟨b1, ?_⟩
    unfold newS
    rw [if_neg (by omega)]
    unfold fitS
    rw [hg, Nat.div_one, Nat.div_one, if_pos ⟨by omega, by omega⟩, decide_eq_false (show ¬ b < 0 by omega)]
    by_cases h : a < 0
    · rw [decide_eq_true h]; simp; omega
    · rw [decide_eq_false h]; simp; omega
theorem timeS_iff (a b : Int) : timeS a b = if 1 ≤ b ∧ b ≤ 1048576 ∧ a.natAbs ≤ 4611686018427387904 ∧ Nat.gcd a.natAbs b.natAbs = 1 then (if 0 ≤ a ∧ a ≤ 360000 * b then 0 else 31) else 12 := by
  unfold timeS
  by_cases h : rightS a b = true ∧ b ≤ 1048576
  · have hr := rightS_iff'.mp h.1
    have hc : 1 ≤ b ∧ b ≤ 1048576 ∧ a.natAbs ≤ 4611686018427387904 ∧ Nat.gcd a.natAbs b.natAbs = 1 := ⟨hr.1, h.2, hr.2.2⟩
    simp only [if_pos h, if_pos hc]
    by_cases h0 : 0 ≤ a
    · have := cmp_max h0 hr.1
      by_cases h1 : a ≤ 360000 * b
      · rw [if_pos ⟨h0, this.mpr h1⟩, if_pos ⟨h0, h1⟩]
      · rw [if_neg (fun x => h1 (this.mp x.2)), if_neg (fun x => h1 x.2)]
    · rw [if_neg (fun x => h0 x.1), if_neg (fun x => h0 x.1)]
  · rw [if_neg h, if_neg (fun x => h ⟨rightS_iff'.mpr ⟨x.1, by omega, x.2.2⟩, x.2.1⟩)]
theorem rtimed_any (a b : Int) (ha0 : -9223372036854775808 ≤ a) (ha1 : a ≤ 9223372036854775807) (hb0 : -9223372036854775808 ≤ b) (hb1 : b ≤ 9223372036854775807) (w : World) :
    Calls Tryd.prog 67 #[.agg #[.int .i64 a, .int .i64 b]] w fun e w' => e = .returned (.int .i64 (timeS a b)) ∧ Below w.heap.size w w' := by
  rw [timeS_iff]
  by_cases h : b < 1 ∨ b > 2147483648 ∨ a < -4611686018427387904 ∨ a > 4611686018427387904
  · rw [if_neg (by omega)]; exact rtimed_out a b h w
  · have b1 : 1 ≤ b := by omega
    have b2 : b ≤ 2147483648 := by omega
    have a1 : -4611686018427387904 ≤ a := by omega
    have a2 : a ≤ 4611686018427387904 := by omega
    by_cases s : 0 ≤ a
    · have m1 := common_of (a := a) (b := b) s (by omega) (by omega) (by omega)
      by_cases hg : Nat.gcd a.natAbs b.natAbs = 1
      · have q : ((Nat.gcd a.natAbs b.natAbs : Int) == 1) = true := by simp [hg]
        by_cases q3 : b ≤ 1048576
        · rw [if_pos ⟨b1, q3, by omega, hg⟩]
          have e : b * (a / b) + a % b = a := Int.mul_ediv_add_emod a b
          have r0 : 0 ≤ a % b := Int.emod_nonneg _ (by omega)
          have r1 : a % b < b := Int.emod_lt_of_pos _ (by omega)
          by_cases z : a / b < 360000
          · have : b * (a / b) ≤ b * 359999 := Int.mul_le_mul_of_nonneg_left (by omega) (by omega)
            rw [if_pos ⟨s, by omega⟩]; exact rtimed_ok1 a b _ b1 b2 a1 a2 s q q3 z w m1
          · by_cases z2 : a / b = 360000
            · rw [z2] at e
              by_cases z3 : a % b = 0
              · rw [if_pos ⟨s, by omega⟩]; exact rtimed_ok2 a b _ b1 b2 a1 a2 s q q3 z2 z3 w m1
              · rw [if_neg (by omega)]; exact rtimed_rest a b _ b1 b2 a1 a2 s q q3 (by simp [z2]) (beq_f z3) w m1
            · have : b * 360001 ≤ b * (a / b) := Int.mul_le_mul_of_nonneg_left (by omega) (by omega)
              rw [if_neg (by omega)]; exact rtimed_far a b _ b1 b2 a1 a2 s q q3 (by omega) w m1
        · rw [if_neg (by omega)]; exact rtimed_gridp a b _ b1 b2 a1 a2 s q (by omega) w m1
      · rw [if_neg (fun x => hg x.2.2.2)]; exact rtimed_gcdp a b _ b1 b2 a1 a2 s (by simp; omega) w m1
    · have m1 := common_of (a := -a) (b := b) (by omega) (by omega) (by omega) (by omega)
      rw [Int.natAbs_neg] at m1
      by_cases hg : Nat.gcd a.natAbs b.natAbs = 1
      · have q : ((Nat.gcd a.natAbs b.natAbs : Int) == 1) = true := by simp [hg]
        by_cases q3 : b ≤ 1048576
        · rw [if_pos ⟨b1, q3, by omega, hg⟩, if_neg (by omega)]; exact rtimed_neg a b _ b1 b2 a1 a2 (by omega) q q3 w m1
        · rw [if_neg (by omega)]; exact rtimed_gridm a b _ b1 b2 a1 a2 (by omega) q (by omega) w m1
      · rw [if_neg (fun x => hg x.2.2.2)]; exact rtimed_gcdm a b _ b1 b2 a1 a2 (by omega) (by simp; omega) w m1
theorem rframe_any (n d a b how : Int) (dr : Bool) (w : World) (ha0 : -9223372036854775808 ≤ a) (ha1 : a ≤ 9223372036854775807) (hb0 : -9223372036854775808 ≤ b) (hb1 : b ≤ 9223372036854775807) :
    Calls Tryd.prog 31 #[rate n d dr, .agg #[.int .i64 a, .int .i64 b], .int .i64 how] w fun e w' => e = .returned (.tuple #[.int .i64 (frmS n d dr a b how).1, .int .i64 (frmS n d dr a b how).2]) ∧ Below w.heap.size w w' := by
  have m1 := rcheck_any n d dr
  unfold checkS at m1
  unfold frmS
  by_cases h : okR n d dr = true
  · rw [if_pos h] at m1 ⊢
    have m2 := fun w => rtimed_any a b ha0 ha1 hb0 hb1 w
    by_cases ht : timeS a b = 0
    · rw [ht] at m2
      rw [if_pos ht]
      obtain ⟨p0, p1, q0, q1⟩ := frm_le (okR_iff.mp h) ht
      by_cases h1 : how = 1
      · subst h1; rw [if_pos rfl]; exact rframe_1 n d a b _ _ dr rfl rfl p0 p1 q0 q1 w m1 m2
      · rw [if_neg h1]
        by_cases h2 : how = 2
        · subst h2; rw [if_pos rfl]; exact rframe_2 n d a b _ _ dr rfl rfl p0 p1 q0 q1 w m1 m2
        · rw [if_neg h2]
          by_cases h3 : how = 3
          · subst h3; rw [if_pos rfl, show a * n + (b * d - 1) = a * n + b * d - 1 by omega]; exact rframe_3 n d a b _ _ dr rfl rfl p0 p1 q0 q1 w m1 m2
          · rw [if_neg h3]; exact rframe_how n d a b how _ _ dr rfl rfl p0 p1 q0 q1 (beq_f h1) (beq_f h2) (beq_f h3) w m1 m2
    · rw [if_neg ht]; exact rframe_time n d a b how _ dr (beq_f ht) w m1 m2
  · rw [if_neg h] at m1 ⊢
    exact rframe_bad n d a b how 14 dr (by decide) w m1
end Go.Proofs.YtghiibdhibcbaaaDoor.PA
