/- CodeNear. -/
import Derived.Test.YtghiibdhibcbaaaDoorLwNea
namespace Go.Proofs.YtghiibdhibcbaaaDoor.PA
open Go Go.RowKit Go.Proofs.YtghiibdhibcbaaaDoor.CS Go.ChangeShapes Go.WideShapes
set_option linter.unusedVariables false
theorem div_of {x y k r : Int} (hy : 0 < y) (e : x = k * y + r) (r0 : 0 ≤ r) (r1 : r < y) : x / y = k := by
  rw [e, Int.add_comm, Int.add_mul_ediv_right _ _ (by omega), Int.ediv_eq_zero_of_lt r0 r1, Int.zero_add]
theorem near5_true (n d : Int) (dr : Bool) (a b : Int) (hn : (Lit.int .i64 n).wf = true) (hd : (Lit.int .i64 d).wf = true) (ha : (Lit.int .i64 a).wf = true) (hb : (Lit.int .i64 b).wf = true) (w : World) (ht : TabN w) :
    Calls Tryd.prog 12 #[rate n d dr, .agg #[.int .i64 a, .int .i64 b]] w fun e w' => e = .returned (.bool true) ∧ Below w.heap.size w w' := by
  have a1 := bounds_i64 ha
  have b1 := bounds_i64 hb
  have m1 := rcheck_any n d dr
  unfold checkS at m1
  by_cases h : okR n d dr = true
  · rw [if_pos h] at m1
    have o := okR_iff.mp h
    have m2 := fun w => time3_any a b w a1.1 a1.2 b1.1 b1.2
    by_cases hz : timeS a b = 0
    · rw [hz] at m2
      obtain ⟨p0, p1, q0, q1⟩ := frm_le o hz
      obtain ⟨_, tb1, tb2, ta0, ta1⟩ := timeS_le hz
      have m3 := fun w => cframe_any n d a b 1 dr w a1.1 a1.2 b1.1 b1.2
      have m4 := fun w => cframe_any n d a b 2 dr w a1.1 a1.2 b1.1 b1.2
      have m5 := fun w => cframe_any n d a b 3 dr w a1.1 a1.2 b1.1 b1.2
      have e1 : frmS n d dr a b 1 = (a * n / (b * d), 0) := by unfold frmS; rw [if_pos h, if_pos hz, if_pos rfl]
      have e2 : frmS n d dr a b 2 = ((2 * (a * n) + b * d) / (2 * (b * d)), 0) := by unfold frmS; rw [if_pos h, if_pos hz, if_neg (by decide), if_pos rfl]
      have e3 : frmS n d dr a b 3 = ((a * n + (b * d - 1)) / (b * d), 0) := by unfold frmS; rw [if_pos h, if_pos hz, if_neg (by decide), if_neg (by decide), if_pos rfl]
      rw [e1] at m3
      rw [e2] at m4
      rw [e3] at m5
      have hpq : a * n ≤ 86400000 * (b * d) := by
        have h1 : a * n ≤ (360000 * b) * (240 * d) := Int.mul_le_mul ta1 o.ge (by have := o.n1; omega) (by omega)
        have h2 : (360000 * b) * (240 * d) = 86400000 * (b * d) := by grind
        omega
      obtain ⟨p, hp⟩ : ∃ p, a * n = p := ⟨_, rfl⟩
      obtain ⟨q, hq⟩ : ∃ q, b * d = q := ⟨_, rfl⟩
      rw [hp] at p0 p1 hpq m3 m4 m5
      rw [hq] at q0 q1 hpq m3 m4 m5
      have k0 : 0 ≤ p / q := Int.ediv_nonneg p0 (by omega)
      have k1 : p / q < 86400001 := (Int.ediv_lt_iff_lt_mul (by omega)).mpr (by omega)
      have em : q * (p / q) + p % q = p := Int.mul_ediv_add_emod p q
      have r0 : 0 ≤ p % q := Int.emod_nonneg _ (by omega)
      have r1 : p % q < q := Int.emod_lt_of_pos _ (by omega)
      obtain ⟨k, hk⟩ : ∃ k, p / q = k := ⟨_, rfl⟩
      rw [hk] at k0 k1 em m3
      have ez : k * q = q * k := Int.mul_comm _ _
      have ez2 : (k + 1) * q = k * q + q := by grind
      have ez3 : k * (2 * q) = 2 * (k * q) := by grind
      have ez4 : (k + 1) * (2 * q) = 2 * (k * q) + 2 * q := by grind
      have z0 : 0 ≤ k * q := Int.mul_nonneg k0 (by omega)
      by_cases he : k * q = p
      · have c2 : (2 * p + q) / (2 * q) = k := div_of (by omega) (show _ = k * (2 * q) + q by omega) (by omega) (by omega)
        have c3 : (p + (q - 1)) / q = k := div_of (by omega) (show _ = k * q + (q - 1) by omega) (by omega) (by omega)
        rw [c2] at m4
        rw [c3] at m5
        exact near_at n d a b p q k _ _ dr hp hq p0 p1 q0 q1 k0 (by omega) rfl rfl z0 (by omega) (by omega) (by omega) (by simpa using he) w ht known_any m1 m2 m3 m4 m5
      · have c3 : (p + (q - 1)) / q = k + 1 := div_of (by omega) (show _ = (k + 1) * q + (p - k * q - 1) by omega) (by omega) (by omega)
        rw [c3] at m5
        by_cases hu : q ≤ 2 * (p - k * q)
        · have c2 : (2 * p + q) / (2 * q) = k + 1 := div_of (by omega) (show _ = (k + 1) * (2 * q) + (2 * (p - k * q) - q) by omega) (by omega) (by omega)
          rw [c2] at m4
          exact near_up n d a b p q k _ _ dr hp hq p0 p1 q0 q1 k0 (by omega) rfl rfl z0 (by omega) (by omega) (by omega) (beq_f he) hu w ht known_any m1 m2 m3 m4 m5
        · have c2 : (2 * p + q) / (2 * q) = k := div_of (by omega) (show _ = k * (2 * q) + (2 * (p - k * q) + q) by omega) (by omega) (by omega)
          rw [c2] at m4
          exact near_down n d a b p q k _ _ dr hp hq p0 p1 q0 q1 k0 (by omega) rfl rfl z0 (by omega) (by omega) (by omega) (beq_f he) (by omega) w ht known_any m1 m2 m3 m4 m5
    · exact near_time n d a b _ dr (beq_f hz) w ht known_any m1 m2
  · rw [if_neg h] at m1
    exact near_no n d a b 14 dr (by decide) w ht known_any m1
end Go.Proofs.YtghiibdhibcbaaaDoor.PA
