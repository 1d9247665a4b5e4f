/- CodeBack. -/
import Derived.Test.YtghiibdhibcbaaaDoorLwBak
import Derived.Test.YtghiibdhibcbaaaDoorLabR
import Derived.Test.YtghiibdhibcbaaaDoorTrNea
namespace Go.Proofs.YtghiibdhibcbaaaDoor.PA
open Go Go.RowKit Go.Proofs.YtghiibdhibcbaaaDoor.CS Go.ChangeShapes Go.WideShapes
set_option linter.unusedVariables false
/-- a frame's time is a time -/
theorem tim_time {n d fr : Int} {dr : Bool} (h : okR n d dr = true) (hf : inF n d fr = true) :
    ∃ x y, timF n d dr fr = (x, y, 0) ∧ timeS x y = 0 ∧ 1 ≤ y ∧ x * n = fr * (y * d) ∧ 0 ≤ x ∧ x ≤ 86400000000 ∧ y ≤ 240000 := by
  have o := okR_iff.mp h
  obtain ⟨b0, b1, b2, b3, b4⟩ := fr_le o hf
  obtain ⟨n1, n2, d1, d2, _, _, _, _⟩ := o
  have hg : 0 < Nat.gcd (fr * d).natAbs n.natAbs := Nat.gcd_pos_of_pos_right _ (by omega)
  obtain ⟨g, hge⟩ : ∃ g, Nat.gcd (fr * d).natAbs n.natAbs = g := ⟨_, rfl⟩
  have hc := Nat.gcd_div_gcd_div_gcd_of_pos_right (n := (fr * d).natAbs) (m := n.natAbs) (by omega)
  have v1 : (g : Int) ∣ fr * d := by have := Int.natCast_dvd_natCast.mpr (Nat.gcd_dvd_left (fr * d).natAbs n.natAbs); rw [hge] at this; rwa [show ((fr * d).natAbs : Int) = fr * d by omega] at this
  have v2 : (g : Int) ∣ n := by have := Int.natCast_dvd_natCast.mpr (Nat.gcd_dvd_right (fr * d).natAbs n.natAbs); rw [hge] at this; rwa [show (n.natAbs : Int) = n by omega] at this
  have e := timF_ok h hf
  rw [hge] at e hg hc
  have u1 : (g : Int) * (fr * d / g) = fr * d := Int.mul_ediv_cancel' v1
  have u2 : (g : Int) * (n / g) = n := Int.mul_ediv_cancel' v2
  have x0 : 0 ≤ fr * d / (g : Int) := Int.ediv_nonneg b2 (by omega)
  have x1 : fr * d / (g : Int) ≤ fr * d := Int.ediv_le_self _ b2
  have y1 : n / (g : Int) ≤ n := Int.ediv_le_self _ (by omega)
  have y0 : 1 ≤ n / (g : Int) := by
    rcases Int.lt_or_le (n / (g : Int)) 1 with hlt | hge2
    · have h0 : 0 ≤ n / (g : Int) := Int.ediv_nonneg (by omega) (by omega)
      have : n / (g : Int) = 0 := by omega
      rw [this, Int.mul_zero] at u2; omega
    · exact hge2
  have hx : (fr * d / (g : Int)).natAbs = (fr * d).natAbs / g := by
    have : fr * d / (g : Int) = (((fr * d).natAbs / g : Nat) : Int) := by rw [Int.natCast_ediv]; congr 1; omega
    rw [this, Int.natAbs_natCast]
  have hy : (n / (g : Int)).natAbs = n.natAbs / g := by
    have : n / (g : Int) = ((n.natAbs / g : Nat) : Int) := by rw [Int.natCast_ediv]; congr 1; omega
    rw [this, Int.natAbs_natCast]
  refine ⟨_, _, e, ?_, y0, ?_, x0, by omega, by omega⟩
  · have h1 : (g : Int) * (fr * d / g) ≤ g * (360000 * (n / g)) := by
      rw [u1, show (g : Int) * (360000 * (n / g)) = 360000 * (g * (n / g)) by grind, u2]; exact b3
    have h2 : fr * d / (g : Int) ≤ 360000 * (n / g) := Int.le_of_mul_le_mul_left h1 (by omega)
    rw [timeS_iff, if_pos ⟨y0, by omega, by omega, by rw [hx, hy]; exact hc⟩, if_pos ⟨x0, h2⟩]
  · have h1 : fr * d / (g : Int) * n = (g * (fr * d / g)) * (n / g) := by
      grind
    rw [h1, u1]; grind
theorem number_label {n d fr : Int} {dr : Bool} (h : okR n d dr = true) (hf : inF n d fr = true) : nmbS n d dr (labL n d dr fr) = (fr, 0) := by
  have o := okR_iff.mp h
  obtain ⟨b0, b1, b2, b3, b4⟩ := fr_le o hf
  obtain ⟨f0, f1⟩ := full_le o
  obtain ⟨M, K, e1, k0, k1, M0, e2, e3⟩ := num_read o b0
  have hn := num_le h hf
  have hM : M ≤ 60000 - 1 := by
    rcases Int.lt_or_le M 60000 with hl | hl
    · omega
    · -- minutes are few
      exfalso
      have hl2 := (last_le o).2.1
      have h60 : 60 * full n d * 60000 ≤ 60 * full n d * M := Int.mul_le_mul_of_nonneg_left hl (by omega)
      have hfu : n ≤ full n d * d := by
        have := Int.lt_ediv_add_one_mul_self (n + d - 1) (show 0 < d by have := o.d1; omega)
        unfold full
        have h3 : ((n + d - 1) / d + 1) * d = (n + d - 1) / d * d + d := by grind
        omega
      have hfl : full n d * d ≤ n + d - 1 := by unfold full; exact Int.ediv_mul_le _ (by have := o.d1; omega)
      have hd1 := o.d1
      have hle := o.le
      rcases o.kinds with ⟨rfl, hd⟩ | ⟨rfl, rfl, rfl, hd, hF⟩ | ⟨rfl, rfl, rfl, hd, hF⟩
      · rw [num_false] at e1
        have h5 : (3600000 * full n d) * d ≤ fr * d := Int.mul_le_mul_of_nonneg_right (by omega) (by omega)
        have h6 : (3600000 * full n d) * d = 3600000 * (full n d * d) := by grind
        omega
      · rw [hF] at h60 k1 e1; rw [hd] at e2; have := (inF_iff.mp hf).2; rw [last_30] at this; omega
      · rw [hF] at h60 k1 e1; rw [hd] at e2; have := (inF_iff.mp hf).2; rw [last_60] at this; omega
  unfold nmbS
  rw [if_pos h, labL_parts o e1 k0 k1]
  have s0 : 0 ≤ K / full n d := Int.ediv_nonneg k0 (by omega)
  have s1 : K / full n d < 60 := (Int.ediv_lt_iff_lt_mul (by omega)).mpr (by omega)
  have r0 : 0 ≤ K % full n d := Int.emod_nonneg _ (by omega)
  have r1 : K % full n d < full n d := Int.emod_lt_of_pos _ (by omega)
  rw [labO_labT (by omega) (by omega) (by omega) (by omega) s0 s1 r0 r1 (by omega)]
  dsimp only
  have es : said n d (M / 60) (M % 60) (K / full n d) (K % full n d) = num n d dr fr := by
    unfold said
    have em : full n d * (K / full n d) + K % full n d = K := Int.mul_ediv_add_emod _ _
    rw [show 60 * (60 * (M / 60) + M % 60) = 60 * M by omega, Int.mul_add, e1]
    have : full n d * (60 * M) = 60 * full n d * M := by grind
    omega
  unfold valS
  rw [es, show 60 * (M / 60) + M % 60 = M by omega, ← e2, hf]
  rw [if_neg, if_pos rfl]
  rintro ⟨rfl, a1, a2, a3⟩
  have h4 := e3 (by omega)
  have em : full n d * (K / full n d) + K % full n d = K := Int.mul_ediv_add_emod _ _
  rw [a1, Int.mul_zero] at em
  omega
theorem back5_true (n d : Int) (dr : Bool) (fr : Int) (hn : (Lit.int .i64 n).wf = true) (hd : (Lit.int .i64 d).wf = true) (hr : (Lit.int .i64 fr).wf = true) (w : World) (ht : TabN w) :
    Calls Tryd.prog 11 #[rate n d dr, .int .i64 fr] w fun e w' => e = .returned (.bool true) ∧ Below w.heap.size w w' := by
  have m1 := rcheck_any n d dr
  unfold checkS at m1
  by_cases h : okR n d dr = true
  · rw [if_pos h] at m1
    have o := okR_iff.mp h
    have m2 := ctime_any n d fr dr
    by_cases hf : inF n d fr = true
    · obtain ⟨x, y, e, tz, y1, exn, x0, x1, y2⟩ := tim_time h hf
      obtain ⟨f0, f1, _, _, _⟩ := fr_le o hf
      rw [e] at m2
      have m3 : ∀ (j : Int) w, 1 ≤ j → j ≤ 3 → Calls Tryd.prog 30 #[rate n d dr, .agg #[.int .i64 x, .int .i64 y], .int .i64 j] w fun e w' => e = .returned (.tuple #[.int .i64 fr, .int .i64 0]) ∧ Below w.heap.size w w' := by
        intro j w j1 j3
        have hc := cframe_any n d x y j dr w (by omega) (by omega) (by omega) (by omega)
        have hq : 1 ≤ y * d := by have := Int.mul_le_mul y1 o.d1 (by omega) (by omega); omega
        have ef : frmS n d dr x y j = (fr, 0) := by
          unfold frmS
          rw [if_pos h, if_pos tz, exn]
          obtain ⟨q, hqe⟩ : ∃ q, y * d = q := ⟨_, rfl⟩
          rw [hqe] at hq ⊢
          have ez : fr * (2 * q) = 2 * (fr * q) := by grind
          rcases (by omega : j = 1 ∨ j = 2 ∨ j = 3) with rfl | rfl | rfl
          · rw [if_pos rfl, Int.mul_ediv_cancel _ (by omega)]
          · rw [if_neg (by decide), if_pos rfl, div_of (by omega) (show _ = fr * (2 * q) + q by omega) (by omega) (by omega)]
          · rw [if_neg (by decide), if_neg (by decide), if_pos rfl, div_of (by omega) (show _ = fr * q + (q - 1) by omega) (by omega) (by omega)]
        rw [ef] at hc; exact hc
      have m4 := label_any n d fr dr
      rw [show lblS n d dr fr = (labL n d dr fr, 0) by unfold lblS; rw [if_pos h, if_pos hf]] at m4
      have m5 := cnumber_any n d dr (labL n d dr fr)
      rw [number_label h hf] at m5
      have m6 := fun w => time3_any x y w (by omega) (by omega) (by omega) (by omega)
      rw [tz] at m6
      exact back5_ok n d fr x y dr _ w ht known_any m1 m2 m3 m4 m5 m6
    · rw [show timF n d dr fr = (0, 0, 31) by unfold timF; rw [if_pos h, if_neg hf]] at m2
      rw [inF_iff] at hf
      exact back5_far n d fr dr o.n1 o.n2 o.d1 o.d2 (by unfold last at hf; omega) w ht known_any m1 m2
  · rw [if_neg h] at m1
    exact back5_no n d fr 14 dr (by decide) w ht known_any m1
end Go.Proofs.YtghiibdhibcbaaaDoor.PA
