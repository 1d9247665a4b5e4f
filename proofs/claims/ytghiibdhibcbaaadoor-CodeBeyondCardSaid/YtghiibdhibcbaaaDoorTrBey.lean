/- CodeBeyond. -/
import Derived.Test.YtghiibdhibcbaaaDoorLwBey
namespace Go.Proofs.YtghiibdhibcbaaaDoor.PA
open Go Go.RowKit Go.Proofs.YtghiibdhibcbaaaDoor.CS
set_option linter.unusedVariables false
theorem time_max : timeS 360000 1 = 0 := by decide
theorem digL2_0 : digL 0 2 = [48, 48] := by rw [digL2 (by decide) (by decide)]; decide
theorem digL3_0 : digL 0 3 = [48, 48, 48] := by rw [digL3 (by decide) (by decide)]; decide
theorem label_first {n d : Int} {dr : Bool} (h : okR n d dr = true) : lblS n d dr 0 = ([48, 48, 58, 48, 48, 58, 48, 48, if dr = true then 59 else 58, 48, 48] ++ (if full n d > 100 then [48] else []), 0) := by
  have o := okR_iff.mp h
  obtain ⟨f0, f1⟩ := full_le o
  have hl := last_le o
  have hf : inF n d 0 = true := inF_iff.mpr ⟨by omega, hl.1⟩
  unfold lblS
  rw [if_pos h, if_pos hf]
  have hn : num n d dr 0 = 0 := by
    unfold num
    have := @drop_le n d dr
    rw [Int.zero_ediv, Int.zero_emod, if_neg (by omega)]; simp
  unfold labL
  rw [hn]
  simp only [Int.zero_ediv, Int.zero_emod]
  unfold labT wide
  rw [digL2_0]
  by_cases hw : full n d > 100
  · rw [if_pos hw, if_pos hw, digL3_0]; rfl
  · rw [if_neg hw, if_neg hw, digL2_0]; rfl
theorem beyond5_true (n d : Int) (dr : Bool) (hn : (Lit.int .i64 n).wf = true) (hd : (Lit.int .i64 d).wf = true) (w : World) (ht : TabN w) :
    Calls Tryd.prog 13 #[rate n d dr] w fun e w' => e = .returned (.bool true) ∧ Below w.heap.size w w' := by
  have m1 := rcheck_any n d dr
  unfold checkS at m1
  by_cases h : okR n d dr = true
  · rw [if_pos h] at m1
    have o := okR_iff.mp h
    obtain ⟨l0, l1, l2, l3⟩ := last_le o
    have m2 := fun w => cframe_any n d 360000 1 1 dr w (by decide) (by decide) (by decide) (by decide)
    have e2 : frmS n d dr 360000 1 1 = (last n d, 0) := by unfold frmS last; rw [if_pos h, if_pos time_max, if_pos rfl, Int.one_mul]
    rw [e2] at m2
    have i1 : inF n d (last n d) = true := inF_iff.mpr ⟨l0, Int.le_refl _⟩
    have i2 : inF n d (last n d + 1) = false := by rw [Bool.eq_false_iff]; intro h; have := inF_iff.mp h; omega
    have i3 : inF n d (-1) = false := by rw [Bool.eq_false_iff]; intro h; have := inF_iff.mp h; omega
    have m3 := ctime_any n d (last n d) dr
    rw [show (timF n d dr (last n d)).2.2 = 0 by rw [timF_ok h i1]] at m3
    have m4 := ctime_any n d (last n d + 1) dr
    rw [show timF n d dr (last n d + 1) = (0, 0, 31) by unfold timF; rw [if_pos h, if_neg (by rw [i2]; decide)]] at m4
    have m5 := label_any n d (last n d) dr
    rw [show (lblS n d dr (last n d)).2 = 0 by unfold lblS; rw [if_pos h, if_pos i1]] at m5
    have m6 := label_any n d (last n d + 1) dr
    rw [show lblS n d dr (last n d + 1) = ([], 31) by unfold lblS; rw [if_pos h, if_neg (by rw [i2]; decide)]] at m6
    have m7 := ctime_any n d (-1) dr
    rw [show timF n d dr (-1) = (0, 0, 31) by unfold timF; rw [if_pos h, if_neg (by rw [i3]; decide)]] at m7
    have m8 := label_any n d 0 dr
    rw [label_first h] at m8
    cases dr <;> by_cases hw : full n d > 100
    · rw [if_pos hw] at m8
      exact beyond_false_w n d _ _ _ _ _ _ _ _ _ o.n1 o.n2 o.d1 o.d2 l0 (by omega) hw w ht known_any m1 m2 m3 m4 m5 m6 m7 m8
    · rw [if_neg hw] at m8
      exact beyond_false n d _ _ _ _ _ _ _ _ _ o.n1 o.n2 o.d1 o.d2 l0 (by omega) (Int.not_lt.mp hw) w ht known_any m1 m2 m3 m4 m5 m6 m7 m8
    · rw [if_pos hw] at m8
      exact beyond_true_w n d _ _ _ _ _ _ _ _ _ o.n1 o.n2 o.d1 o.d2 l0 (by omega) hw w ht known_any m1 m2 m3 m4 m5 m6 m7 m8
    · rw [if_neg hw] at m8
      exact beyond_true n d _ _ _ _ _ _ _ _ _ o.n1 o.n2 o.d1 o.d2 l0 (by omega) (Int.not_lt.mp hw) w ht known_any m1 m2 m3 m4 m5 m6 m7 m8
  · rw [if_neg h] at m1
    exact beyond_no n d 14 dr (by decide) w ht known_any m1
end Go.Proofs.YtghiibdhibcbaaaDoor.PA
