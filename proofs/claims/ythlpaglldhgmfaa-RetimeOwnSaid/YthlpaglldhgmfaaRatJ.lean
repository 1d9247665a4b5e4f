/- Add, at all; Sub, Neg. -/
import Derived.Test.YthlpaglldhgmfaaRatI
namespace Go.Proofs.Ythlpaglldhgmfaa.PA
open Go.RowKit Go.Proofs.YthlpaglldhgmfaaW.PrintWords Go.Proofs.YthlpaglldhgmfaaW.PrintLast Go.Proofs.YthlpaglldhgmfaaW.PrintMore
attribute [local go_sem high] eqA85 eqA31
set_option linter.unusedSimpArgs false
set_option linter.unusedVariables false
/-- a + b, told -/
def addS (a b c d : Int) : Int × Int × Int := if rightS a b && rightS c d then fitS (sumS (decide (a < 0)) (decide (c < 0)) (a.natAbs * d.natAbs) (c.natAbs * b.natAbs)).1 (sumS (decide (a < 0)) (decide (c < 0)) (a.natAbs * d.natAbs) (c.natAbs * b.natAbs)).2 (b.natAbs * d.natAbs) else (0, 0, 12)
set_option maxHeartbeats 800000 in
set_option maxRecDepth 100000 in
theorem add_bad (a b c d : Int) (w : World) (ha0 : -9223372036854775808 ≤ a) (ha1 : a ≤ 9223372036854775807) (hb0 : -9223372036854775808 ≤ b) (hb1 : b ≤ 9223372036854775807)
    (hc0 : -9223372036854775808 ≤ c) (hc1 : c ≤ 9223372036854775807) (hd0 : -9223372036854775808 ≤ d) (hd1 : d ≤ 9223372036854775807) (h : (rightS a b && rightS c d) = false) :
    Calls Try.prog 44 #[.agg #[.int .i64 a, .int .i64 b], .agg #[.int .i64 c, .int .i64 d]] w fun e w' => e = .returned (.tuple #[.agg #[.int .i64 0, .int .i64 0], .int .i64 12]) ∧ Below w.heap.size w w' := by
  have rt : ∀ g w, w.heap[g]? = some (.cells #[.int .i64 a, .int .i64 b, .int .i64 c, .int .i64 d] 31 (0, 0)) → Calls Try.prog 81 #[.slice (some ⟨g, 0, none⟩) 2 2] w fun e w' => e = .returned (.bool false) ∧ Below w.heap.size w w' := fun g w hg => by
    have := right_two a b c d g w ha0 ha1 hb0 hb1 hc0 hc1 hd0 hd1 hg
    rw [h] at this; exact this
  have RT := Lib.hid rt
  clear rt h
  go_enter Try.func44, Try.ntmps44
  go_wp2_with fail
  with_reducible refine (RT.out _ _ ?_).mono ?_
  · simp (disch := first | omega | (simp only [World.size_alloc]; first | done | omega)) only [Hand.q3]
  rintro e w1 ⟨rfl, hb9⟩
  have h_A : w1.heap[w.heap.size]? = some (.cells #[.int .i64 a, .int .i64 b] 31 (0, 0)) := by
    refine Hand.kb hb9 ?_; simp (disch := first | omega | (simp only [Hand.sa, Hand.ss, Hand.sd, Hand.sn]; first | done | omega)) only [Hand.q2, Hand.q1, Hand.q5, Hand.q6, Hand.q4, Hand.q3] <;> rfl
  have h_B : w1.heap[w.heap.size + 1]? = some (.cells #[.int .i64 c, .int .i64 d] 31 (0, 0)) := by
    refine Hand.kb hb9 ?_; simp (disch := first | omega | (simp only [Hand.sa, Hand.ss, Hand.sd, Hand.sn]; first | done | omega)) only [Hand.q2, Hand.q1, Hand.q5, Hand.q6, Hand.q4, Hand.q3] <;> rfl
  have h_R : w1.heap[w.heap.size + 1 + 1]? = some (.cells #[.int .i64 0, .int .i64 0] 31 (0, 0)) := by
    refine Hand.kb hb9 ?_; simp (disch := first | omega | (simp only [Hand.sa, Hand.ss, Hand.sd, Hand.sn]; first | done | omega)) only [Hand.q2, Hand.q1, Hand.q5, Hand.q6, Hand.q4, Hand.q3] <;> rfl
  have hB' : Below w.heap.size w w1 := Hand.stepB hb9 (by repeat (with_reducible first | apply Below.refl _ _ | apply Below.drew | apply pw_below_drewN | (apply Below.setCell; rotate_left; (dsimp only; omega)) | (apply Below.alloc; rotate_left; (first | omega | (simp only [Hand.sa, Hand.ss, Hand.sd, Hand.sn]; omega))))) (Nat.le_refl _)
  clear hb9
  have g_A := h_A
  have g_B := h_B
  have g_R := h_R
  have hB := hB'
  clear hB' h_A h_B h_R
  obtain ⟨z_A, z1_A, z2_A, y0_A, y1_A⟩ := Hand.hz g_A
  obtain ⟨c_A_0, f_A_0, c_A_1, f_A_1⟩ := Hand.hc2 g_A
  obtain ⟨z_B, z1_B, z2_B, y0_B, y1_B⟩ := Hand.hz g_B
  obtain ⟨c_B_0, f_B_0, c_B_1, f_B_1⟩ := Hand.hc2 g_B
  obtain ⟨z_R, z1_R, z2_R, y0_R, y1_R⟩ := Hand.hz g_R
  obtain ⟨c_R_0, f_R_0, c_R_1, f_R_1⟩ := Hand.hc2 g_R
  have zw : w.heap.size ≤ w1.heap.size := hB.size
  have HG := Lib.hid (And.intro g_A (And.intro g_B (And.intro g_R (hB))))
  clear g_A g_B g_R hB
  go_wp2
  obtain ⟨g_A, g_B, g_R, hB⟩ := HG.out
  refine bodyPost_ret (results_ct rfl _ _ (w.heap.size + 1 + 1) 31 #[.int .i64 0, .int .i64 0] (0, 0) _ rfl ?_ Try.underlying31 rfl (by kernel_rfl)) rfl ⟨rfl, ?_⟩
  · simp (disch := omega) only [Hand.q1, g_R]; rfl
  · exact (hB.setCell (by dsimp only; omega) _).setCell (by dsimp only; omega) _
theorem addR_any (a b c d : Int) (w : World) (ha0 : -9223372036854775808 ≤ a) (ha1 : a ≤ 9223372036854775807) (hb0 : -9223372036854775808 ≤ b) (hb1 : b ≤ 9223372036854775807)
    (hc0 : -9223372036854775808 ≤ c) (hc1 : c ≤ 9223372036854775807) (hd0 : -9223372036854775808 ≤ d) (hd1 : d ≤ 9223372036854775807) :
    Calls Try.prog 44 #[.agg #[.int .i64 a, .int .i64 b], .agg #[.int .i64 c, .int .i64 d]] w fun e w' => e = .returned (.tuple #[.agg #[.int .i64 (addS a b c d).1, .int .i64 (addS a b c d).2.1], .int .i64 (addS a b c d).2.2]) ∧ Below w.heap.size w w' := by
  unfold addS
  by_cases h : (rightS a b && rightS c d) = true
  · rw [if_pos h]
    rw [Bool.and_eq_true] at h
    exact add_ok a b c d _ _ _ _ _ _ _ _ _ _ w h.1 h.2 rfl rfl rfl rfl rfl rfl rfl
  · rw [if_neg h]
    exact add_bad a b c d w ha0 ha1 hb0 hb1 hc0 hc1 hd0 hd1 (by simpa using h)
end Go.Proofs.Ythlpaglldhgmfaa.PA
