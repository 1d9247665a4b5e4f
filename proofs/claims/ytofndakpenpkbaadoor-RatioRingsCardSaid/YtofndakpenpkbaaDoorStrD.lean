/- The law's known answers. -/
import Derived.Test.YtofndakpenpkbaaDoorStrC
import Derived.Test.YtofndakpenpkbaaDoorRatD
namespace Go.Proofs.YtofndakpenpkbaaDoor.PA
open Go.RowKit Go.Proofs.YtofndakpenpkbaaDoorW.PrintWords Go.Proofs.YtofndakpenpkbaaDoorW.PrintLast Go.Proofs.YtofndakpenpkbaaDoorW.PrintMore
attribute [local go_sem high] eqA67 eqA24
set_option linter.unusedSimpArgs false
set_option linter.unusedVariables false
set_option maxHeartbeats 4000000 in
set_option maxRecDepth 100000 in
theorem known_of (hadd : ∀ w, Calls Tryd.prog 21 #[.agg #[.int .i64 1, .int .i64 3], .agg #[.int .i64 1, .int .i64 6]] w fun e w' => e = .returned (.tuple #[.agg #[.int .i64 1, .int .i64 2], .int .i64 0]) ∧ Below w.heap.size w w') (w : World) :
    Calls Tryd.prog 16 #[] w fun e w' => e = .returned (.bool true) ∧ Below w.heap.size w w' := by
  have m1 : ∀ w, Calls Tryd.prog 17 #[.int .i64 6, .int .i64 (-4)] w fun e w' => e = .returned (.tuple #[.agg #[.int .i64 (-3), .int .i64 2], .int .i64 0]) ∧ Below w.heap.size w w' := fun w => by
    have h := new_any 6 (-4) w (by decide) (by decide) (by decide) (by decide)
    rw [show newS 6 (-4) = (-3, 2, 0) from by decide] at h; exact h
  have m3 : ∀ w, Calls Tryd.prog 17 #[.int .i64 1, .int .i64 0] w fun e w' => e = .returned (.tuple #[.agg #[.int .i64 0, .int .i64 0], .int .i64 11]) ∧ Below w.heap.size w w' := fun w => by
    have h := new_any 1 0 w (by decide) (by decide) (by decide) (by decide)
    rw [show newS 1 0 = (0, 0, 11) from by decide] at h; exact h
  have m5 : ∀ w, Calls Tryd.prog 19 #[.agg #[.int .i64 1, .int .i64 4]] w fun e w' => e = .returned (.bool true) ∧ Below w.heap.size w w' := fun w => by
    have h := right_any 1 4 w (by decide) (by decide) (by decide) (by decide)
    rw [show rightS 1 4 = true from by decide] at h; exact h
  have m6 : ∀ w, Calls Tryd.prog 19 #[.agg #[.int .i64 0, .int .i64 0]] w fun e w' => e = .returned (.bool false) ∧ Below w.heap.size w w' := fun w => by
    have h := right_any 0 0 w (by decide) (by decide) (by decide) (by decide)
    rw [show rightS 0 0 = false from by decide] at h; exact h
  have M1 := Lib.hid m1
  have M2 := Lib.hid hadd
  have M3 := Lib.hid m3
  have M4 := Lib.hid parse_known
  have M5 := Lib.hid m5
  have M6 := Lib.hid m6
  clear m1 m3 m5 m6 hadd
  go_enter Tryd.func16, Tryd.ntmps16
  go_wp2_with fail
  with_reducible refine (M1.out _).mono ?_
  rintro e w1 ⟨rfl, hb1⟩
  have k1 := hb1.size
  go_wp2_with fail
  with_reducible refine (M2.out _).mono ?_
  rintro e w2 ⟨rfl, hb2⟩
  have hB := (hb1.alloc (by omega) (.cells #[.int .i64 (-3), .int .i64 2] 24)).trans (hb2.mono (by simp only [World.size_alloc]; omega))
  have g_A := (Hand.hp_below hb2 (g := w1.heap.size) (by simp only [World.size_alloc]; omega)).trans (Hand.q3 _ _ _ rfl)
  clear hb1 hb2
  obtain ⟨z_A, z1_A, z2_A, y0_A, y1_A⟩ := Hand.hz g_A
  obtain ⟨c_A_0, f_A_0, c_A_1, f_A_1⟩ := Hand.hc2 g_A
  have zw : w.heap.size ≤ w2.heap.size := hB.size
  have HG := Lib.hid (And.intro g_A (hB))
  clear g_A hB
  have k2 : w1.heap.size < w2.heap.size := z_A
  go_wp2_with fail
  with_reducible refine (M3.out _).mono ?_
  rintro e w3 ⟨rfl, hb3⟩
  obtain ⟨g_A, hB⟩ := HG.out
  have h_A : w3.heap[w1.heap.size]? = some (.cells #[.int .i64 (-3), .int .i64 2] 24 (0, 0)) := by
    refine Hand.kb hb3 ?_; first | with_reducible exact g_A | (simp (disch := first | omega | (simp only [Hand.sa, Hand.ss, Hand.sd, Hand.sn]; first | done | omega)) only [Hand.q2, Hand.q1, Hand.q5, Hand.q6, Hand.q4, Hand.q3, g_A] <;> rfl)
  have h_B : w3.heap[w2.heap.size]? = some (.cells #[.int .i64 1, .int .i64 2] 24 (0, 0)) := by
    refine Hand.kb hb3 ?_; simp (disch := first | omega | (simp only [Hand.sa, Hand.ss, Hand.sd, Hand.sn]; first | done | omega)) only [Hand.q2, Hand.q1, Hand.q5, Hand.q6, Hand.q4, Hand.q3] <;> rfl
  have hB' : Below w.heap.size w w3 := Hand.stepB hb3 (by repeat (with_reducible first | apply hB | apply Below.drew | apply pw_below_drewN | (apply Below.setCell; rotate_left; (dsimp only; omega)) | (apply Below.alloc; rotate_left; (first | omega | (simp only [Hand.sa, Hand.ss, Hand.sd, Hand.sn]; omega))))) (Nat.le_refl _)
  clear HG hB g_A zw z_A z1_A z2_A y0_A y1_A c_A_0 f_A_0 c_A_1 f_A_1
  clear hb3
  have g_A := h_A
  have g_B := h_B
  have hB := hB'
  clear hB' h_A h_B
  obtain ⟨z_A, z1_A, z2_A, y0_A, y1_A⟩ := Hand.hz g_A
  obtain ⟨c_A_0, f_A_0, c_A_1, f_A_1⟩ := Hand.hc2 g_A
  obtain ⟨z_B, z1_B, z2_B, y0_B, y1_B⟩ := Hand.hz g_B
  obtain ⟨c_B_0, f_B_0, c_B_1, f_B_1⟩ := Hand.hc2 g_B
  have zw : w.heap.size ≤ w3.heap.size := hB.size
  have HG := Lib.hid (And.intro g_A (And.intro g_B (hB)))
  clear g_A g_B hB
  have k3 : w2.heap.size < w3.heap.size := z_B
  go_wp2_with fail
  with_reducible refine (M4.out _).mono ?_
  rintro e w4 ⟨rfl, hb4⟩
  obtain ⟨g_A, g_B, hB⟩ := HG.out
  have h_A : w4.heap[w1.heap.size]? = some (.cells #[.int .i64 (-3), .int .i64 2] 24 (0, 0)) := by
    refine Hand.kb hb4 ?_; first | with_reducible exact g_A | (simp (disch := first | omega | (simp only [Hand.sa, Hand.ss, Hand.sd, Hand.sn]; first | done | omega)) only [Hand.q2, Hand.q1, Hand.q5, Hand.q6, Hand.q4, Hand.q3, g_A] <;> rfl)
  have h_B : w4.heap[w2.heap.size]? = some (.cells #[.int .i64 1, .int .i64 2] 24 (0, 0)) := by
    refine Hand.kb hb4 ?_; first | with_reducible exact g_B | (simp (disch := first | omega | (simp only [Hand.sa, Hand.ss, Hand.sd, Hand.sn]; first | done | omega)) only [Hand.q2, Hand.q1, Hand.q5, Hand.q6, Hand.q4, Hand.q3, g_B] <;> rfl)
  have h_C : w4.heap[w3.heap.size]? = some (.cells #[.int .i64 0, .int .i64 0] 24 (0, 0)) := by
    refine Hand.kb hb4 ?_; simp (disch := first | omega | (simp only [Hand.sa, Hand.ss, Hand.sd, Hand.sn]; first | done | omega)) only [Hand.q2, Hand.q1, Hand.q5, Hand.q6, Hand.q4, Hand.q3] <;> rfl
  have hB' : Below w.heap.size w w4 := Hand.stepB hb4 (by repeat (with_reducible first | apply hB | apply Below.drew | apply pw_below_drewN | (apply Below.setCell; rotate_left; (dsimp only; omega)) | (apply Below.alloc; rotate_left; (first | omega | (simp only [Hand.sa, Hand.ss, Hand.sd, Hand.sn]; omega))))) (Nat.le_refl _)
  clear HG hB g_A g_B zw z_A z1_A z2_A y0_A y1_A c_A_0 f_A_0 c_A_1 f_A_1 z_B z1_B z2_B y0_B y1_B c_B_0 f_B_0 c_B_1 f_B_1
  clear hb4
  have g_A := h_A
  have g_B := h_B
  have g_C := h_C
  have hB := hB'
  clear hB' h_A h_B h_C
  obtain ⟨z_A, z1_A, z2_A, y0_A, y1_A⟩ := Hand.hz g_A
  obtain ⟨c_A_0, f_A_0, c_A_1, f_A_1⟩ := Hand.hc2 g_A
  obtain ⟨z_B, z1_B, z2_B, y0_B, y1_B⟩ := Hand.hz g_B
  obtain ⟨c_B_0, f_B_0, c_B_1, f_B_1⟩ := Hand.hc2 g_B
  obtain ⟨z_C, z1_C, z2_C, y0_C, y1_C⟩ := Hand.hz g_C
  obtain ⟨c_C_0, f_C_0, c_C_1, f_C_1⟩ := Hand.hc2 g_C
  have zw : w.heap.size ≤ w4.heap.size := hB.size
  have HG := Lib.hid (And.intro g_A (And.intro g_B (And.intro g_C (hB))))
  clear g_A g_B g_C hB
  have k4 : w3.heap.size < w4.heap.size := z_C
  go_wp2_with fail
  with_reducible refine (M5.out _).mono ?_
  rintro e w5 ⟨rfl, hb5⟩
  obtain ⟨g_A, g_B, g_C, hB⟩ := HG.out
  have h_A : w5.heap[w1.heap.size]? = some (.cells #[.int .i64 (-3), .int .i64 2] 24 (0, 0)) := by
    refine Hand.kb hb5 ?_; first | with_reducible exact g_A | (simp (disch := first | omega | (simp only [Hand.sa, Hand.ss, Hand.sd, Hand.sn]; first | done | omega)) only [Hand.q2, Hand.q1, Hand.q5, Hand.q6, Hand.q4, Hand.q3, g_A] <;> rfl)
  have h_B : w5.heap[w2.heap.size]? = some (.cells #[.int .i64 1, .int .i64 2] 24 (0, 0)) := by
    refine Hand.kb hb5 ?_; first | with_reducible exact g_B | (simp (disch := first | omega | (simp only [Hand.sa, Hand.ss, Hand.sd, Hand.sn]; first | done | omega)) only [Hand.q2, Hand.q1, Hand.q5, Hand.q6, Hand.q4, Hand.q3, g_B] <;> rfl)
  have h_C : w5.heap[w3.heap.size]? = some (.cells #[.int .i64 0, .int .i64 0] 24 (0, 0)) := by
    refine Hand.kb hb5 ?_; first | with_reducible exact g_C | (simp (disch := first | omega | (simp only [Hand.sa, Hand.ss, Hand.sd, Hand.sn]; first | done | omega)) only [Hand.q2, Hand.q1, Hand.q5, Hand.q6, Hand.q4, Hand.q3, g_C] <;> rfl)
  have h_D : w5.heap[w4.heap.size]? = some (.cells #[.int .i64 1, .int .i64 4] 24 (0, 0)) := by
    refine Hand.kb hb5 ?_; simp (disch := first | omega | (simp only [Hand.sa, Hand.ss, Hand.sd, Hand.sn]; first | done | omega)) only [Hand.q2, Hand.q1, Hand.q5, Hand.q6, Hand.q4, Hand.q3] <;> rfl
  have hB' : Below w.heap.size w w5 := Hand.stepB hb5 (by repeat (with_reducible first | apply hB | apply Below.drew | apply pw_below_drewN | (apply Below.setCell; rotate_left; (dsimp only; omega)) | (apply Below.alloc; rotate_left; (first | omega | (simp only [Hand.sa, Hand.ss, Hand.sd, Hand.sn]; omega))))) (Nat.le_refl _)
  clear HG hB g_A g_B g_C zw z_A z1_A z2_A y0_A y1_A c_A_0 f_A_0 c_A_1 f_A_1 z_B z1_B z2_B y0_B y1_B c_B_0 f_B_0 c_B_1 f_B_1 z_C z1_C z2_C y0_C y1_C c_C_0 f_C_0 c_C_1 f_C_1
  clear hb5
  have g_A := h_A
  have g_B := h_B
  have g_C := h_C
  have g_D := h_D
  have hB := hB'
  clear hB' h_A h_B h_C h_D
  obtain ⟨z_A, z1_A, z2_A, y0_A, y1_A⟩ := Hand.hz g_A
  obtain ⟨c_A_0, f_A_0, c_A_1, f_A_1⟩ := Hand.hc2 g_A
  obtain ⟨z_B, z1_B, z2_B, y0_B, y1_B⟩ := Hand.hz g_B
  obtain ⟨c_B_0, f_B_0, c_B_1, f_B_1⟩ := Hand.hc2 g_B
  obtain ⟨z_C, z1_C, z2_C, y0_C, y1_C⟩ := Hand.hz g_C
  obtain ⟨c_C_0, f_C_0, c_C_1, f_C_1⟩ := Hand.hc2 g_C
  obtain ⟨z_D, z1_D, z2_D, y0_D, y1_D⟩ := Hand.hz g_D
  obtain ⟨c_D_0, f_D_0, c_D_1, f_D_1⟩ := Hand.hc2 g_D
  have zw : w.heap.size ≤ w5.heap.size := hB.size
  have HG := Lib.hid (And.intro g_A (And.intro g_B (And.intro g_C (And.intro g_D (hB)))))
  clear g_A g_B g_C g_D hB
  go_wp2_with fail
  with_reducible refine (M6.out _).mono ?_
  rintro e w6 ⟨rfl, hb6⟩
  obtain ⟨g_A, g_B, g_C, g_D, hB⟩ := HG.out
  have h_A : w6.heap[w1.heap.size]? = some (.cells #[.int .i64 (-3), .int .i64 2] 24 (0, 0)) := by
    refine Hand.kb hb6 ?_; first | with_reducible exact g_A | (simp (disch := first | omega | (simp only [Hand.sa, Hand.ss, Hand.sd, Hand.sn]; first | done | omega)) only [Hand.q2, Hand.q1, Hand.q5, Hand.q6, Hand.q4, Hand.q3, g_A] <;> rfl)
  have h_B : w6.heap[w2.heap.size]? = some (.cells #[.int .i64 1, .int .i64 2] 24 (0, 0)) := by
    refine Hand.kb hb6 ?_; first | with_reducible exact g_B | (simp (disch := first | omega | (simp only [Hand.sa, Hand.ss, Hand.sd, Hand.sn]; first | done | omega)) only [Hand.q2, Hand.q1, Hand.q5, Hand.q6, Hand.q4, Hand.q3, g_B] <;> rfl)
  have h_C : w6.heap[w3.heap.size]? = some (.cells #[.int .i64 0, .int .i64 0] 24 (0, 0)) := by
    refine Hand.kb hb6 ?_; first | with_reducible exact g_C | (simp (disch := first | omega | (simp only [Hand.sa, Hand.ss, Hand.sd, Hand.sn]; first | done | omega)) only [Hand.q2, Hand.q1, Hand.q5, Hand.q6, Hand.q4, Hand.q3, g_C] <;> rfl)
  have h_D : w6.heap[w4.heap.size]? = some (.cells #[.int .i64 1, .int .i64 4] 24 (0, 0)) := by
    refine Hand.kb hb6 ?_; first | with_reducible exact g_D | (simp (disch := first | omega | (simp only [Hand.sa, Hand.ss, Hand.sd, Hand.sn]; first | done | omega)) only [Hand.q2, Hand.q1, Hand.q5, Hand.q6, Hand.q4, Hand.q3, g_D] <;> rfl)
  have hB' : Below w.heap.size w w6 := Hand.stepB hb6 (by repeat (with_reducible first | apply hB | apply Below.drew | apply pw_below_drewN | (apply Below.setCell; rotate_left; (dsimp only; omega)) | (apply Below.alloc; rotate_left; (first | omega | (simp only [Hand.sa, Hand.ss, Hand.sd, Hand.sn]; omega))))) (Nat.le_refl _)
  clear HG hB g_A g_B g_C g_D zw z_A z1_A z2_A y0_A y1_A c_A_0 f_A_0 c_A_1 f_A_1 z_B z1_B z2_B y0_B y1_B c_B_0 f_B_0 c_B_1 f_B_1 z_C z1_C z2_C y0_C y1_C c_C_0 f_C_0 c_C_1 f_C_1 z_D z1_D z2_D y0_D y1_D c_D_0 f_D_0 c_D_1 f_D_1
  clear hb6
  have g_A := h_A
  have g_B := h_B
  have g_C := h_C
  have g_D := h_D
  have hB := hB'
  clear hB' h_A h_B h_C h_D
  obtain ⟨z_A, z1_A, z2_A, y0_A, y1_A⟩ := Hand.hz g_A
  obtain ⟨c_A_0, f_A_0, c_A_1, f_A_1⟩ := Hand.hc2 g_A
  obtain ⟨z_B, z1_B, z2_B, y0_B, y1_B⟩ := Hand.hz g_B
  obtain ⟨c_B_0, f_B_0, c_B_1, f_B_1⟩ := Hand.hc2 g_B
  obtain ⟨z_C, z1_C, z2_C, y0_C, y1_C⟩ := Hand.hz g_C
  obtain ⟨c_C_0, f_C_0, c_C_1, f_C_1⟩ := Hand.hc2 g_C
  obtain ⟨z_D, z1_D, z2_D, y0_D, y1_D⟩ := Hand.hz g_D
  obtain ⟨c_D_0, f_D_0, c_D_1, f_D_1⟩ := Hand.hc2 g_D
  have zw : w.heap.size ≤ w6.heap.size := hB.size
  have HG := Lib.hid (And.intro g_A (And.intro g_B (And.intro g_C (And.intro g_D (hB)))))
  clear g_A g_B g_C g_D hB
  go_wp2
  obtain ⟨g_A, g_B, g_C, g_D, hB⟩ := HG.out
  go_ret
  exact ⟨rfl, hB⟩
end Go.Proofs.YtofndakpenpkbaaDoor.PA
