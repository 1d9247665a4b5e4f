/- The law's known answers, whatever the world. -/
import Derived.Test.YtghiibdhibcbaaaGreatDoorMG
namespace Go.Proofs.YtghiibdhibcbaaaGreatDoor.PA
open Go Go.RowKit Go.Proofs.YtghiibdhibcbaaaGreatDoorW.PrintWords Go.Proofs.YtghiibdhibcbaaaGreatDoorW.PrintLast Go.Proofs.YtghiibdhibcbaaaGreatDoorW.PrintMore Go.Proofs.YtghiibdhibcbaaaGreatDoor.CS
attribute [local go_sem high] eqA30
set_option linter.unusedSimpArgs false
set_option linter.unusedVariables false
set_option maxHeartbeats 800000 in
set_option maxRecDepth 100000 in
theorem known_of  (w : World) (ht : TabN w)
    (m1 : ∀ w, Calls Tryz.prog 18 #[rate 24000 1001 false, .int .i64 24] w fun e w' => e = .returned (.tuple #[.agg #[.int .i64 1001, .int .i64 1000], .int .i64 0]) ∧ Below w.heap.size w w')
    (m2 : ∀ w, TabN w → Calls Tryz.prog 12 #[.int .i64 1, .agg #[.int .i64 7, .int .i64 2]] w fun e w' => e = .returned (.tuple #[.string (⟨#[48, 48, 58, 48, 48, 58, 48, 51, 44, 53, 48, 48]⟩ : ByteArray), .int .i64 0]) ∧ Below w.heap.size w w')
    (m3 : ∀ w, TabN w → Calls Tryz.prog 19 #[rate 30000 1001 true, .int .i64 1800] w fun e w' => e = .returned (.tuple #[.string (⟨#[48, 48, 58, 48, 49, 58, 48, 48, 59, 48, 50]⟩ : ByteArray), .int .i64 0]) ∧ Below w.heap.size w w')
    (m4 : ∀ w, TabN w → Calls Tryz.prog 20 #[rate 30000 1001 true, .string (⟨#[48, 48, 58, 48, 49, 58, 48, 48, 59, 48, 49]⟩ : ByteArray)] w fun e w' => e = .returned (.tuple #[.int .i64 0, .int .i64 15]) ∧ Below w.heap.size w w') :
    Calls Tryz.prog 5 #[] w fun e w' => e = .returned (.bool true) ∧ Below w.heap.size w w' := by
  have HT0 := Lib.hid ht
  have M1 := Lib.hid m1
  have M2 := Lib.hid m2
  have M3 := Lib.hid m3
  have M4 := Lib.hid m4
  clear m1 m2 m3 m4 ht
  go_enter Tryz.func5, Tryz.ntmps5
  go_wp2_with fail
  with_reducible refine (M1.out _).mono ?_
  rintro e w1 ⟨rfl, hb1⟩
  have h_F : w1.heap[w.heap.size]? = some (.cells #[.int .i64 24000, .int .i64 1001, .bool false] 23 (0, 0)) := by
    refine Hand.kb hb1 ?_; simp (disch := first | omega | (simp only [Hand.sa, Hand.ss, Hand.sd, Hand.sn]; first | done | omega)) only [Hand.q2, Hand.q1, Hand.q5, Hand.q6, Hand.q4, Hand.q3] <;> rfl
  have h_G : w1.heap[w.heap.size + 1]? = some (.cells #[.int .i64 30000, .int .i64 1001, .bool true] 23 (0, 0)) := by
    refine Hand.kb hb1 ?_; simp (disch := first | omega | (simp only [Hand.sa, Hand.ss, Hand.sd, Hand.sn]; first | done | omega)) only [Hand.q2, Hand.q1, Hand.q5, Hand.q6, Hand.q4, Hand.q3] <;> rfl
  have hB' : Below w.heap.size w w1 := Hand.stepB hb1 (by repeat (with_reducible first | apply Below.refl _ _ | apply Below.drew | apply pw_below_drewN | (apply Below.setCell; rotate_left; (dsimp only; omega)) | (apply Below.alloc; rotate_left; (first | omega | (simp only [Hand.sa, Hand.ss, Hand.sd, Hand.sn]; omega))))) (Nat.le_refl _)
  clear hb1
  have g_F := h_F
  have g_G := h_G
  have hB := hB'
  clear hB' h_F h_G
  obtain ⟨z_F, z1_F, z2_F, y0_F, y1_F⟩ := Hand.hz g_F
  obtain ⟨c_F_0, f_F_0, c_F_1, f_F_1, c_F_2, f_F_2⟩ := Hand.hc3 g_F
  obtain ⟨z_G, z1_G, z2_G, y0_G, y1_G⟩ := Hand.hz g_G
  obtain ⟨c_G_0, f_G_0, c_G_1, f_G_1, c_G_2, f_G_2⟩ := Hand.hc3 g_G
  have zw : w.heap.size ≤ w1.heap.size := hB.size
  have HG := Lib.hid (And.intro g_F (And.intro g_G (hB)))
  clear g_F g_G hB
  go_wp2_with fail
  with_reducible refine (M2.out _ (tab_below HT0.out (bw HG.out.2.2))).mono ?_
  rintro e w2 ⟨rfl, hb2⟩
  obtain ⟨g_F, g_G, hB⟩ := HG.out
  have h_F : w2.heap[w.heap.size]? = some (.cells #[.int .i64 24000, .int .i64 1001, .bool false] 23 (0, 0)) := by
    refine Hand.kb hb2 ?_; first | with_reducible exact g_F | (simp (disch := first | omega | (simp only [Hand.sa, Hand.ss, Hand.sd, Hand.sn]; first | done | omega)) only [Hand.q2, Hand.q1, Hand.q5, Hand.q6, Hand.q4, Hand.q3, g_F] <;> rfl)
  have h_G : w2.heap[w.heap.size + 1]? = some (.cells #[.int .i64 30000, .int .i64 1001, .bool true] 23 (0, 0)) := by
    refine Hand.kb hb2 ?_; first | with_reducible exact g_G | (simp (disch := first | omega | (simp only [Hand.sa, Hand.ss, Hand.sd, Hand.sn]; first | done | omega)) only [Hand.q2, Hand.q1, Hand.q5, Hand.q6, Hand.q4, Hand.q3, g_G] <;> rfl)
  have h_R : w2.heap[w1.heap.size]? = some (.cells #[.int .i64 1001, .int .i64 1000] 30 (0, 0)) := by
    refine Hand.kb hb2 ?_; simp (disch := first | omega | (simp only [Hand.sa, Hand.ss, Hand.sd, Hand.sn]; first | done | omega)) only [Hand.q2, Hand.q1, Hand.q5, Hand.q6, Hand.q4, Hand.q3] <;> rfl
  have hB' : Below w.heap.size w w2 := Hand.stepB hb2 (by repeat (with_reducible first | apply hB | apply Below.drew | apply pw_below_drewN | (apply Below.setCell; rotate_left; (dsimp only; omega)) | (apply Below.alloc; rotate_left; (first | omega | (simp only [Hand.sa, Hand.ss, Hand.sd, Hand.sn]; omega))))) (Nat.le_refl _)
  clear HG hB g_F g_G zw z_F z1_F z2_F y0_F y1_F c_F_0 f_F_0 c_F_1 f_F_1 c_F_2 f_F_2 z_G z1_G z2_G y0_G y1_G c_G_0 f_G_0 c_G_1 f_G_1 c_G_2 f_G_2
  clear hb2
  have g_F := h_F
  have g_G := h_G
  have g_R := h_R
  have hB := hB'
  clear hB' h_F h_G h_R
  obtain ⟨z_F, z1_F, z2_F, y0_F, y1_F⟩ := Hand.hz g_F
  obtain ⟨c_F_0, f_F_0, c_F_1, f_F_1, c_F_2, f_F_2⟩ := Hand.hc3 g_F
  obtain ⟨z_G, z1_G, z2_G, y0_G, y1_G⟩ := Hand.hz g_G
  obtain ⟨c_G_0, f_G_0, c_G_1, f_G_1, c_G_2, f_G_2⟩ := Hand.hc3 g_G
  obtain ⟨z_R, z1_R, z2_R, y0_R, y1_R⟩ := Hand.hz g_R
  obtain ⟨c_R_0, f_R_0, c_R_1, f_R_1⟩ := Hand.hc2 g_R
  have zw : w.heap.size ≤ w2.heap.size := hB.size
  have HG := Lib.hid (And.intro g_F (And.intro g_G (And.intro g_R (hB))))
  clear g_F g_G g_R hB
  go_wp2_with fail
  with_reducible refine (M3.out _ (tab_below HT0.out (bw HG.out.2.2.2))).mono ?_
  rintro e w3 ⟨rfl, hb3⟩
  obtain ⟨g_F, g_G, g_R, hB⟩ := HG.out
  have h_F : w3.heap[w.heap.size]? = some (.cells #[.int .i64 24000, .int .i64 1001, .bool false] 23 (0, 0)) := by
    refine Hand.kb hb3 ?_; first | with_reducible exact g_F | (simp (disch := first | omega | (simp only [Hand.sa, Hand.ss, Hand.sd, Hand.sn]; first | done | omega)) only [Hand.q2, Hand.q1, Hand.q5, Hand.q6, Hand.q4, Hand.q3, g_F] <;> rfl)
  have h_G : w3.heap[w.heap.size + 1]? = some (.cells #[.int .i64 30000, .int .i64 1001, .bool true] 23 (0, 0)) := by
    refine Hand.kb hb3 ?_; first | with_reducible exact g_G | (simp (disch := first | omega | (simp only [Hand.sa, Hand.ss, Hand.sd, Hand.sn]; first | done | omega)) only [Hand.q2, Hand.q1, Hand.q5, Hand.q6, Hand.q4, Hand.q3, g_G] <;> rfl)
  have h_R : w3.heap[w1.heap.size]? = some (.cells #[.int .i64 1001, .int .i64 1000] 30 (0, 0)) := by
    refine Hand.kb hb3 ?_; first | with_reducible exact g_R | (simp (disch := first | omega | (simp only [Hand.sa, Hand.ss, Hand.sd, Hand.sn]; first | done | omega)) only [Hand.q2, Hand.q1, Hand.q5, Hand.q6, Hand.q4, Hand.q3, g_R] <;> rfl)
  have hB' : Below w.heap.size w w3 := Hand.stepB hb3 (by repeat (with_reducible first | apply hB | apply Below.drew | apply pw_below_drewN | (apply Below.setCell; rotate_left; (dsimp only; omega)) | (apply Below.alloc; rotate_left; (first | omega | (simp only [Hand.sa, Hand.ss, Hand.sd, Hand.sn]; omega))))) (Nat.le_refl _)
  clear HG hB g_F g_G g_R zw z_F z1_F z2_F y0_F y1_F c_F_0 f_F_0 c_F_1 f_F_1 c_F_2 f_F_2 z_G z1_G z2_G y0_G y1_G c_G_0 f_G_0 c_G_1 f_G_1 c_G_2 f_G_2 z_R z1_R z2_R y0_R y1_R c_R_0 f_R_0 c_R_1 f_R_1
  clear hb3
  have g_F := h_F
  have g_G := h_G
  have g_R := h_R
  have hB := hB'
  clear hB' h_F h_G h_R
  obtain ⟨z_F, z1_F, z2_F, y0_F, y1_F⟩ := Hand.hz g_F
  obtain ⟨c_F_0, f_F_0, c_F_1, f_F_1, c_F_2, f_F_2⟩ := Hand.hc3 g_F
  obtain ⟨z_G, z1_G, z2_G, y0_G, y1_G⟩ := Hand.hz g_G
  obtain ⟨c_G_0, f_G_0, c_G_1, f_G_1, c_G_2, f_G_2⟩ := Hand.hc3 g_G
  obtain ⟨z_R, z1_R, z2_R, y0_R, y1_R⟩ := Hand.hz g_R
  obtain ⟨c_R_0, f_R_0, c_R_1, f_R_1⟩ := Hand.hc2 g_R
  have zw : w.heap.size ≤ w3.heap.size := hB.size
  have HG := Lib.hid (And.intro g_F (And.intro g_G (And.intro g_R (hB))))
  clear g_F g_G g_R hB
  go_wp2_with fail
  with_reducible refine (M4.out _ (tab_below HT0.out (bw HG.out.2.2.2))).mono ?_
  rintro e w4 ⟨rfl, hb4⟩
  obtain ⟨g_F, g_G, g_R, hB⟩ := HG.out
  have h_F : w4.heap[w.heap.size]? = some (.cells #[.int .i64 24000, .int .i64 1001, .bool false] 23 (0, 0)) := by
    refine Hand.kb hb4 ?_; first | with_reducible exact g_F | (simp (disch := first | omega | (simp only [Hand.sa, Hand.ss, Hand.sd, Hand.sn]; first | done | omega)) only [Hand.q2, Hand.q1, Hand.q5, Hand.q6, Hand.q4, Hand.q3, g_F] <;> rfl)
  have h_G : w4.heap[w.heap.size + 1]? = some (.cells #[.int .i64 30000, .int .i64 1001, .bool true] 23 (0, 0)) := by
    refine Hand.kb hb4 ?_; first | with_reducible exact g_G | (simp (disch := first | omega | (simp only [Hand.sa, Hand.ss, Hand.sd, Hand.sn]; first | done | omega)) only [Hand.q2, Hand.q1, Hand.q5, Hand.q6, Hand.q4, Hand.q3, g_G] <;> rfl)
  have h_R : w4.heap[w1.heap.size]? = some (.cells #[.int .i64 1001, .int .i64 1000] 30 (0, 0)) := by
    refine Hand.kb hb4 ?_; first | with_reducible exact g_R | (simp (disch := first | omega | (simp only [Hand.sa, Hand.ss, Hand.sd, Hand.sn]; first | done | omega)) only [Hand.q2, Hand.q1, Hand.q5, Hand.q6, Hand.q4, Hand.q3, g_R] <;> rfl)
  have hB' : Below w.heap.size w w4 := Hand.stepB hb4 (by repeat (with_reducible first | apply hB | apply Below.drew | apply pw_below_drewN | (apply Below.setCell; rotate_left; (dsimp only; omega)) | (apply Below.alloc; rotate_left; (first | omega | (simp only [Hand.sa, Hand.ss, Hand.sd, Hand.sn]; omega))))) (Nat.le_refl _)
  clear HG hB g_F g_G g_R zw z_F z1_F z2_F y0_F y1_F c_F_0 f_F_0 c_F_1 f_F_1 c_F_2 f_F_2 z_G z1_G z2_G y0_G y1_G c_G_0 f_G_0 c_G_1 f_G_1 c_G_2 f_G_2 z_R z1_R z2_R y0_R y1_R c_R_0 f_R_0 c_R_1 f_R_1
  clear hb4
  have g_F := h_F
  have g_G := h_G
  have g_R := h_R
  have hB := hB'
  clear hB' h_F h_G h_R
  obtain ⟨z_F, z1_F, z2_F, y0_F, y1_F⟩ := Hand.hz g_F
  obtain ⟨c_F_0, f_F_0, c_F_1, f_F_1, c_F_2, f_F_2⟩ := Hand.hc3 g_F
  obtain ⟨z_G, z1_G, z2_G, y0_G, y1_G⟩ := Hand.hz g_G
  obtain ⟨c_G_0, f_G_0, c_G_1, f_G_1, c_G_2, f_G_2⟩ := Hand.hc3 g_G
  obtain ⟨z_R, z1_R, z2_R, y0_R, y1_R⟩ := Hand.hz g_R
  obtain ⟨c_R_0, f_R_0, c_R_1, f_R_1⟩ := Hand.hc2 g_R
  have zw : w.heap.size ≤ w4.heap.size := hB.size
  have HG := Lib.hid (And.intro g_F (And.intro g_G (And.intro g_R (hB))))
  clear g_F g_G g_R hB
  go_wp2
  go_ret
  obtain ⟨g_F, g_G, g_R, hB⟩ := HG.out
  exact ⟨by rfl, hB⟩
theorem known_any (w : World) (ht : TabN w) : Calls Tryz.prog 5 #[] w fun e w' => e = .returned (.bool true) ∧ Below w.heap.size w w' :=
  known_of w ht (fun w => by have h := ctime_any 24000 1001 24 false w; rw [known_t] at h; exact h)
    (fun w ht => by have h := clock_any 1 7 2 w (by decide) (by decide) (by decide) (by decide) ht; rw [known_c] at h; exact h)
    (fun w ht => by have h := label_any 30000 1001 1800 true w ht; rw [known_l] at h; exact h)
    (fun w ht => by have h := cnumber_any 30000 1001 true [48, 48, 58, 48, 49, 58, 48, 48, 59, 48, 49] w ht; rw [known_n] at h; exact h)
end Go.Proofs.YtghiibdhibcbaaaGreatDoor.PA
