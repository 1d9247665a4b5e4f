/- CodeChecks: is a rate one, its grid, its text, as code and the reference say it. -/
import Derived.Test.YtghiibdhibcbaaaDoorKn5
import Derived.Test.YtghiibdhibcbaaaDoorRtxU
import Derived.OpenShut
namespace Go.Proofs.YtghiibdhibcbaaaDoor.PA
open Go Go.RowKit Go.Proofs.YtghiibdhibcbaaaDoorW.PrintWords Go.Proofs.YtghiibdhibcbaaaDoorW.PrintLast Go.Proofs.YtghiibdhibcbaaaDoorW.PrintMore Go.Proofs.YtghiibdhibcbaaaDoor.CS
attribute [local go_sem high] eqA26
set_option linter.unusedSimpArgs false
set_option linter.unusedVariables false
set_option maxHeartbeats 800000 in
set_option maxRecDepth 100000 in
theorem checks_of (n d c x y z ze : Int) (dr : Bool) (S : ByteArray) (w : World) (ht : TabN w)
    (m0 : ∀ w, TabN w → Calls Tryd.prog 16 #[] w fun e w' => e = .returned (.bool true) ∧ Below w.heap.size w w')
    (m1 : ∀ w, Calls Tryd.prog 33 #[rate n d dr] w fun e w' => e = .returned (.int .i64 c) ∧ Below w.heap.size w w')
    (m2 : ∀ w, Calls Tryd.prog 34 #[rate n d dr] w fun e w' => e = .returned (.tuple #[.agg #[.int .i64 x, .int .i64 y], .int .i64 z]) ∧ Below w.heap.size w w')
    (m3 : ∀ w, TabN w → Calls Tryd.prog 35 #[rate n d dr] w fun e w' => e = .returned (.tuple #[.string S, .int .i64 ze]) ∧ Below w.heap.size w w')
    (m4 : ∀ w, Calls Tryd.prog 36 #[rate n d dr] w fun e w' => e = .returned (.tuple #[.agg #[.int .i64 x, .int .i64 y], .int .i64 z]) ∧ Below w.heap.size w w')
    (m5 : ∀ w, Calls Tryd.prog 37 #[rate n d dr] w fun e w' => e = .returned (.tuple #[.string S, .int .i64 ze]) ∧ Below w.heap.size w w')
    (m6 : ∀ w, Calls Tryd.prog 25 #[rate n d dr] w fun e w' => e = .returned (.int .i64 c) ∧ Below w.heap.size w w') :
    Calls Tryd.prog 14 #[rate n d dr] w fun e w' => e = .returned (.bool true) ∧ Below w.heap.size w w' := by
  have HT0 := Lib.hid ht
  have M0 := Lib.hid m0
  have M1 := Lib.hid m1
  have M2 := Lib.hid m2
  have M3 := Lib.hid m3
  have M4 := Lib.hid m4
  have M5 := Lib.hid m5
  have M6 := Lib.hid m6
  clear m0 m1 m2 m3 m4 m5 m6 ht
  go_enter Tryd.func14, Tryd.ntmps14
  go_wp2_with fail
  with_reducible refine (M0.out _ (tab_below HT0.out (bw (Below.refl _ _)))).mono ?_
  rintro e w1 ⟨rfl, hb1⟩
  have h_A : w1.heap[w.heap.size]? = some (.cells #[.int .i64 n, .int .i64 d, .bool dr] 24 (0, 0)) := by
    refine Hand.kb hb1 ?_; simp (disch := first | omega | (simp only [Hand.sa, Hand.ss, Hand.sd, Hand.sn]; first | done | omega)) only [Hand.q2, Hand.q1, Hand.q5, Hand.q6, Hand.q4, Hand.q3] <;> rfl
  have hB' : Below w.heap.size w w1 := Hand.stepB hb1 (by repeat (with_reducible first | apply Below.refl _ _ | apply Below.drew | apply pw_below_drewN | (apply Below.setCell; rotate_left; (dsimp only; omega)) | (apply Below.alloc; rotate_left; (first | omega | (simp only [Hand.sa, Hand.ss, Hand.sd, Hand.sn]; omega))))) (Nat.le_refl _)
  clear hb1
  have g_A := h_A
  have hB := hB'
  clear hB' h_A
  obtain ⟨z_A, z1_A, z2_A, y0_A, y1_A⟩ := Hand.hz g_A
  obtain ⟨c_A_0, f_A_0, c_A_1, f_A_1, c_A_2, f_A_2⟩ := Hand.hc3 g_A
  have zw : w.heap.size ≤ w1.heap.size := hB.size
  have HG := Lib.hid (And.intro g_A (hB))
  clear g_A hB
  go_wp2_with fail
  with_reducible refine (M1.out _).mono ?_
  rintro e w2 ⟨rfl, hb2⟩
  obtain ⟨g_A, hB⟩ := HG.out
  have h_A : w2.heap[w.heap.size]? = some (.cells #[.int .i64 n, .int .i64 d, .bool dr] 24 (0, 0)) := by
    refine Hand.kb hb2 ?_; first | with_reducible exact g_A | (simp (disch := first | omega | (simp only [Hand.sa, Hand.ss, Hand.sd, Hand.sn]; first | done | omega)) only [Hand.q2, Hand.q1, Hand.q5, Hand.q6, Hand.q4, Hand.q3, g_A] <;> rfl)
  have hB' : Below w.heap.size w w2 := Hand.stepB hb2 (by repeat (with_reducible first | apply hB | apply Below.drew | apply pw_below_drewN | (apply Below.setCell; rotate_left; (dsimp only; omega)) | (apply Below.alloc; rotate_left; (first | omega | (simp only [Hand.sa, Hand.ss, Hand.sd, Hand.sn]; omega))))) (Nat.le_refl _)
  clear HG hB g_A zw z_A z1_A z2_A y0_A y1_A c_A_0 f_A_0 c_A_1 f_A_1 c_A_2 f_A_2
  clear hb2
  have g_A := h_A
  have hB := hB'
  clear hB' h_A
  obtain ⟨z_A, z1_A, z2_A, y0_A, y1_A⟩ := Hand.hz g_A
  obtain ⟨c_A_0, f_A_0, c_A_1, f_A_1, c_A_2, f_A_2⟩ := Hand.hc3 g_A
  have zw : w.heap.size ≤ w2.heap.size := hB.size
  have HG := Lib.hid (And.intro g_A (hB))
  clear g_A hB
  go_wp2_with fail
  with_reducible refine (M2.out _).mono ?_
  rintro e w3 ⟨rfl, hb3⟩
  obtain ⟨g_A, hB⟩ := HG.out
  have h_A : w3.heap[w.heap.size]? = some (.cells #[.int .i64 n, .int .i64 d, .bool dr] 24 (0, 0)) := by
    refine Hand.kb hb3 ?_; first | with_reducible exact g_A | (simp (disch := first | omega | (simp only [Hand.sa, Hand.ss, Hand.sd, Hand.sn]; first | done | omega)) only [Hand.q2, Hand.q1, Hand.q5, Hand.q6, Hand.q4, Hand.q3, g_A] <;> rfl)
  have hB' : Below w.heap.size w w3 := Hand.stepB hb3 (by repeat (with_reducible first | apply hB | apply Below.drew | apply pw_below_drewN | (apply Below.setCell; rotate_left; (dsimp only; omega)) | (apply Below.alloc; rotate_left; (first | omega | (simp only [Hand.sa, Hand.ss, Hand.sd, Hand.sn]; omega))))) (Nat.le_refl _)
  clear HG hB g_A zw z_A z1_A z2_A y0_A y1_A c_A_0 f_A_0 c_A_1 f_A_1 c_A_2 f_A_2
  clear hb3
  have g_A := h_A
  have hB := hB'
  clear hB' h_A
  obtain ⟨z_A, z1_A, z2_A, y0_A, y1_A⟩ := Hand.hz g_A
  obtain ⟨c_A_0, f_A_0, c_A_1, f_A_1, c_A_2, f_A_2⟩ := Hand.hc3 g_A
  have zw : w.heap.size ≤ w3.heap.size := hB.size
  have HG := Lib.hid (And.intro g_A (hB))
  clear g_A hB
  go_wp2_with fail
  with_reducible refine (M3.out _ (tab_below HT0.out (bw HG.out.2))).mono ?_
  rintro e w4 ⟨rfl, hb4⟩
  obtain ⟨g_A, hB⟩ := HG.out
  have h_A : w4.heap[w.heap.size]? = some (.cells #[.int .i64 n, .int .i64 d, .bool dr] 24 (0, 0)) := by
    refine Hand.kb hb4 ?_; first | with_reducible exact g_A | (simp (disch := first | omega | (simp only [Hand.sa, Hand.ss, Hand.sd, Hand.sn]; first | done | omega)) only [Hand.q2, Hand.q1, Hand.q5, Hand.q6, Hand.q4, Hand.q3, g_A] <;> rfl)
  have h_X : w4.heap[w3.heap.size]? = some (.cells #[.int .i64 x, .int .i64 y] 26 (0, 0)) := by
    refine Hand.kb hb4 ?_; simp (disch := first | omega | (simp only [Hand.sa, Hand.ss, Hand.sd, Hand.sn]; first | done | omega)) only [Hand.q2, Hand.q1, Hand.q5, Hand.q6, Hand.q4, Hand.q3] <;> rfl
  have hB' : Below w.heap.size w w4 := Hand.stepB hb4 (by repeat (with_reducible first | apply hB | apply Below.drew | apply pw_below_drewN | (apply Below.setCell; rotate_left; (dsimp only; omega)) | (apply Below.alloc; rotate_left; (first | omega | (simp only [Hand.sa, Hand.ss, Hand.sd, Hand.sn]; omega))))) (Nat.le_refl _)
  clear HG hB g_A zw z_A z1_A z2_A y0_A y1_A c_A_0 f_A_0 c_A_1 f_A_1 c_A_2 f_A_2
  clear hb4
  have g_A := h_A
  have g_X := h_X
  have hB := hB'
  clear hB' h_A h_X
  obtain ⟨z_A, z1_A, z2_A, y0_A, y1_A⟩ := Hand.hz g_A
  obtain ⟨c_A_0, f_A_0, c_A_1, f_A_1, c_A_2, f_A_2⟩ := Hand.hc3 g_A
  obtain ⟨z_X, z1_X, z2_X, y0_X, y1_X⟩ := Hand.hz g_X
  obtain ⟨c_X_0, f_X_0, c_X_1, f_X_1⟩ := Hand.hc2 g_X
  have zw : w.heap.size ≤ w4.heap.size := hB.size
  have HG := Lib.hid (And.intro g_A (And.intro g_X (hB)))
  clear g_A g_X hB
  go_wp2_with fail
  with_reducible refine (M4.out _).mono ?_
  rintro e w5 ⟨rfl, hb5⟩
  obtain ⟨g_A, g_X, hB⟩ := HG.out
  have h_A : w5.heap[w.heap.size]? = some (.cells #[.int .i64 n, .int .i64 d, .bool dr] 24 (0, 0)) := by
    refine Hand.kb hb5 ?_; first | with_reducible exact g_A | (simp (disch := first | omega | (simp only [Hand.sa, Hand.ss, Hand.sd, Hand.sn]; first | done | omega)) only [Hand.q2, Hand.q1, Hand.q5, Hand.q6, Hand.q4, Hand.q3, g_A] <;> rfl)
  have h_X : w5.heap[w3.heap.size]? = some (.cells #[.int .i64 x, .int .i64 y] 26 (0, 0)) := by
    refine Hand.kb hb5 ?_; first | with_reducible exact g_X | (simp (disch := first | omega | (simp only [Hand.sa, Hand.ss, Hand.sd, Hand.sn]; first | done | omega)) only [Hand.q2, Hand.q1, Hand.q5, Hand.q6, Hand.q4, Hand.q3, g_X] <;> rfl)
  have hB' : Below w.heap.size w w5 := Hand.stepB hb5 (by repeat (with_reducible first | apply hB | apply Below.drew | apply pw_below_drewN | (apply Below.setCell; rotate_left; (dsimp only; omega)) | (apply Below.alloc; rotate_left; (first | omega | (simp only [Hand.sa, Hand.ss, Hand.sd, Hand.sn]; omega))))) (Nat.le_refl _)
  clear HG hB g_A g_X zw z_A z1_A z2_A y0_A y1_A c_A_0 f_A_0 c_A_1 f_A_1 c_A_2 f_A_2 z_X z1_X z2_X y0_X y1_X c_X_0 f_X_0 c_X_1 f_X_1
  clear hb5
  have g_A := h_A
  have g_X := h_X
  have hB := hB'
  clear hB' h_A h_X
  obtain ⟨z_A, z1_A, z2_A, y0_A, y1_A⟩ := Hand.hz g_A
  obtain ⟨c_A_0, f_A_0, c_A_1, f_A_1, c_A_2, f_A_2⟩ := Hand.hc3 g_A
  obtain ⟨z_X, z1_X, z2_X, y0_X, y1_X⟩ := Hand.hz g_X
  obtain ⟨c_X_0, f_X_0, c_X_1, f_X_1⟩ := Hand.hc2 g_X
  have zw : w.heap.size ≤ w5.heap.size := hB.size
  have HG := Lib.hid (And.intro g_A (And.intro g_X (hB)))
  clear g_A g_X hB
  go_wp2_with fail
  with_reducible refine (M5.out _).mono ?_
  rintro e w6 ⟨rfl, hb6⟩
  obtain ⟨g_A, g_X, hB⟩ := HG.out
  have h_A : w6.heap[w.heap.size]? = some (.cells #[.int .i64 n, .int .i64 d, .bool dr] 24 (0, 0)) := by
    refine Hand.kb hb6 ?_; first | with_reducible exact g_A | (simp (disch := first | omega | (simp only [Hand.sa, Hand.ss, Hand.sd, Hand.sn]; first | done | omega)) only [Hand.q2, Hand.q1, Hand.q5, Hand.q6, Hand.q4, Hand.q3, g_A] <;> rfl)
  have h_X : w6.heap[w3.heap.size]? = some (.cells #[.int .i64 x, .int .i64 y] 26 (0, 0)) := by
    refine Hand.kb hb6 ?_; first | with_reducible exact g_X | (simp (disch := first | omega | (simp only [Hand.sa, Hand.ss, Hand.sd, Hand.sn]; first | done | omega)) only [Hand.q2, Hand.q1, Hand.q5, Hand.q6, Hand.q4, Hand.q3, g_X] <;> rfl)
  have h_Y : w6.heap[w5.heap.size]? = some (.cells #[.int .i64 x, .int .i64 y] 26 (0, 0)) := by
    refine Hand.kb hb6 ?_; simp (disch := first | omega | (simp only [Hand.sa, Hand.ss, Hand.sd, Hand.sn]; first | done | omega)) only [Hand.q2, Hand.q1, Hand.q5, Hand.q6, Hand.q4, Hand.q3] <;> rfl
  have hB' : Below w.heap.size w w6 := Hand.stepB hb6 (by repeat (with_reducible first | apply hB | apply Below.drew | apply pw_below_drewN | (apply Below.setCell; rotate_left; (dsimp only; omega)) | (apply Below.alloc; rotate_left; (first | omega | (simp only [Hand.sa, Hand.ss, Hand.sd, Hand.sn]; omega))))) (Nat.le_refl _)
  clear HG hB g_A g_X zw z_A z1_A z2_A y0_A y1_A c_A_0 f_A_0 c_A_1 f_A_1 c_A_2 f_A_2 z_X z1_X z2_X y0_X y1_X c_X_0 f_X_0 c_X_1 f_X_1
  clear hb6
  have g_A := h_A
  have g_X := h_X
  have g_Y := h_Y
  have hB := hB'
  clear hB' h_A h_X h_Y
  obtain ⟨z_A, z1_A, z2_A, y0_A, y1_A⟩ := Hand.hz g_A
  obtain ⟨c_A_0, f_A_0, c_A_1, f_A_1, c_A_2, f_A_2⟩ := Hand.hc3 g_A
  obtain ⟨z_X, z1_X, z2_X, y0_X, y1_X⟩ := Hand.hz g_X
  obtain ⟨c_X_0, f_X_0, c_X_1, f_X_1⟩ := Hand.hc2 g_X
  obtain ⟨z_Y, z1_Y, z2_Y, y0_Y, y1_Y⟩ := Hand.hz g_Y
  obtain ⟨c_Y_0, f_Y_0, c_Y_1, f_Y_1⟩ := Hand.hc2 g_Y
  have zw : w.heap.size ≤ w6.heap.size := hB.size
  have HG := Lib.hid (And.intro g_A (And.intro g_X (And.intro g_Y (hB))))
  clear g_A g_X g_Y hB
  go_wp2_with fail
  with_reducible refine (M6.out _).mono ?_
  rintro e w7 ⟨rfl, hb7⟩
  obtain ⟨g_A, g_X, g_Y, hB⟩ := HG.out
  have h_A : w7.heap[w.heap.size]? = some (.cells #[.int .i64 n, .int .i64 d, .bool dr] 24 (0, 0)) := by
    refine Hand.kb hb7 ?_; first | with_reducible exact g_A | (simp (disch := first | omega | (simp only [Hand.sa, Hand.ss, Hand.sd, Hand.sn]; first | done | omega)) only [Hand.q2, Hand.q1, Hand.q5, Hand.q6, Hand.q4, Hand.q3, g_A] <;> rfl)
  have h_X : w7.heap[w3.heap.size]? = some (.cells #[.int .i64 x, .int .i64 y] 26 (0, 0)) := by
    refine Hand.kb hb7 ?_; first | with_reducible exact g_X | (simp (disch := first | omega | (simp only [Hand.sa, Hand.ss, Hand.sd, Hand.sn]; first | done | omega)) only [Hand.q2, Hand.q1, Hand.q5, Hand.q6, Hand.q4, Hand.q3, g_X] <;> rfl)
  have h_Y : w7.heap[w5.heap.size]? = some (.cells #[.int .i64 x, .int .i64 y] 26 (0, 0)) := by
    refine Hand.kb hb7 ?_; first | with_reducible exact g_Y | (simp (disch := first | omega | (simp only [Hand.sa, Hand.ss, Hand.sd, Hand.sn]; first | done | omega)) only [Hand.q2, Hand.q1, Hand.q5, Hand.q6, Hand.q4, Hand.q3, g_Y] <;> rfl)
  have hB' : Below w.heap.size w w7 := Hand.stepB hb7 (by repeat (with_reducible first | apply hB | apply Below.drew | apply pw_below_drewN | (apply Below.setCell; rotate_left; (dsimp only; omega)) | (apply Below.alloc; rotate_left; (first | omega | (simp only [Hand.sa, Hand.ss, Hand.sd, Hand.sn]; omega))))) (Nat.le_refl _)
  clear HG hB g_A g_X g_Y zw z_A z1_A z2_A y0_A y1_A c_A_0 f_A_0 c_A_1 f_A_1 c_A_2 f_A_2 z_X z1_X z2_X y0_X y1_X c_X_0 f_X_0 c_X_1 f_X_1 z_Y z1_Y z2_Y y0_Y y1_Y c_Y_0 f_Y_0 c_Y_1 f_Y_1
  clear hb7
  have g_A := h_A
  have g_X := h_X
  have g_Y := h_Y
  have hB := hB'
  clear hB' h_A h_X h_Y
  obtain ⟨z_A, z1_A, z2_A, y0_A, y1_A⟩ := Hand.hz g_A
  obtain ⟨c_A_0, f_A_0, c_A_1, f_A_1, c_A_2, f_A_2⟩ := Hand.hc3 g_A
  obtain ⟨z_X, z1_X, z2_X, y0_X, y1_X⟩ := Hand.hz g_X
  obtain ⟨c_X_0, f_X_0, c_X_1, f_X_1⟩ := Hand.hc2 g_X
  obtain ⟨z_Y, z1_Y, z2_Y, y0_Y, y1_Y⟩ := Hand.hz g_Y
  obtain ⟨c_Y_0, f_Y_0, c_Y_1, f_Y_1⟩ := Hand.hc2 g_Y
  have zw : w.heap.size ≤ w7.heap.size := hB.size
  have HG := Lib.hid (And.intro g_A (And.intro g_X (And.intro g_Y (hB))))
  clear g_A g_X g_Y hB
  go_wp2
  go_ret
  obtain ⟨g_A, g_X, g_Y, hB⟩ := HG.out
  exact ⟨by first | rfl | (simp; done) | (simp; decide) | (simp; rfl) | (simp [Lib.toList_data]; done), by first | exact hB | exact bw hB⟩
theorem checks5_true (n d : Int) (dr : Bool) (hn : (Lit.int .i64 n).wf = true) (hd : (Lit.int .i64 d).wf = true) (w : World) (ht : TabN w) :
    Calls Tryd.prog 14 #[rate n d dr] w fun e w' => e = .returned (.bool true) ∧ Below w.heap.size w w' :=
  checks_of n d _ _ _ _ _ dr _ w ht known_any (check_any n d dr) (grid_any n d dr) (ctext_any n d dr) (rgrid_any n d dr) (rtext_any n d dr) (rcheck_any n d dr)
end Go.Proofs.YtghiibdhibcbaaaDoor.PA
