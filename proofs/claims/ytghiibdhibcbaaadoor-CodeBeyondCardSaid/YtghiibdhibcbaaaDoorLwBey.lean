/- CodeBeyond: the last frame, the first, those beyond. -/
import Derived.Test.YtghiibdhibcbaaaDoorKn5
import Derived.Test.YtghiibdhibcbaaaDoorRfA
import Derived.OpenShut
namespace Go.Proofs.YtghiibdhibcbaaaDoor.PA
open Go Go.RowKit Go.Proofs.YtghiibdhibcbaaaDoorW.PrintWords Go.Proofs.YtghiibdhibcbaaaDoorW.PrintLast Go.Proofs.YtghiibdhibcbaaaDoorW.PrintMore Go.Proofs.YtghiibdhibcbaaaDoor.CS
attribute [local go_sem high] eqA26
set_option linter.unusedSimpArgs false
set_option linter.unusedVariables false
set_option maxHeartbeats 800000 in
set_option maxRecDepth 100000 in
theorem beyond_no (n d c : Int) (dr : Bool) (hc : (c == 0) = false) (w : World) (ht : TabN w)
    (m0 : ∀ w, TabN w → Calls Tryd.prog 16 #[] w fun e w' => e = .returned (.bool true) ∧ Below w.heap.size w w')
    (m1 : ∀ w, Calls Tryd.prog 25 #[rate n d dr] w fun e w' => e = .returned (.int .i64 c) ∧ Below w.heap.size w w') :
    Calls Tryd.prog 13 #[rate n d dr] w fun e w' => e = .returned (.bool true) ∧ Below w.heap.size w w' := by
  have HT0 := Lib.hid ht
  have M0 := Lib.hid m0
  have M1 := Lib.hid m1
  clear m0 m1 ht
  go_enter Tryd.func13, Tryd.ntmps13
  go_wp2_with fail
  with_reducible refine (M0.out _ (tab_below HT0.out (bw (Below.refl _ _)))).mono ?_
  rintro e w1 ⟨rfl, hb1⟩
  have h_A : w1.heap[w.heap.size]? = some (.cells #[.int .i64 n, .int .i64 d, .bool dr] 24 (0, 0)) := by
    refine Hand.kb hb1 ?_; simp (disch := first | omega | (simp only [Hand.sa, Hand.ss, Hand.sd, Hand.sn]; first | done | omega)) only [Hand.q2, Hand.q1, Hand.q5, Hand.q6, Hand.q4, Hand.q3] <;> rfl
  have hB' : Below w.heap.size w w1 := Hand.stepB hb1 (by repeat (with_reducible first | apply Below.refl _ _ | apply Below.drew | apply pw_below_drewN | (apply Below.setCell; rotate_left; (dsimp only; omega)) | (apply Below.alloc; rotate_left; (first | omega | (simp only [Hand.sa, Hand.ss, Hand.sd, Hand.sn]; omega))))) (Nat.le_refl _)
  clear hb1
  have g_A := h_A
  have hB := hB'
  clear hB' h_A
  obtain ⟨z_A, z1_A, z2_A, y0_A, y1_A⟩ := Hand.hz g_A
  obtain ⟨c_A_0, f_A_0, c_A_1, f_A_1, c_A_2, f_A_2⟩ := Hand.hc3 g_A
  have zw : w.heap.size ≤ w1.heap.size := hB.size
  have HG := Lib.hid (And.intro g_A (hB))
  clear g_A hB
  go_wp2_with fail
  with_reducible refine (M1.out _).mono ?_
  rintro e w2 ⟨rfl, hb2⟩
  obtain ⟨g_A, hB⟩ := HG.out
  have h_A : w2.heap[w.heap.size]? = some (.cells #[.int .i64 n, .int .i64 d, .bool dr] 24 (0, 0)) := by
    refine Hand.kb hb2 ?_; first | with_reducible exact g_A | (simp (disch := first | omega | (simp only [Hand.sa, Hand.ss, Hand.sd, Hand.sn]; first | done | omega)) only [Hand.q2, Hand.q1, Hand.q5, Hand.q6, Hand.q4, Hand.q3, g_A] <;> rfl)
  have hB' : Below w.heap.size w w2 := Hand.stepB hb2 (by repeat (with_reducible first | apply hB | apply Below.drew | apply pw_below_drewN | (apply Below.setCell; rotate_left; (dsimp only; omega)) | (apply Below.alloc; rotate_left; (first | omega | (simp only [Hand.sa, Hand.ss, Hand.sd, Hand.sn]; omega))))) (Nat.le_refl _)
  clear HG hB g_A zw z_A z1_A z2_A y0_A y1_A c_A_0 f_A_0 c_A_1 f_A_1 c_A_2 f_A_2
  clear hb2
  have g_A := h_A
  have hB := hB'
  clear hB' h_A
  obtain ⟨z_A, z1_A, z2_A, y0_A, y1_A⟩ := Hand.hz g_A
  obtain ⟨c_A_0, f_A_0, c_A_1, f_A_1, c_A_2, f_A_2⟩ := Hand.hc3 g_A
  have zw : w.heap.size ≤ w2.heap.size := hB.size
  have HG := Lib.hid (And.intro g_A (hB))
  clear g_A hB
  go_wp2
  go_ret
  obtain ⟨g_A, hB⟩ := HG.out
  exact ⟨by first | rfl | (simp; done) | (simp; decide) | (simp; rfl) | (simp [Lib.toList_data]; done), by first | exact hB | exact bw hB⟩
set_option maxHeartbeats 2000000 in
set_option maxRecDepth 100000 in
theorem beyond_false (n d k x xy x2 x2y x3 x3y : Int) (S1 S2 : ByteArray) (n1 : 1 ≤ n) (n2 : n ≤ 240000) (d1 : 1 ≤ d) (d2 : d ≤ 1001) (k0 : 0 ≤ k) (k1 : k ≤ 100000000) (hf : (n + d - 1) / d ≤ 100) (w : World) (ht : TabN w)
    (m0 : ∀ w, TabN w → Calls Tryd.prog 16 #[] w fun e w' => e = .returned (.bool true) ∧ Below w.heap.size w w')
    (m1 : ∀ w, Calls Tryd.prog 25 #[rate n d false] w fun e w' => e = .returned (.int .i64 0) ∧ Below w.heap.size w w')
    (m2 : ∀ w, Calls Tryd.prog 30 #[rate n d false, .agg #[.int .i64 360000, .int .i64 1], .int .i64 1] w fun e w' => e = .returned (.tuple #[.int .i64 k, .int .i64 0]) ∧ Below w.heap.size w w')
    (m3 : ∀ w, Calls Tryd.prog 17 #[rate n d false, .int .i64 k] w fun e w' => e = .returned (.tuple #[.agg #[.int .i64 x, .int .i64 xy], .int .i64 0]) ∧ Below w.heap.size w w')
    (m4 : ∀ w, Calls Tryd.prog 17 #[rate n d false, .int .i64 (k + 1)] w fun e w' => e = .returned (.tuple #[.agg #[.int .i64 x2, .int .i64 x2y], .int .i64 31]) ∧ Below w.heap.size w w')
    (m5 : ∀ w, TabN w → Calls Tryd.prog 18 #[rate n d false, .int .i64 k] w fun e w' => e = .returned (.tuple #[.string S1, .int .i64 0]) ∧ Below w.heap.size w w')
    (m6 : ∀ w, TabN w → Calls Tryd.prog 18 #[rate n d false, .int .i64 (k + 1)] w fun e w' => e = .returned (.tuple #[.string S2, .int .i64 31]) ∧ Below w.heap.size w w')
    (m7 : ∀ w, Calls Tryd.prog 17 #[rate n d false, .int .i64 (-1)] w fun e w' => e = .returned (.tuple #[.agg #[.int .i64 x3, .int .i64 x3y], .int .i64 31]) ∧ Below w.heap.size w w')
    (m8 : ∀ w, TabN w → Calls Tryd.prog 18 #[rate n d false, .int .i64 0] w fun e w' => e = .returned (.tuple #[.string ⟨#[48, 48, 58, 48, 48, 58, 48, 48, 58, 48, 48]⟩, .int .i64 0]) ∧ Below w.heap.size w w') :
    Calls Tryd.prog 13 #[rate n d false] w fun e w' => e = .returned (.bool true) ∧ Below w.heap.size w w' := by
  have hd2 : ¬ d = 0 := by omega
  have HT0 := Lib.hid ht
  have M0 := Lib.hid m0
  have M1 := Lib.hid m1
  have M2 := Lib.hid m2
  have M3 := Lib.hid m3
  have M4 := Lib.hid m4
  have M5 := Lib.hid m5
  have M6 := Lib.hid m6
  have M7 := Lib.hid m7
  have M8 := Lib.hid m8
  clear m0 m1 m2 m3 m4 m5 m6 m7 m8 ht
  go_enter Tryd.func13, Tryd.ntmps13
  go_wp2_with fail
  with_reducible refine (M0.out _ (tab_below HT0.out (bw (Below.refl _ _)))).mono ?_
  rintro e w1 ⟨rfl, hb1⟩
  have h_A : w1.heap[w.heap.size]? = some (.cells #[.int .i64 n, .int .i64 d, .bool false] 24 (0, 0)) := by
    refine Hand.kb hb1 ?_; simp (disch := first | omega | (simp only [Hand.sa, Hand.ss, Hand.sd, Hand.sn]; first | done | omega)) only [Hand.q2, Hand.q1, Hand.q5, Hand.q6, Hand.q4, Hand.q3] <;> rfl
  have hB' : Below w.heap.size w w1 := Hand.stepB hb1 (by repeat (with_reducible first | apply Below.refl _ _ | apply Below.drew | apply pw_below_drewN | (apply Below.setCell; rotate_left; (dsimp only; omega)) | (apply Below.alloc; rotate_left; (first | omega | (simp only [Hand.sa, Hand.ss, Hand.sd, Hand.sn]; omega))))) (Nat.le_refl _)
  clear hb1
  have g_A := h_A
  have hB := hB'
  clear hB' h_A
  obtain ⟨z_A, z1_A, z2_A, y0_A, y1_A⟩ := Hand.hz g_A
  obtain ⟨c_A_0, f_A_0, c_A_1, f_A_1, c_A_2, f_A_2⟩ := Hand.hc3 g_A
  have zw : w.heap.size ≤ w1.heap.size := hB.size
  have HG := Lib.hid (And.intro g_A (hB))
  clear g_A hB
  go_wp2_with fail
  with_reducible refine (M1.out _).mono ?_
  rintro e w2 ⟨rfl, hb2⟩
  obtain ⟨g_A, hB⟩ := HG.out
  have h_A : w2.heap[w.heap.size]? = some (.cells #[.int .i64 n, .int .i64 d, .bool false] 24 (0, 0)) := by
    refine Hand.kb hb2 ?_; first | with_reducible exact g_A | (simp (disch := first | omega | (simp only [Hand.sa, Hand.ss, Hand.sd, Hand.sn]; first | done | omega)) only [Hand.q2, Hand.q1, Hand.q5, Hand.q6, Hand.q4, Hand.q3, g_A] <;> rfl)
  have hB' : Below w.heap.size w w2 := Hand.stepB hb2 (by repeat (with_reducible first | apply hB | apply Below.drew | apply pw_below_drewN | (apply Below.setCell; rotate_left; (dsimp only; omega)) | (apply Below.alloc; rotate_left; (first | omega | (simp only [Hand.sa, Hand.ss, Hand.sd, Hand.sn]; omega))))) (Nat.le_refl _)
  clear HG hB g_A zw z_A z1_A z2_A y0_A y1_A c_A_0 f_A_0 c_A_1 f_A_1 c_A_2 f_A_2
  clear hb2
  have g_A := h_A
  have hB := hB'
  clear hB' h_A
  obtain ⟨z_A, z1_A, z2_A, y0_A, y1_A⟩ := Hand.hz g_A
  obtain ⟨c_A_0, f_A_0, c_A_1, f_A_1, c_A_2, f_A_2⟩ := Hand.hc3 g_A
  have zw : w.heap.size ≤ w2.heap.size := hB.size
  have HG := Lib.hid (And.intro g_A (hB))
  clear g_A hB
  go_wp2_with fail
  with_reducible refine (M2.out _).mono ?_
  rintro e w3 ⟨rfl, hb3⟩
  obtain ⟨g_A, hB⟩ := HG.out
  have h_A : w3.heap[w.heap.size]? = some (.cells #[.int .i64 n, .int .i64 d, .bool false] 24 (0, 0)) := by
    refine Hand.kb hb3 ?_; first | with_reducible exact g_A | (simp (disch := first | omega | (simp only [Hand.sa, Hand.ss, Hand.sd, Hand.sn]; first | done | omega)) only [Hand.q2, Hand.q1, Hand.q5, Hand.q6, Hand.q4, Hand.q3, g_A] <;> rfl)
  have hB' : Below w.heap.size w w3 := Hand.stepB hb3 (by repeat (with_reducible first | apply hB | apply Below.drew | apply pw_below_drewN | (apply Below.setCell; rotate_left; (dsimp only; omega)) | (apply Below.alloc; rotate_left; (first | omega | (simp only [Hand.sa, Hand.ss, Hand.sd, Hand.sn]; omega))))) (Nat.le_refl _)
  clear HG hB g_A zw z_A z1_A z2_A y0_A y1_A c_A_0 f_A_0 c_A_1 f_A_1 c_A_2 f_A_2
  clear hb3
  have g_A := h_A
  have hB := hB'
  clear hB' h_A
  obtain ⟨z_A, z1_A, z2_A, y0_A, y1_A⟩ := Hand.hz g_A
  obtain ⟨c_A_0, f_A_0, c_A_1, f_A_1, c_A_2, f_A_2⟩ := Hand.hc3 g_A
  have zw : w.heap.size ≤ w3.heap.size := hB.size
  have HG := Lib.hid (And.intro g_A (hB))
  clear g_A hB
  go_wp2_with fail
  with_reducible refine (M3.out _).mono ?_
  rintro e w4 ⟨rfl, hb4⟩
  obtain ⟨g_A, hB⟩ := HG.out
  have h_A : w4.heap[w.heap.size]? = some (.cells #[.int .i64 n, .int .i64 d, .bool false] 24 (0, 0)) := by
    refine Hand.kb hb4 ?_; first | with_reducible exact g_A | (simp (disch := first | omega | (simp only [Hand.sa, Hand.ss, Hand.sd, Hand.sn]; first | done | omega)) only [Hand.q2, Hand.q1, Hand.q5, Hand.q6, Hand.q4, Hand.q3, g_A] <;> rfl)
  have hB' : Below w.heap.size w w4 := Hand.stepB hb4 (by repeat (with_reducible first | apply hB | apply Below.drew | apply pw_below_drewN | (apply Below.setCell; rotate_left; (dsimp only; omega)) | (apply Below.alloc; rotate_left; (first | omega | (simp only [Hand.sa, Hand.ss, Hand.sd, Hand.sn]; omega))))) (Nat.le_refl _)
  clear HG hB g_A zw z_A z1_A z2_A y0_A y1_A c_A_0 f_A_0 c_A_1 f_A_1 c_A_2 f_A_2
  clear hb4
  have g_A := h_A
  have hB := hB'
  clear hB' h_A
  obtain ⟨z_A, z1_A, z2_A, y0_A, y1_A⟩ := Hand.hz g_A
  obtain ⟨c_A_0, f_A_0, c_A_1, f_A_1, c_A_2, f_A_2⟩ := Hand.hc3 g_A
  have zw : w.heap.size ≤ w4.heap.size := hB.size
  have HG := Lib.hid (And.intro g_A (hB))
  clear g_A hB
  go_wp2_with fail
  with_reducible refine (M4.out _).mono ?_
  rintro e w5 ⟨rfl, hb5⟩
  obtain ⟨g_A, hB⟩ := HG.out
  have h_A : w5.heap[w.heap.size]? = some (.cells #[.int .i64 n, .int .i64 d, .bool false] 24 (0, 0)) := by
    refine Hand.kb hb5 ?_; first | with_reducible exact g_A | (simp (disch := first | omega | (simp only [Hand.sa, Hand.ss, Hand.sd, Hand.sn]; first | done | omega)) only [Hand.q2, Hand.q1, Hand.q5, Hand.q6, Hand.q4, Hand.q3, g_A] <;> rfl)
  have h_X : w5.heap[w4.heap.size]? = some (.cells #[.int .i64 x, .int .i64 xy] 26 (0, 0)) := by
    refine Hand.kb hb5 ?_; simp (disch := first | omega | (simp only [Hand.sa, Hand.ss, Hand.sd, Hand.sn]; first | done | omega)) only [Hand.q2, Hand.q1, Hand.q5, Hand.q6, Hand.q4, Hand.q3] <;> rfl
  have hB' : Below w.heap.size w w5 := Hand.stepB hb5 (by repeat (with_reducible first | apply hB | apply Below.drew | apply pw_below_drewN | (apply Below.setCell; rotate_left; (dsimp only; omega)) | (apply Below.alloc; rotate_left; (first | omega | (simp only [Hand.sa, Hand.ss, Hand.sd, Hand.sn]; omega))))) (Nat.le_refl _)
  clear HG hB g_A zw z_A z1_A z2_A y0_A y1_A c_A_0 f_A_0 c_A_1 f_A_1 c_A_2 f_A_2
  clear hb5
  have g_A := h_A
  have g_X := h_X
  have hB := hB'
  clear hB' h_A h_X
  obtain ⟨z_A, z1_A, z2_A, y0_A, y1_A⟩ := Hand.hz g_A
  obtain ⟨c_A_0, f_A_0, c_A_1, f_A_1, c_A_2, f_A_2⟩ := Hand.hc3 g_A
  obtain ⟨z_X, z1_X, z2_X, y0_X, y1_X⟩ := Hand.hz g_X
  obtain ⟨c_X_0, f_X_0, c_X_1, f_X_1⟩ := Hand.hc2 g_X
  have zw : w.heap.size ≤ w5.heap.size := hB.size
  have HG := Lib.hid (And.intro g_A (And.intro g_X (hB)))
  clear g_A g_X hB
  go_wp2_with fail
  with_reducible refine (M5.out _ (tab_below HT0.out (bw HG.out.2.2))).mono ?_
  rintro e w6 ⟨rfl, hb6⟩
  obtain ⟨g_A, g_X, hB⟩ := HG.out
  have h_A : w6.heap[w.heap.size]? = some (.cells #[.int .i64 n, .int .i64 d, .bool false] 24 (0, 0)) := by
    refine Hand.kb hb6 ?_; first | with_reducible exact g_A | (simp (disch := first | omega | (simp only [Hand.sa, Hand.ss, Hand.sd, Hand.sn]; first | done | omega)) only [Hand.q2, Hand.q1, Hand.q5, Hand.q6, Hand.q4, Hand.q3, g_A] <;> rfl)
  have h_X : w6.heap[w4.heap.size]? = some (.cells #[.int .i64 x, .int .i64 xy] 26 (0, 0)) := by
    refine Hand.kb hb6 ?_; first | with_reducible exact g_X | (simp (disch := first | omega | (simp only [Hand.sa, Hand.ss, Hand.sd, Hand.sn]; first | done | omega)) only [Hand.q2, Hand.q1, Hand.q5, Hand.q6, Hand.q4, Hand.q3, g_X] <;> rfl)
  have h_Y : w6.heap[w5.heap.size]? = some (.cells #[.int .i64 x2, .int .i64 x2y] 26 (0, 0)) := by
    refine Hand.kb hb6 ?_; simp (disch := first | omega | (simp only [Hand.sa, Hand.ss, Hand.sd, Hand.sn]; first | done | omega)) only [Hand.q2, Hand.q1, Hand.q5, Hand.q6, Hand.q4, Hand.q3] <;> rfl
  have hB' : Below w.heap.size w w6 := Hand.stepB hb6 (by repeat (with_reducible first | apply hB | apply Below.drew | apply pw_below_drewN | (apply Below.setCell; rotate_left; (dsimp only; omega)) | (apply Below.alloc; rotate_left; (first | omega | (simp only [Hand.sa, Hand.ss, Hand.sd, Hand.sn]; omega))))) (Nat.le_refl _)
  clear HG hB g_A g_X zw z_A z1_A z2_A y0_A y1_A c_A_0 f_A_0 c_A_1 f_A_1 c_A_2 f_A_2 z_X z1_X z2_X y0_X y1_X c_X_0 f_X_0 c_X_1 f_X_1
  clear hb6
  have g_A := h_A
  have g_X := h_X
  have g_Y := h_Y
  have hB := hB'
  clear hB' h_A h_X h_Y
  obtain ⟨z_A, z1_A, z2_A, y0_A, y1_A⟩ := Hand.hz g_A
  obtain ⟨c_A_0, f_A_0, c_A_1, f_A_1, c_A_2, f_A_2⟩ := Hand.hc3 g_A
  obtain ⟨z_X, z1_X, z2_X, y0_X, y1_X⟩ := Hand.hz g_X
  obtain ⟨c_X_0, f_X_0, c_X_1, f_X_1⟩ := Hand.hc2 g_X
  obtain ⟨z_Y, z1_Y, z2_Y, y0_Y, y1_Y⟩ := Hand.hz g_Y
  obtain ⟨c_Y_0, f_Y_0, c_Y_1, f_Y_1⟩ := Hand.hc2 g_Y
  have zw : w.heap.size ≤ w6.heap.size := hB.size
  have HG := Lib.hid (And.intro g_A (And.intro g_X (And.intro g_Y (hB))))
  clear g_A g_X g_Y hB
  go_wp2_with fail
  with_reducible refine (M6.out _ (tab_below HT0.out (bw HG.out.2.2.2))).mono ?_
  rintro e w7 ⟨rfl, hb7⟩
  obtain ⟨g_A, g_X, g_Y, hB⟩ := HG.out
  have h_A : w7.heap[w.heap.size]? = some (.cells #[.int .i64 n, .int .i64 d, .bool false] 24 (0, 0)) := by
    refine Hand.kb hb7 ?_; first | with_reducible exact g_A | (simp (disch := first | omega | (simp only [Hand.sa, Hand.ss, Hand.sd, Hand.sn]; first | done | omega)) only [Hand.q2, Hand.q1, Hand.q5, Hand.q6, Hand.q4, Hand.q3, g_A] <;> rfl)
  have h_X : w7.heap[w4.heap.size]? = some (.cells #[.int .i64 x, .int .i64 xy] 26 (0, 0)) := by
    refine Hand.kb hb7 ?_; first | with_reducible exact g_X | (simp (disch := first | omega | (simp only [Hand.sa, Hand.ss, Hand.sd, Hand.sn]; first | done | omega)) only [Hand.q2, Hand.q1, Hand.q5, Hand.q6, Hand.q4, Hand.q3, g_X] <;> rfl)
  have h_Y : w7.heap[w5.heap.size]? = some (.cells #[.int .i64 x2, .int .i64 x2y] 26 (0, 0)) := by
    refine Hand.kb hb7 ?_; first | with_reducible exact g_Y | (simp (disch := first | omega | (simp only [Hand.sa, Hand.ss, Hand.sd, Hand.sn]; first | done | omega)) only [Hand.q2, Hand.q1, Hand.q5, Hand.q6, Hand.q4, Hand.q3, g_Y] <;> rfl)
  have hB' : Below w.heap.size w w7 := Hand.stepB hb7 (by repeat (with_reducible first | apply hB | apply Below.drew | apply pw_below_drewN | (apply Below.setCell; rotate_left; (dsimp only; omega)) | (apply Below.alloc; rotate_left; (first | omega | (simp only [Hand.sa, Hand.ss, Hand.sd, Hand.sn]; omega))))) (Nat.le_refl _)
  clear HG hB g_A g_X g_Y zw z_A z1_A z2_A y0_A y1_A c_A_0 f_A_0 c_A_1 f_A_1 c_A_2 f_A_2 z_X z1_X z2_X y0_X y1_X c_X_0 f_X_0 c_X_1 f_X_1 z_Y z1_Y z2_Y y0_Y y1_Y c_Y_0 f_Y_0 c_Y_1 f_Y_1
  clear hb7
  have g_A := h_A
  have g_X := h_X
  have g_Y := h_Y
  have hB := hB'
  clear hB' h_A h_X h_Y
  obtain ⟨z_A, z1_A, z2_A, y0_A, y1_A⟩ := Hand.hz g_A
  obtain ⟨c_A_0, f_A_0, c_A_1, f_A_1, c_A_2, f_A_2⟩ := Hand.hc3 g_A
  obtain ⟨z_X, z1_X, z2_X, y0_X, y1_X⟩ := Hand.hz g_X
  obtain ⟨c_X_0, f_X_0, c_X_1, f_X_1⟩ := Hand.hc2 g_X
  obtain ⟨z_Y, z1_Y, z2_Y, y0_Y, y1_Y⟩ := Hand.hz g_Y
  obtain ⟨c_Y_0, f_Y_0, c_Y_1, f_Y_1⟩ := Hand.hc2 g_Y
  have zw : w.heap.size ≤ w7.heap.size := hB.size
  have HG := Lib.hid (And.intro g_A (And.intro g_X (And.intro g_Y (hB))))
  clear g_A g_X g_Y hB
  go_wp2_with fail
  with_reducible refine (M7.out _).mono ?_
  rintro e w8 ⟨rfl, hb8⟩
  obtain ⟨g_A, g_X, g_Y, hB⟩ := HG.out
  have h_A : w8.heap[w.heap.size]? = some (.cells #[.int .i64 n, .int .i64 d, .bool false] 24 (0, 0)) := by
    refine Hand.kb hb8 ?_; first | with_reducible exact g_A | (simp (disch := first | omega | (simp only [Hand.sa, Hand.ss, Hand.sd, Hand.sn]; first | done | omega)) only [Hand.q2, Hand.q1, Hand.q5, Hand.q6, Hand.q4, Hand.q3, g_A] <;> rfl)
  have h_X : w8.heap[w4.heap.size]? = some (.cells #[.int .i64 x, .int .i64 xy] 26 (0, 0)) := by
    refine Hand.kb hb8 ?_; first | with_reducible exact g_X | (simp (disch := first | omega | (simp only [Hand.sa, Hand.ss, Hand.sd, Hand.sn]; first | done | omega)) only [Hand.q2, Hand.q1, Hand.q5, Hand.q6, Hand.q4, Hand.q3, g_X] <;> rfl)
  have h_Y : w8.heap[w5.heap.size]? = some (.cells #[.int .i64 x2, .int .i64 x2y] 26 (0, 0)) := by
    refine Hand.kb hb8 ?_; first | with_reducible exact g_Y | (simp (disch := first | omega | (simp only [Hand.sa, Hand.ss, Hand.sd, Hand.sn]; first | done | omega)) only [Hand.q2, Hand.q1, Hand.q5, Hand.q6, Hand.q4, Hand.q3, g_Y] <;> rfl)
  have hB' : Below w.heap.size w w8 := Hand.stepB hb8 (by repeat (with_reducible first | apply hB | apply Below.drew | apply pw_below_drewN | (apply Below.setCell; rotate_left; (dsimp only; omega)) | (apply Below.alloc; rotate_left; (first | omega | (simp only [Hand.sa, Hand.ss, Hand.sd, Hand.sn]; omega))))) (Nat.le_refl _)
  clear HG hB g_A g_X g_Y zw z_A z1_A z2_A y0_A y1_A c_A_0 f_A_0 c_A_1 f_A_1 c_A_2 f_A_2 z_X z1_X z2_X y0_X y1_X c_X_0 f_X_0 c_X_1 f_X_1 z_Y z1_Y z2_Y y0_Y y1_Y c_Y_0 f_Y_0 c_Y_1 f_Y_1
  clear hb8
  have g_A := h_A
  have g_X := h_X
  have g_Y := h_Y
  have hB := hB'
  clear hB' h_A h_X h_Y
  obtain ⟨z_A, z1_A, z2_A, y0_A, y1_A⟩ := Hand.hz g_A
  obtain ⟨c_A_0, f_A_0, c_A_1, f_A_1, c_A_2, f_A_2⟩ := Hand.hc3 g_A
  obtain ⟨z_X, z1_X, z2_X, y0_X, y1_X⟩ := Hand.hz g_X
  obtain ⟨c_X_0, f_X_0, c_X_1, f_X_1⟩ := Hand.hc2 g_X
  obtain ⟨z_Y, z1_Y, z2_Y, y0_Y, y1_Y⟩ := Hand.hz g_Y
  obtain ⟨c_Y_0, f_Y_0, c_Y_1, f_Y_1⟩ := Hand.hc2 g_Y
  have zw : w.heap.size ≤ w8.heap.size := hB.size
  have HG := Lib.hid (And.intro g_A (And.intro g_X (And.intro g_Y (hB))))
  clear g_A g_X g_Y hB
  go_wp2_with fail
  with_reducible refine (M8.out _ (tab_below HT0.out (bw HG.out.2.2.2))).mono ?_
  rintro e w9 ⟨rfl, hb9⟩
  obtain ⟨g_A, g_X, g_Y, hB⟩ := HG.out
  have h_A : w9.heap[w.heap.size]? = some (.cells #[.int .i64 n, .int .i64 d, .bool false] 24 (0, 0)) := by
    refine Hand.kb hb9 ?_; first | with_reducible exact g_A | (simp (disch := first | omega | (simp only [Hand.sa, Hand.ss, Hand.sd, Hand.sn]; first | done | omega)) only [Hand.q2, Hand.q1, Hand.q5, Hand.q6, Hand.q4, Hand.q3, g_A] <;> rfl)
  have h_X : w9.heap[w4.heap.size]? = some (.cells #[.int .i64 x, .int .i64 xy] 26 (0, 0)) := by
    refine Hand.kb hb9 ?_; first | with_reducible exact g_X | (simp (disch := first | omega | (simp only [Hand.sa, Hand.ss, Hand.sd, Hand.sn]; first | done | omega)) only [Hand.q2, Hand.q1, Hand.q5, Hand.q6, Hand.q4, Hand.q3, g_X] <;> rfl)
  have h_Y : w9.heap[w5.heap.size]? = some (.cells #[.int .i64 x2, .int .i64 x2y] 26 (0, 0)) := by
    refine Hand.kb hb9 ?_; first | with_reducible exact g_Y | (simp (disch := first | omega | (simp only [Hand.sa, Hand.ss, Hand.sd, Hand.sn]; first | done | omega)) only [Hand.q2, Hand.q1, Hand.q5, Hand.q6, Hand.q4, Hand.q3, g_Y] <;> rfl)
  have h_Z : w9.heap[w8.heap.size]? = some (.cells #[.int .i64 x3, .int .i64 x3y] 26 (0, 0)) := by
    refine Hand.kb hb9 ?_; simp (disch := first | omega | (simp only [Hand.sa, Hand.ss, Hand.sd, Hand.sn]; first | done | omega)) only [Hand.q2, Hand.q1, Hand.q5, Hand.q6, Hand.q4, Hand.q3] <;> rfl
  have hB' : Below w.heap.size w w9 := Hand.stepB hb9 (by repeat (with_reducible first | apply hB | apply Below.drew | apply pw_below_drewN | (apply Below.setCell; rotate_left; (dsimp only; omega)) | (apply Below.alloc; rotate_left; (first | omega | (simp only [Hand.sa, Hand.ss, Hand.sd, Hand.sn]; omega))))) (Nat.le_refl _)
  clear HG hB g_A g_X g_Y zw z_A z1_A z2_A y0_A y1_A c_A_0 f_A_0 c_A_1 f_A_1 c_A_2 f_A_2 z_X z1_X z2_X y0_X y1_X c_X_0 f_X_0 c_X_1 f_X_1 z_Y z1_Y z2_Y y0_Y y1_Y c_Y_0 f_Y_0 c_Y_1 f_Y_1
  clear hb9
  have g_A := h_A
  have g_X := h_X
  have g_Y := h_Y
  have g_Z := h_Z
  have hB := hB'
  clear hB' h_A h_X h_Y h_Z
  obtain ⟨z_A, z1_A, z2_A, y0_A, y1_A⟩ := Hand.hz g_A
  obtain ⟨c_A_0, f_A_0, c_A_1, f_A_1, c_A_2, f_A_2⟩ := Hand.hc3 g_A
  obtain ⟨z_X, z1_X, z2_X, y0_X, y1_X⟩ := Hand.hz g_X
  obtain ⟨c_X_0, f_X_0, c_X_1, f_X_1⟩ := Hand.hc2 g_X
  obtain ⟨z_Y, z1_Y, z2_Y, y0_Y, y1_Y⟩ := Hand.hz g_Y
  obtain ⟨c_Y_0, f_Y_0, c_Y_1, f_Y_1⟩ := Hand.hc2 g_Y
  obtain ⟨z_Z, z1_Z, z2_Z, y0_Z, y1_Z⟩ := Hand.hz g_Z
  obtain ⟨c_Z_0, f_Z_0, c_Z_1, f_Z_1⟩ := Hand.hc2 g_Z
  have zw : w.heap.size ≤ w9.heap.size := hB.size
  have HG := Lib.hid (And.intro g_A (And.intro g_X (And.intro g_Y (And.intro g_Z (hB)))))
  clear g_A g_X g_Y g_Z hB
  go_wp2
  go_ret
  obtain ⟨g_A, g_X, g_Y, g_Z, hB⟩ := HG.out
  exact ⟨by first | rfl | (simp; done) | (simp; decide) | (simp; rfl) | (simp [Lib.toList_data]; done), by first | exact hB | exact bw hB⟩
set_option maxHeartbeats 2000000 in
set_option maxRecDepth 100000 in
theorem beyond_false_w (n d k x xy x2 x2y x3 x3y : Int) (S1 S2 : ByteArray) (n1 : 1 ≤ n) (n2 : n ≤ 240000) (d1 : 1 ≤ d) (d2 : d ≤ 1001) (k0 : 0 ≤ k) (k1 : k ≤ 100000000) (hf : 100 < (n + d - 1) / d) (w : World) (ht : TabN w)
    (m0 : ∀ w, TabN w → Calls Tryd.prog 16 #[] w fun e w' => e = .returned (.bool true) ∧ Below w.heap.size w w')
    (m1 : ∀ w, Calls Tryd.prog 25 #[rate n d false] w fun e w' => e = .returned (.int .i64 0) ∧ Below w.heap.size w w')
    (m2 : ∀ w, Calls Tryd.prog 30 #[rate n d false, .agg #[.int .i64 360000, .int .i64 1], .int .i64 1] w fun e w' => e = .returned (.tuple #[.int .i64 k, .int .i64 0]) ∧ Below w.heap.size w w')
    (m3 : ∀ w, Calls Tryd.prog 17 #[rate n d false, .int .i64 k] w fun e w' => e = .returned (.tuple #[.agg #[.int .i64 x, .int .i64 xy], .int .i64 0]) ∧ Below w.heap.size w w')
    (m4 : ∀ w, Calls Tryd.prog 17 #[rate n d false, .int .i64 (k + 1)] w fun e w' => e = .returned (.tuple #[.agg #[.int .i64 x2, .int .i64 x2y], .int .i64 31]) ∧ Below w.heap.size w w')
    (m5 : ∀ w, TabN w → Calls Tryd.prog 18 #[rate n d false, .int .i64 k] w fun e w' => e = .returned (.tuple #[.string S1, .int .i64 0]) ∧ Below w.heap.size w w')
    (m6 : ∀ w, TabN w → Calls Tryd.prog 18 #[rate n d false, .int .i64 (k + 1)] w fun e w' => e = .returned (.tuple #[.string S2, .int .i64 31]) ∧ Below w.heap.size w w')
    (m7 : ∀ w, Calls Tryd.prog 17 #[rate n d false, .int .i64 (-1)] w fun e w' => e = .returned (.tuple #[.agg #[.int .i64 x3, .int .i64 x3y], .int .i64 31]) ∧ Below w.heap.size w w')
    (m8 : ∀ w, TabN w → Calls Tryd.prog 18 #[rate n d false, .int .i64 0] w fun e w' => e = .returned (.tuple #[.string ⟨#[48, 48, 58, 48, 48, 58, 48, 48, 58, 48, 48, 48]⟩, .int .i64 0]) ∧ Below w.heap.size w w') :
    Calls Tryd.prog 13 #[rate n d false] w fun e w' => e = .returned (.bool true) ∧ Below w.heap.size w w' := by
  have hd2 : ¬ d = 0 := by omega
  have HT0 := Lib.hid ht
  have M0 := Lib.hid m0
  have M1 := Lib.hid m1
  have M2 := Lib.hid m2
  have M3 := Lib.hid m3
  have M4 := Lib.hid m4
  have M5 := Lib.hid m5
  have M6 := Lib.hid m6
  have M7 := Lib.hid m7
  have M8 := Lib.hid m8
  clear m0 m1 m2 m3 m4 m5 m6 m7 m8 ht
  go_enter Tryd.func13, Tryd.ntmps13
  go_wp2_with fail
  with_reducible refine (M0.out _ (tab_below HT0.out (bw (Below.refl _ _)))).mono ?_
  rintro e w1 ⟨rfl, hb1⟩
  have h_A : w1.heap[w.heap.size]? = some (.cells #[.int .i64 n, .int .i64 d, .bool false] 24 (0, 0)) := by
    refine Hand.kb hb1 ?_; simp (disch := first | omega | (simp only [Hand.sa, Hand.ss, Hand.sd, Hand.sn]; first | done | omega)) only [Hand.q2, Hand.q1, Hand.q5, Hand.q6, Hand.q4, Hand.q3] <;> rfl
  have hB' : Below w.heap.size w w1 := Hand.stepB hb1 (by repeat (with_reducible first | apply Below.refl _ _ | apply Below.drew | apply pw_below_drewN | (apply Below.setCell; rotate_left; (dsimp only; omega)) | (apply Below.alloc; rotate_left; (first | omega | (simp only [Hand.sa, Hand.ss, Hand.sd, Hand.sn]; omega))))) (Nat.le_refl _)
  clear hb1
  have g_A := h_A
  have hB := hB'
  clear hB' h_A
  obtain ⟨z_A, z1_A, z2_A, y0_A, y1_A⟩ := Hand.hz g_A
  obtain ⟨c_A_0, f_A_0, c_A_1, f_A_1, c_A_2, f_A_2⟩ := Hand.hc3 g_A
  have zw : w.heap.size ≤ w1.heap.size := hB.size
  have HG := Lib.hid (And.intro g_A (hB))
  clear g_A hB
  go_wp2_with fail
  with_reducible refine (M1.out _).mono ?_
  rintro e w2 ⟨rfl, hb2⟩
  obtain ⟨g_A, hB⟩ := HG.out
  have h_A : w2.heap[w.heap.size]? = some (.cells #[.int .i64 n, .int .i64 d, .bool false] 24 (0, 0)) := by
    refine Hand.kb hb2 ?_; first | with_reducible exact g_A | (simp (disch := first | omega | (simp only [Hand.sa, Hand.ss, Hand.sd, Hand.sn]; first | done | omega)) only [Hand.q2, Hand.q1, Hand.q5, Hand.q6, Hand.q4, Hand.q3, g_A] <;> rfl)
  have hB' : Below w.heap.size w w2 := Hand.stepB hb2 (by repeat (with_reducible first | apply hB | apply Below.drew | apply pw_below_drewN | (apply Below.setCell; rotate_left; (dsimp only; omega)) | (apply Below.alloc; rotate_left; (first | omega | (simp only [Hand.sa, Hand.ss, Hand.sd, Hand.sn]; omega))))) (Nat.le_refl _)
  clear HG hB g_A zw z_A z1_A z2_A y0_A y1_A c_A_0 f_A_0 c_A_1 f_A_1 c_A_2 f_A_2
  clear hb2
  have g_A := h_A
  have hB := hB'
  clear hB' h_A
  obtain ⟨z_A, z1_A, z2_A, y0_A, y1_A⟩ := Hand.hz g_A
  obtain ⟨c_A_0, f_A_0, c_A_1, f_A_1, c_A_2, f_A_2⟩ := Hand.hc3 g_A
  have zw : w.heap.size ≤ w2.heap.size := hB.size
  have HG := Lib.hid (And.intro g_A (hB))
  clear g_A hB
  go_wp2_with fail
  with_reducible refine (M2.out _).mono ?_
  rintro e w3 ⟨rfl, hb3⟩
  obtain ⟨g_A, hB⟩ := HG.out
  have h_A : w3.heap[w.heap.size]? = some (.cells #[.int .i64 n, .int .i64 d, .bool false] 24 (0, 0)) := by
    refine Hand.kb hb3 ?_; first | with_reducible exact g_A | (simp (disch := first | omega | (simp only [Hand.sa, Hand.ss, Hand.sd, Hand.sn]; first | done | omega)) only [Hand.q2, Hand.q1, Hand.q5, Hand.q6, Hand.q4, Hand.q3, g_A] <;> rfl)
  have hB' : Below w.heap.size w w3 := Hand.stepB hb3 (by repeat (with_reducible first | apply hB | apply Below.drew | apply pw_below_drewN | (apply Below.setCell; rotate_left; (dsimp only; omega)) | (apply Below.alloc; rotate_left; (first | omega | (simp only [Hand.sa, Hand.ss, Hand.sd, Hand.sn]; omega))))) (Nat.le_refl _)
  clear HG hB g_A zw z_A z1_A z2_A y0_A y1_A c_A_0 f_A_0 c_A_1 f_A_1 c_A_2 f_A_2
  clear hb3
  have g_A := h_A
  have hB := hB'
  clear hB' h_A
  obtain ⟨z_A, z1_A, z2_A, y0_A, y1_A⟩ := Hand.hz g_A
  obtain ⟨c_A_0, f_A_0, c_A_1, f_A_1, c_A_2, f_A_2⟩ := Hand.hc3 g_A
  have zw : w.heap.size ≤ w3.heap.size := hB.size
  have HG := Lib.hid (And.intro g_A (hB))
  clear g_A hB
  go_wp2_with fail
  with_reducible refine (M3.out _).mono ?_
  rintro e w4 ⟨rfl, hb4⟩
  obtain ⟨g_A, hB⟩ := HG.out
  have h_A : w4.heap[w.heap.size]? = some (.cells #[.int .i64 n, .int .i64 d, .bool false] 24 (0, 0)) := by
    refine Hand.kb hb4 ?_; first | with_reducible exact g_A | (simp (disch := first | omega | (simp only [Hand.sa, Hand.ss, Hand.sd, Hand.sn]; first | done | omega)) only [Hand.q2, Hand.q1, Hand.q5, Hand.q6, Hand.q4, Hand.q3, g_A] <;> rfl)
  have hB' : Below w.heap.size w w4 := Hand.stepB hb4 (by repeat (with_reducible first | apply hB | apply Below.drew | apply pw_below_drewN | (apply Below.setCell; rotate_left; (dsimp only; omega)) | (apply Below.alloc; rotate_left; (first | omega | (simp only [Hand.sa, Hand.ss, Hand.sd, Hand.sn]; omega))))) (Nat.le_refl _)
  clear HG hB g_A zw z_A z1_A z2_A y0_A y1_A c_A_0 f_A_0 c_A_1 f_A_1 c_A_2 f_A_2
  clear hb4
  have g_A := h_A
  have hB := hB'
  clear hB' h_A
  obtain ⟨z_A, z1_A, z2_A, y0_A, y1_A⟩ := Hand.hz g_A
  obtain ⟨c_A_0, f_A_0, c_A_1, f_A_1, c_A_2, f_A_2⟩ := Hand.hc3 g_A
  have zw : w.heap.size ≤ w4.heap.size := hB.size
  have HG := Lib.hid (And.intro g_A (hB))
  clear g_A hB
  go_wp2_with fail
  with_reducible refine (M4.out _).mono ?_
  rintro e w5 ⟨rfl, hb5⟩
  obtain ⟨g_A, hB⟩ := HG.out
  have h_A : w5.heap[w.heap.size]? = some (.cells #[.int .i64 n, .int .i64 d, .bool false] 24 (0, 0)) := by
    refine Hand.kb hb5 ?_; first | with_reducible exact g_A | (simp (disch := first | omega | (simp only [Hand.sa, Hand.ss, Hand.sd, Hand.sn]; first | done | omega)) only [Hand.q2, Hand.q1, Hand.q5, Hand.q6, Hand.q4, Hand.q3, g_A] <;> rfl)
  have h_X : w5.heap[w4.heap.size]? = some (.cells #[.int .i64 x, .int .i64 xy] 26 (0, 0)) := by
    refine Hand.kb hb5 ?_; simp (disch := first | omega | (simp only [Hand.sa, Hand.ss, Hand.sd, Hand.sn]; first | done | omega)) only [Hand.q2, Hand.q1, Hand.q5, Hand.q6, Hand.q4, Hand.q3] <;> rfl
  have hB' : Below w.heap.size w w5 := Hand.stepB hb5 (by repeat (with_reducible first | apply hB | apply Below.drew | apply pw_below_drewN | (apply Below.setCell; rotate_left; (dsimp only; omega)) | (apply Below.alloc; rotate_left; (first | omega | (simp only [Hand.sa, Hand.ss, Hand.sd, Hand.sn]; omega))))) (Nat.le_refl _)
  clear HG hB g_A zw z_A z1_A z2_A y0_A y1_A c_A_0 f_A_0 c_A_1 f_A_1 c_A_2 f_A_2
  clear hb5
  have g_A := h_A
  have g_X := h_X
  have hB := hB'
  clear hB' h_A h_X
  obtain ⟨z_A, z1_A, z2_A, y0_A, y1_A⟩ := Hand.hz g_A
  obtain ⟨c_A_0, f_A_0, c_A_1, f_A_1, c_A_2, f_A_2⟩ := Hand.hc3 g_A
  obtain ⟨z_X, z1_X, z2_X, y0_X, y1_X⟩ := Hand.hz g_X
  obtain ⟨c_X_0, f_X_0, c_X_1, f_X_1⟩ := Hand.hc2 g_X
  have zw : w.heap.size ≤ w5.heap.size := hB.size
  have HG := Lib.hid (And.intro g_A (And.intro g_X (hB)))
  clear g_A g_X hB
  go_wp2_with fail
  with_reducible refine (M5.out _ (tab_below HT0.out (bw HG.out.2.2))).mono ?_
  rintro e w6 ⟨rfl, hb6⟩
  obtain ⟨g_A, g_X, hB⟩ := HG.out
  have h_A : w6.heap[w.heap.size]? = some (.cells #[.int .i64 n, .int .i64 d, .bool false] 24 (0, 0)) := by
    refine Hand.kb hb6 ?_; first | with_reducible exact g_A | (simp (disch := first | omega | (simp only [Hand.sa, Hand.ss, Hand.sd, Hand.sn]; first | done | omega)) only [Hand.q2, Hand.q1, Hand.q5, Hand.q6, Hand.q4, Hand.q3, g_A] <;> rfl)
  have h_X : w6.heap[w4.heap.size]? = some (.cells #[.int .i64 x, .int .i64 xy] 26 (0, 0)) := by
    refine Hand.kb hb6 ?_; first | with_reducible exact g_X | (simp (disch := first | omega | (simp only [Hand.sa, Hand.ss, Hand.sd, Hand.sn]; first | done | omega)) only [Hand.q2, Hand.q1, Hand.q5, Hand.q6, Hand.q4, Hand.q3, g_X] <;> rfl)
  have h_Y : w6.heap[w5.heap.size]? = some (.cells #[.int .i64 x2, .int .i64 x2y] 26 (0, 0)) := by
    refine Hand.kb hb6 ?_; simp (disch := first | omega | (simp only [Hand.sa, Hand.ss, Hand.sd, Hand.sn]; first | done | omega)) only [Hand.q2, Hand.q1, Hand.q5, Hand.q6, Hand.q4, Hand.q3] <;> rfl
  have hB' : Below w.heap.size w w6 := Hand.stepB hb6 (by repeat (with_reducible first | apply hB | apply Below.drew | apply pw_below_drewN | (apply Below.setCell; rotate_left; (dsimp only; omega)) | (apply Below.alloc; rotate_left; (first | omega | (simp only [Hand.sa, Hand.ss, Hand.sd, Hand.sn]; omega))))) (Nat.le_refl _)
  clear HG hB g_A g_X zw z_A z1_A z2_A y0_A y1_A c_A_0 f_A_0 c_A_1 f_A_1 c_A_2 f_A_2 z_X z1_X z2_X y0_X y1_X c_X_0 f_X_0 c_X_1 f_X_1
  clear hb6
  have g_A := h_A
  have g_X := h_X
  have g_Y := h_Y
  have hB := hB'
  clear hB' h_A h_X h_Y
  obtain ⟨z_A, z1_A, z2_A, y0_A, y1_A⟩ := Hand.hz g_A
  obtain ⟨c_A_0, f_A_0, c_A_1, f_A_1, c_A_2, f_A_2⟩ := Hand.hc3 g_A
  obtain ⟨z_X, z1_X, z2_X, y0_X, y1_X⟩ := Hand.hz g_X
  obtain ⟨c_X_0, f_X_0, c_X_1, f_X_1⟩ := Hand.hc2 g_X
  obtain ⟨z_Y, z1_Y, z2_Y, y0_Y, y1_Y⟩ := Hand.hz g_Y
  obtain ⟨c_Y_0, f_Y_0, c_Y_1, f_Y_1⟩ := Hand.hc2 g_Y
  have zw : w.heap.size ≤ w6.heap.size := hB.size
  have HG := Lib.hid (And.intro g_A (And.intro g_X (And.intro g_Y (hB))))
  clear g_A g_X g_Y hB
  go_wp2_with fail
  with_reducible refine (M6.out _ (tab_below HT0.out (bw HG.out.2.2.2))).mono ?_
  rintro e w7 ⟨rfl, hb7⟩
  obtain ⟨g_A, g_X, g_Y, hB⟩ := HG.out
  have h_A : w7.heap[w.heap.size]? = some (.cells #[.int .i64 n, .int .i64 d, .bool false] 24 (0, 0)) := by
    refine Hand.kb hb7 ?_; first | with_reducible exact g_A | (simp (disch := first | omega | (simp only [Hand.sa, Hand.ss, Hand.sd, Hand.sn]; first | done | omega)) only [Hand.q2, Hand.q1, Hand.q5, Hand.q6, Hand.q4, Hand.q3, g_A] <;> rfl)
  have h_X : w7.heap[w4.heap.size]? = some (.cells #[.int .i64 x, .int .i64 xy] 26 (0, 0)) := by
    refine Hand.kb hb7 ?_; first | with_reducible exact g_X | (simp (disch := first | omega | (simp only [Hand.sa, Hand.ss, Hand.sd, Hand.sn]; first | done | omega)) only [Hand.q2, Hand.q1, Hand.q5, Hand.q6, Hand.q4, Hand.q3, g_X] <;> rfl)
  have h_Y : w7.heap[w5.heap.size]? = some (.cells #[.int .i64 x2, .int .i64 x2y] 26 (0, 0)) := by
    refine Hand.kb hb7 ?_; first | with_reducible exact g_Y | (simp (disch := first | omega | (simp only [Hand.sa, Hand.ss, Hand.sd, Hand.sn]; first | done | omega)) only [Hand.q2, Hand.q1, Hand.q5, Hand.q6, Hand.q4, Hand.q3, g_Y] <;> rfl)
  have hB' : Below w.heap.size w w7 := Hand.stepB hb7 (by repeat (with_reducible first | apply hB | apply Below.drew | apply pw_below_drewN | (apply Below.setCell; rotate_left; (dsimp only; omega)) | (apply Below.alloc; rotate_left; (first | omega | (simp only [Hand.sa, Hand.ss, Hand.sd, Hand.sn]; omega))))) (Nat.le_refl _)
  clear HG hB g_A g_X g_Y zw z_A z1_A z2_A y0_A y1_A c_A_0 f_A_0 c_A_1 f_A_1 c_A_2 f_A_2 z_X z1_X z2_X y0_X y1_X c_X_0 f_X_0 c_X_1 f_X_1 z_Y z1_Y z2_Y y0_Y y1_Y c_Y_0 f_Y_0 c_Y_1 f_Y_1
  clear hb7
  have g_A := h_A
  have g_X := h_X
  have g_Y := h_Y
  have hB := hB'
  clear hB' h_A h_X h_Y
  obtain ⟨z_A, z1_A, z2_A, y0_A, y1_A⟩ := Hand.hz g_A
  obtain ⟨c_A_0, f_A_0, c_A_1, f_A_1, c_A_2, f_A_2⟩ := Hand.hc3 g_A
  obtain ⟨z_X, z1_X, z2_X, y0_X, y1_X⟩ := Hand.hz g_X
  obtain ⟨c_X_0, f_X_0, c_X_1, f_X_1⟩ := Hand.hc2 g_X
  obtain ⟨z_Y, z1_Y, z2_Y, y0_Y, y1_Y⟩ := Hand.hz g_Y
  obtain ⟨c_Y_0, f_Y_0, c_Y_1, f_Y_1⟩ := Hand.hc2 g_Y
  have zw : w.heap.size ≤ w7.heap.size := hB.size
  have HG := Lib.hid (And.intro g_A (And.intro g_X (And.intro g_Y (hB))))
  clear g_A g_X g_Y hB
  go_wp2_with fail
  with_reducible refine (M7.out _).mono ?_
  rintro e w8 ⟨rfl, hb8⟩
  obtain ⟨g_A, g_X, g_Y, hB⟩ := HG.out
  have h_A : w8.heap[w.heap.size]? = some (.cells #[.int .i64 n, .int .i64 d, .bool false] 24 (0, 0)) := by
    refine Hand.kb hb8 ?_; first | with_reducible exact g_A | (simp (disch := first | omega | (simp only [Hand.sa, Hand.ss, Hand.sd, Hand.sn]; first | done | omega)) only [Hand.q2, Hand.q1, Hand.q5, Hand.q6, Hand.q4, Hand.q3, g_A] <;> rfl)
  have h_X : w8.heap[w4.heap.size]? = some (.cells #[.int .i64 x, .int .i64 xy] 26 (0, 0)) := by
    refine Hand.kb hb8 ?_; first | with_reducible exact g_X | (simp (disch := first | omega | (simp only [Hand.sa, Hand.ss, Hand.sd, Hand.sn]; first | done | omega)) only [Hand.q2, Hand.q1, Hand.q5, Hand.q6, Hand.q4, Hand.q3, g_X] <;> rfl)
  have h_Y : w8.heap[w5.heap.size]? = some (.cells #[.int .i64 x2, .int .i64 x2y] 26 (0, 0)) := by
    refine Hand.kb hb8 ?_; first | with_reducible exact g_Y | (simp (disch := first | omega | (simp only [Hand.sa, Hand.ss, Hand.sd, Hand.sn]; first | done | omega)) only [Hand.q2, Hand.q1, Hand.q5, Hand.q6, Hand.q4, Hand.q3, g_Y] <;> rfl)
  have hB' : Below w.heap.size w w8 := Hand.stepB hb8 (by repeat (with_reducible first | apply hB | apply Below.drew | apply pw_below_drewN | (apply Below.setCell; rotate_left; (dsimp only; omega)) | (apply Below.alloc; rotate_left; (first | omega | (simp only [Hand.sa, Hand.ss, Hand.sd, Hand.sn]; omega))))) (Nat.le_refl _)
  clear HG hB g_A g_X g_Y zw z_A z1_A z2_A y0_A y1_A c_A_0 f_A_0 c_A_1 f_A_1 c_A_2 f_A_2 z_X z1_X z2_X y0_X y1_X c_X_0 f_X_0 c_X_1 f_X_1 z_Y z1_Y z2_Y y0_Y y1_Y c_Y_0 f_Y_0 c_Y_1 f_Y_1
  clear hb8
  have g_A := h_A
  have g_X := h_X
  have g_Y := h_Y
  have hB := hB'
  clear hB' h_A h_X h_Y
  obtain ⟨z_A, z1_A, z2_A, y0_A, y1_A⟩ := Hand.hz g_A
  obtain ⟨c_A_0, f_A_0, c_A_1, f_A_1, c_A_2, f_A_2⟩ := Hand.hc3 g_A
  obtain ⟨z_X, z1_X, z2_X, y0_X, y1_X⟩ := Hand.hz g_X
  obtain ⟨c_X_0, f_X_0, c_X_1, f_X_1⟩ := Hand.hc2 g_X
  obtain ⟨z_Y, z1_Y, z2_Y, y0_Y, y1_Y⟩ := Hand.hz g_Y
  obtain ⟨c_Y_0, f_Y_0, c_Y_1, f_Y_1⟩ := Hand.hc2 g_Y
  have zw : w.heap.size ≤ w8.heap.size := hB.size
  have HG := Lib.hid (And.intro g_A (And.intro g_X (And.intro g_Y (hB))))
  clear g_A g_X g_Y hB
  go_wp2_with fail
  with_reducible refine (M8.out _ (tab_below HT0.out (bw HG.out.2.2.2))).mono ?_
  rintro e w9 ⟨rfl, hb9⟩
  obtain ⟨g_A, g_X, g_Y, hB⟩ := HG.out
  have h_A : w9.heap[w.heap.size]? = some (.cells #[.int .i64 n, .int .i64 d, .bool false] 24 (0, 0)) := by
    refine Hand.kb hb9 ?_; first | with_reducible exact g_A | (simp (disch := first | omega | (simp only [Hand.sa, Hand.ss, Hand.sd, Hand.sn]; first | done | omega)) only [Hand.q2, Hand.q1, Hand.q5, Hand.q6, Hand.q4, Hand.q3, g_A] <;> rfl)
  have h_X : w9.heap[w4.heap.size]? = some (.cells #[.int .i64 x, .int .i64 xy] 26 (0, 0)) := by
    refine Hand.kb hb9 ?_; first | with_reducible exact g_X | (simp (disch := first | omega | (simp only [Hand.sa, Hand.ss, Hand.sd, Hand.sn]; first | done | omega)) only [Hand.q2, Hand.q1, Hand.q5, Hand.q6, Hand.q4, Hand.q3, g_X] <;> rfl)
  have h_Y : w9.heap[w5.heap.size]? = some (.cells #[.int .i64 x2, .int .i64 x2y] 26 (0, 0)) := by
    refine Hand.kb hb9 ?_; first | with_reducible exact g_Y | (simp (disch := first | omega | (simp only [Hand.sa, Hand.ss, Hand.sd, Hand.sn]; first | done | omega)) only [Hand.q2, Hand.q1, Hand.q5, Hand.q6, Hand.q4, Hand.q3, g_Y] <;> rfl)
  have h_Z : w9.heap[w8.heap.size]? = some (.cells #[.int .i64 x3, .int .i64 x3y] 26 (0, 0)) := by
    refine Hand.kb hb9 ?_; simp (disch := first | omega | (simp only [Hand.sa, Hand.ss, Hand.sd, Hand.sn]; first | done | omega)) only [Hand.q2, Hand.q1, Hand.q5, Hand.q6, Hand.q4, Hand.q3] <;> rfl
  have hB' : Below w.heap.size w w9 := Hand.stepB hb9 (by repeat (with_reducible first | apply hB | apply Below.drew | apply pw_below_drewN | (apply Below.setCell; rotate_left; (dsimp only; omega)) | (apply Below.alloc; rotate_left; (first | omega | (simp only [Hand.sa, Hand.ss, Hand.sd, Hand.sn]; omega))))) (Nat.le_refl _)
  clear HG hB g_A g_X g_Y zw z_A z1_A z2_A y0_A y1_A c_A_0 f_A_0 c_A_1 f_A_1 c_A_2 f_A_2 z_X z1_X z2_X y0_X y1_X c_X_0 f_X_0 c_X_1 f_X_1 z_Y z1_Y z2_Y y0_Y y1_Y c_Y_0 f_Y_0 c_Y_1 f_Y_1
  clear hb9
  have g_A := h_A
  have g_X := h_X
  have g_Y := h_Y
  have g_Z := h_Z
  have hB := hB'
  clear hB' h_A h_X h_Y h_Z
  obtain ⟨z_A, z1_A, z2_A, y0_A, y1_A⟩ := Hand.hz g_A
  obtain ⟨c_A_0, f_A_0, c_A_1, f_A_1, c_A_2, f_A_2⟩ := Hand.hc3 g_A
  obtain ⟨z_X, z1_X, z2_X, y0_X, y1_X⟩ := Hand.hz g_X
  obtain ⟨c_X_0, f_X_0, c_X_1, f_X_1⟩ := Hand.hc2 g_X
  obtain ⟨z_Y, z1_Y, z2_Y, y0_Y, y1_Y⟩ := Hand.hz g_Y
  obtain ⟨c_Y_0, f_Y_0, c_Y_1, f_Y_1⟩ := Hand.hc2 g_Y
  obtain ⟨z_Z, z1_Z, z2_Z, y0_Z, y1_Z⟩ := Hand.hz g_Z
  obtain ⟨c_Z_0, f_Z_0, c_Z_1, f_Z_1⟩ := Hand.hc2 g_Z
  have zw : w.heap.size ≤ w9.heap.size := hB.size
  have HG := Lib.hid (And.intro g_A (And.intro g_X (And.intro g_Y (And.intro g_Z (hB)))))
  clear g_A g_X g_Y g_Z hB
  go_wp2
  go_ret
  obtain ⟨g_A, g_X, g_Y, g_Z, hB⟩ := HG.out
  exact ⟨by first | rfl | (simp; done) | (simp; decide) | (simp; rfl) | (simp [Lib.toList_data]; done), by first | exact hB | exact bw hB⟩
set_option maxHeartbeats 2000000 in
set_option maxRecDepth 100000 in
theorem beyond_true (n d k x xy x2 x2y x3 x3y : Int) (S1 S2 : ByteArray) (n1 : 1 ≤ n) (n2 : n ≤ 240000) (d1 : 1 ≤ d) (d2 : d ≤ 1001) (k0 : 0 ≤ k) (k1 : k ≤ 100000000) (hf : (n + d - 1) / d ≤ 100) (w : World) (ht : TabN w)
    (m0 : ∀ w, TabN w → Calls Tryd.prog 16 #[] w fun e w' => e = .returned (.bool true) ∧ Below w.heap.size w w')
    (m1 : ∀ w, Calls Tryd.prog 25 #[rate n d true] w fun e w' => e = .returned (.int .i64 0) ∧ Below w.heap.size w w')
    (m2 : ∀ w, Calls Tryd.prog 30 #[rate n d true, .agg #[.int .i64 360000, .int .i64 1], .int .i64 1] w fun e w' => e = .returned (.tuple #[.int .i64 k, .int .i64 0]) ∧ Below w.heap.size w w')
    (m3 : ∀ w, Calls Tryd.prog 17 #[rate n d true, .int .i64 k] w fun e w' => e = .returned (.tuple #[.agg #[.int .i64 x, .int .i64 xy], .int .i64 0]) ∧ Below w.heap.size w w')
    (m4 : ∀ w, Calls Tryd.prog 17 #[rate n d true, .int .i64 (k + 1)] w fun e w' => e = .returned (.tuple #[.agg #[.int .i64 x2, .int .i64 x2y], .int .i64 31]) ∧ Below w.heap.size w w')
    (m5 : ∀ w, TabN w → Calls Tryd.prog 18 #[rate n d true, .int .i64 k] w fun e w' => e = .returned (.tuple #[.string S1, .int .i64 0]) ∧ Below w.heap.size w w')
    (m6 : ∀ w, TabN w → Calls Tryd.prog 18 #[rate n d true, .int .i64 (k + 1)] w fun e w' => e = .returned (.tuple #[.string S2, .int .i64 31]) ∧ Below w.heap.size w w')
    (m7 : ∀ w, Calls Tryd.prog 17 #[rate n d true, .int .i64 (-1)] w fun e w' => e = .returned (.tuple #[.agg #[.int .i64 x3, .int .i64 x3y], .int .i64 31]) ∧ Below w.heap.size w w')
    (m8 : ∀ w, TabN w → Calls Tryd.prog 18 #[rate n d true, .int .i64 0] w fun e w' => e = .returned (.tuple #[.string ⟨#[48, 48, 58, 48, 48, 58, 48, 48, 59, 48, 48]⟩, .int .i64 0]) ∧ Below w.heap.size w w') :
    Calls Tryd.prog 13 #[rate n d true] w fun e w' => e = .returned (.bool true) ∧ Below w.heap.size w w' := by
  have hd2 : ¬ d = 0 := by omega
  have HT0 := Lib.hid ht
  have M0 := Lib.hid m0
  have M1 := Lib.hid m1
  have M2 := Lib.hid m2
  have M3 := Lib.hid m3
  have M4 := Lib.hid m4
  have M5 := Lib.hid m5
  have M6 := Lib.hid m6
  have M7 := Lib.hid m7
  have M8 := Lib.hid m8
  clear m0 m1 m2 m3 m4 m5 m6 m7 m8 ht
  go_enter Tryd.func13, Tryd.ntmps13
  go_wp2_with fail
  with_reducible refine (M0.out _ (tab_below HT0.out (bw (Below.refl _ _)))).mono ?_
  rintro e w1 ⟨rfl, hb1⟩
  have h_A : w1.heap[w.heap.size]? = some (.cells #[.int .i64 n, .int .i64 d, .bool true] 24 (0, 0)) := by
    refine Hand.kb hb1 ?_; simp (disch := first | omega | (simp only [Hand.sa, Hand.ss, Hand.sd, Hand.sn]; first | done | omega)) only [Hand.q2, Hand.q1, Hand.q5, Hand.q6, Hand.q4, Hand.q3] <;> rfl
  have hB' : Below w.heap.size w w1 := Hand.stepB hb1 (by repeat (with_reducible first | apply Below.refl _ _ | apply Below.drew | apply pw_below_drewN | (apply Below.setCell; rotate_left; (dsimp only; omega)) | (apply Below.alloc; rotate_left; (first | omega | (simp only [Hand.sa, Hand.ss, Hand.sd, Hand.sn]; omega))))) (Nat.le_refl _)
  clear hb1
  have g_A := h_A
  have hB := hB'
  clear hB' h_A
  obtain ⟨z_A, z1_A, z2_A, y0_A, y1_A⟩ := Hand.hz g_A
  obtain ⟨c_A_0, f_A_0, c_A_1, f_A_1, c_A_2, f_A_2⟩ := Hand.hc3 g_A
  have zw : w.heap.size ≤ w1.heap.size := hB.size
  have HG := Lib.hid (And.intro g_A (hB))
  clear g_A hB
  go_wp2_with fail
  with_reducible refine (M1.out _).mono ?_
  rintro e w2 ⟨rfl, hb2⟩
  obtain ⟨g_A, hB⟩ := HG.out
  have h_A : w2.heap[w.heap.size]? = some (.cells #[.int .i64 n, .int .i64 d, .bool true] 24 (0, 0)) := by
    refine Hand.kb hb2 ?_; first | with_reducible exact g_A | (simp (disch := first | omega | (simp only [Hand.sa, Hand.ss, Hand.sd, Hand.sn]; first | done | omega)) only [Hand.q2, Hand.q1, Hand.q5, Hand.q6, Hand.q4, Hand.q3, g_A] <;> rfl)
  have hB' : Below w.heap.size w w2 := Hand.stepB hb2 (by repeat (with_reducible first | apply hB | apply Below.drew | apply pw_below_drewN | (apply Below.setCell; rotate_left; (dsimp only; omega)) | (apply Below.alloc; rotate_left; (first | omega | (simp only [Hand.sa, Hand.ss, Hand.sd, Hand.sn]; omega))))) (Nat.le_refl _)
  clear HG hB g_A zw z_A z1_A z2_A y0_A y1_A c_A_0 f_A_0 c_A_1 f_A_1 c_A_2 f_A_2
  clear hb2
  have g_A := h_A
  have hB := hB'
  clear hB' h_A
  obtain ⟨z_A, z1_A, z2_A, y0_A, y1_A⟩ := Hand.hz g_A
  obtain ⟨c_A_0, f_A_0, c_A_1, f_A_1, c_A_2, f_A_2⟩ := Hand.hc3 g_A
  have zw : w.heap.size ≤ w2.heap.size := hB.size
  have HG := Lib.hid (And.intro g_A (hB))
  clear g_A hB
  go_wp2_with fail
  with_reducible refine (M2.out _).mono ?_
  rintro e w3 ⟨rfl, hb3⟩
  obtain ⟨g_A, hB⟩ := HG.out
  have h_A : w3.heap[w.heap.size]? = some (.cells #[.int .i64 n, .int .i64 d, .bool true] 24 (0, 0)) := by
    refine Hand.kb hb3 ?_; first | with_reducible exact g_A | (simp (disch := first | omega | (simp only [Hand.sa, Hand.ss, Hand.sd, Hand.sn]; first | done | omega)) only [Hand.q2, Hand.q1, Hand.q5, Hand.q6, Hand.q4, Hand.q3, g_A] <;> rfl)
  have hB' : Below w.heap.size w w3 := Hand.stepB hb3 (by repeat (with_reducible first | apply hB | apply Below.drew | apply pw_below_drewN | (apply Below.setCell; rotate_left; (dsimp only; omega)) | (apply Below.alloc; rotate_left; (first | omega | (simp only [Hand.sa, Hand.ss, Hand.sd, Hand.sn]; omega))))) (Nat.le_refl _)
  clear HG hB g_A zw z_A z1_A z2_A y0_A y1_A c_A_0 f_A_0 c_A_1 f_A_1 c_A_2 f_A_2
  clear hb3
  have g_A := h_A
  have hB := hB'
  clear hB' h_A
  obtain ⟨z_A, z1_A, z2_A, y0_A, y1_A⟩ := Hand.hz g_A
  obtain ⟨c_A_0, f_A_0, c_A_1, f_A_1, c_A_2, f_A_2⟩ := Hand.hc3 g_A
  have zw : w.heap.size ≤ w3.heap.size := hB.size
  have HG := Lib.hid (And.intro g_A (hB))
  clear g_A hB
  go_wp2_with fail
  with_reducible refine (M3.out _).mono ?_
  rintro e w4 ⟨rfl, hb4⟩
  obtain ⟨g_A, hB⟩ := HG.out
  have h_A : w4.heap[w.heap.size]? = some (.cells #[.int .i64 n, .int .i64 d, .bool true] 24 (0, 0)) := by
    refine Hand.kb hb4 ?_; first | with_reducible exact g_A | (simp (disch := first | omega | (simp only [Hand.sa, Hand.ss, Hand.sd, Hand.sn]; first | done | omega)) only [Hand.q2, Hand.q1, Hand.q5, Hand.q6, Hand.q4, Hand.q3, g_A] <;> rfl)
  have hB' : Below w.heap.size w w4 := Hand.stepB hb4 (by repeat (with_reducible first | apply hB | apply Below.drew | apply pw_below_drewN | (apply Below.setCell; rotate_left; (dsimp only; omega)) | (apply Below.alloc; rotate_left; (first | omega | (simp only [Hand.sa, Hand.ss, Hand.sd, Hand.sn]; omega))))) (Nat.le_refl _)
  clear HG hB g_A zw z_A z1_A z2_A y0_A y1_A c_A_0 f_A_0 c_A_1 f_A_1 c_A_2 f_A_2
  clear hb4
  have g_A := h_A
  have hB := hB'
  clear hB' h_A
  obtain ⟨z_A, z1_A, z2_A, y0_A, y1_A⟩ := Hand.hz g_A
  obtain ⟨c_A_0, f_A_0, c_A_1, f_A_1, c_A_2, f_A_2⟩ := Hand.hc3 g_A
  have zw : w.heap.size ≤ w4.heap.size := hB.size
  have HG := Lib.hid (And.intro g_A (hB))
  clear g_A hB
  go_wp2_with fail
  with_reducible refine (M4.out _).mono ?_
  rintro e w5 ⟨rfl, hb5⟩
  obtain ⟨g_A, hB⟩ := HG.out
  have h_A : w5.heap[w.heap.size]? = some (.cells #[.int .i64 n, .int .i64 d, .bool true] 24 (0, 0)) := by
    refine Hand.kb hb5 ?_; first | with_reducible exact g_A | (simp (disch := first | omega | (simp only [Hand.sa, Hand.ss, Hand.sd, Hand.sn]; first | done | omega)) only [Hand.q2, Hand.q1, Hand.q5, Hand.q6, Hand.q4, Hand.q3, g_A] <;> rfl)
  have h_X : w5.heap[w4.heap.size]? = some (.cells #[.int .i64 x, .int .i64 xy] 26 (0, 0)) := by
    refine Hand.kb hb5 ?_; simp (disch := first | omega | (simp only [Hand.sa, Hand.ss, Hand.sd, Hand.sn]; first | done | omega)) only [Hand.q2, Hand.q1, Hand.q5, Hand.q6, Hand.q4, Hand.q3] <;> rfl
  have hB' : Below w.heap.size w w5 := Hand.stepB hb5 (by repeat (with_reducible first | apply hB | apply Below.drew | apply pw_below_drewN | (apply Below.setCell; rotate_left; (dsimp only; omega)) | (apply Below.alloc; rotate_left; (first | omega | (simp only [Hand.sa, Hand.ss, Hand.sd, Hand.sn]; omega))))) (Nat.le_refl _)
  clear HG hB g_A zw z_A z1_A z2_A y0_A y1_A c_A_0 f_A_0 c_A_1 f_A_1 c_A_2 f_A_2
  clear hb5
  have g_A := h_A
  have g_X := h_X
  have hB := hB'
  clear hB' h_A h_X
  obtain ⟨z_A, z1_A, z2_A, y0_A, y1_A⟩ := Hand.hz g_A
  obtain ⟨c_A_0, f_A_0, c_A_1, f_A_1, c_A_2, f_A_2⟩ := Hand.hc3 g_A
  obtain ⟨z_X, z1_X, z2_X, y0_X, y1_X⟩ := Hand.hz g_X
  obtain ⟨c_X_0, f_X_0, c_X_1, f_X_1⟩ := Hand.hc2 g_X
  have zw : w.heap.size ≤ w5.heap.size := hB.size
  have HG := Lib.hid (And.intro g_A (And.intro g_X (hB)))
  clear g_A g_X hB
  go_wp2_with fail
  with_reducible refine (M5.out _ (tab_below HT0.out (bw HG.out.2.2))).mono ?_
  rintro e w6 ⟨rfl, hb6⟩
  obtain ⟨g_A, g_X, hB⟩ := HG.out
  have h_A : w6.heap[w.heap.size]? = some (.cells #[.int .i64 n, .int .i64 d, .bool true] 24 (0, 0)) := by
    refine Hand.kb hb6 ?_; first | with_reducible exact g_A | (simp (disch := first | omega | (simp only [Hand.sa, Hand.ss, Hand.sd, Hand.sn]; first | done | omega)) only [Hand.q2, Hand.q1, Hand.q5, Hand.q6, Hand.q4, Hand.q3, g_A] <;> rfl)
  have h_X : w6.heap[w4.heap.size]? = some (.cells #[.int .i64 x, .int .i64 xy] 26 (0, 0)) := by
    refine Hand.kb hb6 ?_; first | with_reducible exact g_X | (simp (disch := first | omega | (simp only [Hand.sa, Hand.ss, Hand.sd, Hand.sn]; first | done | omega)) only [Hand.q2, Hand.q1, Hand.q5, Hand.q6, Hand.q4, Hand.q3, g_X] <;> rfl)
  have h_Y : w6.heap[w5.heap.size]? = some (.cells #[.int .i64 x2, .int .i64 x2y] 26 (0, 0)) := by
    refine Hand.kb hb6 ?_; simp (disch := first | omega | (simp only [Hand.sa, Hand.ss, Hand.sd, Hand.sn]; first | done | omega)) only [Hand.q2, Hand.q1, Hand.q5, Hand.q6, Hand.q4, Hand.q3] <;> rfl
  have hB' : Below w.heap.size w w6 := Hand.stepB hb6 (by repeat (with_reducible first | apply hB | apply Below.drew | apply pw_below_drewN | (apply Below.setCell; rotate_left; (dsimp only; omega)) | (apply Below.alloc; rotate_left; (first | omega | (simp only [Hand.sa, Hand.ss, Hand.sd, Hand.sn]; omega))))) (Nat.le_refl _)
  clear HG hB g_A g_X zw z_A z1_A z2_A y0_A y1_A c_A_0 f_A_0 c_A_1 f_A_1 c_A_2 f_A_2 z_X z1_X z2_X y0_X y1_X c_X_0 f_X_0 c_X_1 f_X_1
  clear hb6
  have g_A := h_A
  have g_X := h_X
  have g_Y := h_Y
  have hB := hB'
  clear hB' h_A h_X h_Y
  obtain ⟨z_A, z1_A, z2_A, y0_A, y1_A⟩ := Hand.hz g_A
  obtain ⟨c_A_0, f_A_0, c_A_1, f_A_1, c_A_2, f_A_2⟩ := Hand.hc3 g_A
  obtain ⟨z_X, z1_X, z2_X, y0_X, y1_X⟩ := Hand.hz g_X
  obtain ⟨c_X_0, f_X_0, c_X_1, f_X_1⟩ := Hand.hc2 g_X
  obtain ⟨z_Y, z1_Y, z2_Y, y0_Y, y1_Y⟩ := Hand.hz g_Y
  obtain ⟨c_Y_0, f_Y_0, c_Y_1, f_Y_1⟩ := Hand.hc2 g_Y
  have zw : w.heap.size ≤ w6.heap.size := hB.size
  have HG := Lib.hid (And.intro g_A (And.intro g_X (And.intro g_Y (hB))))
  clear g_A g_X g_Y hB
  go_wp2_with fail
  with_reducible refine (M6.out _ (tab_below HT0.out (bw HG.out.2.2.2))).mono ?_
  rintro e w7 ⟨rfl, hb7⟩
  obtain ⟨g_A, g_X, g_Y, hB⟩ := HG.out
  have h_A : w7.heap[w.heap.size]? = some (.cells #[.int .i64 n, .int .i64 d, .bool true] 24 (0, 0)) := by
    refine Hand.kb hb7 ?_; first | with_reducible exact g_A | (simp (disch := first | omega | (simp only [Hand.sa, Hand.ss, Hand.sd, Hand.sn]; first | done | omega)) only [Hand.q2, Hand.q1, Hand.q5, Hand.q6, Hand.q4, Hand.q3, g_A] <;> rfl)
  have h_X : w7.heap[w4.heap.size]? = some (.cells #[.int .i64 x, .int .i64 xy] 26 (0, 0)) := by
    refine Hand.kb hb7 ?_; first | with_reducible exact g_X | (simp (disch := first | omega | (simp only [Hand.sa, Hand.ss, Hand.sd, Hand.sn]; first | done | omega)) only [Hand.q2, Hand.q1, Hand.q5, Hand.q6, Hand.q4, Hand.q3, g_X] <;> rfl)
  have h_Y : w7.heap[w5.heap.size]? = some (.cells #[.int .i64 x2, .int .i64 x2y] 26 (0, 0)) := by
    refine Hand.kb hb7 ?_; first | with_reducible exact g_Y | (simp (disch := first | omega | (simp only [Hand.sa, Hand.ss, Hand.sd, Hand.sn]; first | done | omega)) only [Hand.q2, Hand.q1, Hand.q5, Hand.q6, Hand.q4, Hand.q3, g_Y] <;> rfl)
  have hB' : Below w.heap.size w w7 := Hand.stepB hb7 (by repeat (with_reducible first | apply hB | apply Below.drew | apply pw_below_drewN | (apply Below.setCell; rotate_left; (dsimp only; omega)) | (apply Below.alloc; rotate_left; (first | omega | (simp only [Hand.sa, Hand.ss, Hand.sd, Hand.sn]; omega))))) (Nat.le_refl _)
  clear HG hB g_A g_X g_Y zw z_A z1_A z2_A y0_A y1_A c_A_0 f_A_0 c_A_1 f_A_1 c_A_2 f_A_2 z_X z1_X z2_X y0_X y1_X c_X_0 f_X_0 c_X_1 f_X_1 z_Y z1_Y z2_Y y0_Y y1_Y c_Y_0 f_Y_0 c_Y_1 f_Y_1
  clear hb7
  have g_A := h_A
  have g_X := h_X
  have g_Y := h_Y
  have hB := hB'
  clear hB' h_A h_X h_Y
  obtain ⟨z_A, z1_A, z2_A, y0_A, y1_A⟩ := Hand.hz g_A
  obtain ⟨c_A_0, f_A_0, c_A_1, f_A_1, c_A_2, f_A_2⟩ := Hand.hc3 g_A
  obtain ⟨z_X, z1_X, z2_X, y0_X, y1_X⟩ := Hand.hz g_X
  obtain ⟨c_X_0, f_X_0, c_X_1, f_X_1⟩ := Hand.hc2 g_X
  obtain ⟨z_Y, z1_Y, z2_Y, y0_Y, y1_Y⟩ := Hand.hz g_Y
  obtain ⟨c_Y_0, f_Y_0, c_Y_1, f_Y_1⟩ := Hand.hc2 g_Y
  have zw : w.heap.size ≤ w7.heap.size := hB.size
  have HG := Lib.hid (And.intro g_A (And.intro g_X (And.intro g_Y (hB))))
  clear g_A g_X g_Y hB
  go_wp2_with fail
  with_reducible refine (M7.out _).mono ?_
  rintro e w8 ⟨rfl, hb8⟩
  obtain ⟨g_A, g_X, g_Y, hB⟩ := HG.out
  have h_A : w8.heap[w.heap.size]? = some (.cells #[.int .i64 n, .int .i64 d, .bool true] 24 (0, 0)) := by
    refine Hand.kb hb8 ?_; first | with_reducible exact g_A | (simp (disch := first | omega | (simp only [Hand.sa, Hand.ss, Hand.sd, Hand.sn]; first | done | omega)) only [Hand.q2, Hand.q1, Hand.q5, Hand.q6, Hand.q4, Hand.q3, g_A] <;> rfl)
  have h_X : w8.heap[w4.heap.size]? = some (.cells #[.int .i64 x, .int .i64 xy] 26 (0, 0)) := by
    refine Hand.kb hb8 ?_; first | with_reducible exact g_X | (simp (disch := first | omega | (simp only [Hand.sa, Hand.ss, Hand.sd, Hand.sn]; first | done | omega)) only [Hand.q2, Hand.q1, Hand.q5, Hand.q6, Hand.q4, Hand.q3, g_X] <;> rfl)
  have h_Y : w8.heap[w5.heap.size]? = some (.cells #[.int .i64 x2, .int .i64 x2y] 26 (0, 0)) := by
    refine Hand.kb hb8 ?_; first | with_reducible exact g_Y | (simp (disch := first | omega | (simp only [Hand.sa, Hand.ss, Hand.sd, Hand.sn]; first | done | omega)) only [Hand.q2, Hand.q1, Hand.q5, Hand.q6, Hand.q4, Hand.q3, g_Y] <;> rfl)
  have hB' : Below w.heap.size w w8 := Hand.stepB hb8 (by repeat (with_reducible first | apply hB | apply Below.drew | apply pw_below_drewN | (apply Below.setCell; rotate_left; (dsimp only; omega)) | (apply Below.alloc; rotate_left; (first | omega | (simp only [Hand.sa, Hand.ss, Hand.sd, Hand.sn]; omega))))) (Nat.le_refl _)
  clear HG hB g_A g_X g_Y zw z_A z1_A z2_A y0_A y1_A c_A_0 f_A_0 c_A_1 f_A_1 c_A_2 f_A_2 z_X z1_X z2_X y0_X y1_X c_X_0 f_X_0 c_X_1 f_X_1 z_Y z1_Y z2_Y y0_Y y1_Y c_Y_0 f_Y_0 c_Y_1 f_Y_1
  clear hb8
  have g_A := h_A
  have g_X := h_X
  have g_Y := h_Y
  have hB := hB'
  clear hB' h_A h_X h_Y
  obtain ⟨z_A, z1_A, z2_A, y0_A, y1_A⟩ := Hand.hz g_A
  obtain ⟨c_A_0, f_A_0, c_A_1, f_A_1, c_A_2, f_A_2⟩ := Hand.hc3 g_A
  obtain ⟨z_X, z1_X, z2_X, y0_X, y1_X⟩ := Hand.hz g_X
  obtain ⟨c_X_0, f_X_0, c_X_1, f_X_1⟩ := Hand.hc2 g_X
  obtain ⟨z_Y, z1_Y, z2_Y, y0_Y, y1_Y⟩ := Hand.hz g_Y
  obtain ⟨c_Y_0, f_Y_0, c_Y_1, f_Y_1⟩ := Hand.hc2 g_Y
  have zw : w.heap.size ≤ w8.heap.size := hB.size
  have HG := Lib.hid (And.intro g_A (And.intro g_X (And.intro g_Y (hB))))
  clear g_A g_X g_Y hB
  go_wp2_with fail
  with_reducible refine (M8.out _ (tab_below HT0.out (bw HG.out.2.2.2))).mono ?_
  rintro e w9 ⟨rfl, hb9⟩
  obtain ⟨g_A, g_X, g_Y, hB⟩ := HG.out
  have h_A : w9.heap[w.heap.size]? = some (.cells #[.int .i64 n, .int .i64 d, .bool true] 24 (0, 0)) := by
    refine Hand.kb hb9 ?_; first | with_reducible exact g_A | (simp (disch := first | omega | (simp only [Hand.sa, Hand.ss, Hand.sd, Hand.sn]; first | done | omega)) only [Hand.q2, Hand.q1, Hand.q5, Hand.q6, Hand.q4, Hand.q3, g_A] <;> rfl)
  have h_X : w9.heap[w4.heap.size]? = some (.cells #[.int .i64 x, .int .i64 xy] 26 (0, 0)) := by
    refine Hand.kb hb9 ?_; first | with_reducible exact g_X | (simp (disch := first | omega | (simp only [Hand.sa, Hand.ss, Hand.sd, Hand.sn]; first | done | omega)) only [Hand.q2, Hand.q1, Hand.q5, Hand.q6, Hand.q4, Hand.q3, g_X] <;> rfl)
  have h_Y : w9.heap[w5.heap.size]? = some (.cells #[.int .i64 x2, .int .i64 x2y] 26 (0, 0)) := by
    refine Hand.kb hb9 ?_; first | with_reducible exact g_Y | (simp (disch := first | omega | (simp only [Hand.sa, Hand.ss, Hand.sd, Hand.sn]; first | done | omega)) only [Hand.q2, Hand.q1, Hand.q5, Hand.q6, Hand.q4, Hand.q3, g_Y] <;> rfl)
  have h_Z : w9.heap[w8.heap.size]? = some (.cells #[.int .i64 x3, .int .i64 x3y] 26 (0, 0)) := by
    refine Hand.kb hb9 ?_; simp (disch := first | omega | (simp only [Hand.sa, Hand.ss, Hand.sd, Hand.sn]; first | done | omega)) only [Hand.q2, Hand.q1, Hand.q5, Hand.q6, Hand.q4, Hand.q3] <;> rfl
  have hB' : Below w.heap.size w w9 := Hand.stepB hb9 (by repeat (with_reducible first | apply hB | apply Below.drew | apply pw_below_drewN | (apply Below.setCell; rotate_left; (dsimp only; omega)) | (apply Below.alloc; rotate_left; (first | omega | (simp only [Hand.sa, Hand.ss, Hand.sd, Hand.sn]; omega))))) (Nat.le_refl _)
  clear HG hB g_A g_X g_Y zw z_A z1_A z2_A y0_A y1_A c_A_0 f_A_0 c_A_1 f_A_1 c_A_2 f_A_2 z_X z1_X z2_X y0_X y1_X c_X_0 f_X_0 c_X_1 f_X_1 z_Y z1_Y z2_Y y0_Y y1_Y c_Y_0 f_Y_0 c_Y_1 f_Y_1
  clear hb9
  have g_A := h_A
  have g_X := h_X
  have g_Y := h_Y
  have g_Z := h_Z
  have hB := hB'
  clear hB' h_A h_X h_Y h_Z
  obtain ⟨z_A, z1_A, z2_A, y0_A, y1_A⟩ := Hand.hz g_A
  obtain ⟨c_A_0, f_A_0, c_A_1, f_A_1, c_A_2, f_A_2⟩ := Hand.hc3 g_A
  obtain ⟨z_X, z1_X, z2_X, y0_X, y1_X⟩ := Hand.hz g_X
  obtain ⟨c_X_0, f_X_0, c_X_1, f_X_1⟩ := Hand.hc2 g_X
  obtain ⟨z_Y, z1_Y, z2_Y, y0_Y, y1_Y⟩ := Hand.hz g_Y
  obtain ⟨c_Y_0, f_Y_0, c_Y_1, f_Y_1⟩ := Hand.hc2 g_Y
  obtain ⟨z_Z, z1_Z, z2_Z, y0_Z, y1_Z⟩ := Hand.hz g_Z
  obtain ⟨c_Z_0, f_Z_0, c_Z_1, f_Z_1⟩ := Hand.hc2 g_Z
  have zw : w.heap.size ≤ w9.heap.size := hB.size
  have HG := Lib.hid (And.intro g_A (And.intro g_X (And.intro g_Y (And.intro g_Z (hB)))))
  clear g_A g_X g_Y g_Z hB
  go_wp2
  go_ret
  obtain ⟨g_A, g_X, g_Y, g_Z, hB⟩ := HG.out
  exact ⟨by first | rfl | (simp; done) | (simp; decide) | (simp; rfl) | (simp [Lib.toList_data]; done), by first | exact hB | exact bw hB⟩
set_option maxHeartbeats 2000000 in
set_option maxRecDepth 100000 in
theorem beyond_true_w (n d k x xy x2 x2y x3 x3y : Int) (S1 S2 : ByteArray) (n1 : 1 ≤ n) (n2 : n ≤ 240000) (d1 : 1 ≤ d) (d2 : d ≤ 1001) (k0 : 0 ≤ k) (k1 : k ≤ 100000000) (hf : 100 < (n + d - 1) / d) (w : World) (ht : TabN w)
    (m0 : ∀ w, TabN w → Calls Tryd.prog 16 #[] w fun e w' => e = .returned (.bool true) ∧ Below w.heap.size w w')
    (m1 : ∀ w, Calls Tryd.prog 25 #[rate n d true] w fun e w' => e = .returned (.int .i64 0) ∧ Below w.heap.size w w')
    (m2 : ∀ w, Calls Tryd.prog 30 #[rate n d true, .agg #[.int .i64 360000, .int .i64 1], .int .i64 1] w fun e w' => e = .returned (.tuple #[.int .i64 k, .int .i64 0]) ∧ Below w.heap.size w w')
    (m3 : ∀ w, Calls Tryd.prog 17 #[rate n d true, .int .i64 k] w fun e w' => e = .returned (.tuple #[.agg #[.int .i64 x, .int .i64 xy], .int .i64 0]) ∧ Below w.heap.size w w')
    (m4 : ∀ w, Calls Tryd.prog 17 #[rate n d true, .int .i64 (k + 1)] w fun e w' => e = .returned (.tuple #[.agg #[.int .i64 x2, .int .i64 x2y], .int .i64 31]) ∧ Below w.heap.size w w')
    (m5 : ∀ w, TabN w → Calls Tryd.prog 18 #[rate n d true, .int .i64 k] w fun e w' => e = .returned (.tuple #[.string S1, .int .i64 0]) ∧ Below w.heap.size w w')
    (m6 : ∀ w, TabN w → Calls Tryd.prog 18 #[rate n d true, .int .i64 (k + 1)] w fun e w' => e = .returned (.tuple #[.string S2, .int .i64 31]) ∧ Below w.heap.size w w')
    (m7 : ∀ w, Calls Tryd.prog 17 #[rate n d true, .int .i64 (-1)] w fun e w' => e = .returned (.tuple #[.agg #[.int .i64 x3, .int .i64 x3y], .int .i64 31]) ∧ Below w.heap.size w w')
    (m8 : ∀ w, TabN w → Calls Tryd.prog 18 #[rate n d true, .int .i64 0] w fun e w' => e = .returned (.tuple #[.string ⟨#[48, 48, 58, 48, 48, 58, 48, 48, 59, 48, 48, 48]⟩, .int .i64 0]) ∧ Below w.heap.size w w') :
    Calls Tryd.prog 13 #[rate n d true] w fun e w' => e = .returned (.bool true) ∧ Below w.heap.size w w' := by
  have hd2 : ¬ d = 0 := by omega
  have HT0 := Lib.hid ht
  have M0 := Lib.hid m0
  have M1 := Lib.hid m1
  have M2 := Lib.hid m2
  have M3 := Lib.hid m3
  have M4 := Lib.hid m4
  have M5 := Lib.hid m5
  have M6 := Lib.hid m6
  have M7 := Lib.hid m7
  have M8 := Lib.hid m8
  clear m0 m1 m2 m3 m4 m5 m6 m7 m8 ht
  go_enter Tryd.func13, Tryd.ntmps13
  go_wp2_with fail
  with_reducible refine (M0.out _ (tab_below HT0.out (bw (Below.refl _ _)))).mono ?_
  rintro e w1 ⟨rfl, hb1⟩
  have h_A : w1.heap[w.heap.size]? = some (.cells #[.int .i64 n, .int .i64 d, .bool true] 24 (0, 0)) := by
    refine Hand.kb hb1 ?_; simp (disch := first | omega | (simp only [Hand.sa, Hand.ss, Hand.sd, Hand.sn]; first | done | omega)) only [Hand.q2, Hand.q1, Hand.q5, Hand.q6, Hand.q4, Hand.q3] <;> rfl
  have hB' : Below w.heap.size w w1 := Hand.stepB hb1 (by repeat (with_reducible first | apply Below.refl _ _ | apply Below.drew | apply pw_below_drewN | (apply Below.setCell; rotate_left; (dsimp only; omega)) | (apply Below.alloc; rotate_left; (first | omega | (simp only [Hand.sa, Hand.ss, Hand.sd, Hand.sn]; omega))))) (Nat.le_refl _)
  clear hb1
  have g_A := h_A
  have hB := hB'
  clear hB' h_A
  obtain ⟨z_A, z1_A, z2_A, y0_A, y1_A⟩ := Hand.hz g_A
  obtain ⟨c_A_0, f_A_0, c_A_1, f_A_1, c_A_2, f_A_2⟩ := Hand.hc3 g_A
  have zw : w.heap.size ≤ w1.heap.size := hB.size
  have HG := Lib.hid (And.intro g_A (hB))
  clear g_A hB
  go_wp2_with fail
  with_reducible refine (M1.out _).mono ?_
  rintro e w2 ⟨rfl, hb2⟩
  obtain ⟨g_A, hB⟩ := HG.out
  have h_A : w2.heap[w.heap.size]? = some (.cells #[.int .i64 n, .int .i64 d, .bool true] 24 (0, 0)) := by
    refine Hand.kb hb2 ?_; first | with_reducible exact g_A | (simp (disch := first | omega | (simp only [Hand.sa, Hand.ss, Hand.sd, Hand.sn]; first | done | omega)) only [Hand.q2, Hand.q1, Hand.q5, Hand.q6, Hand.q4, Hand.q3, g_A] <;> rfl)
  have hB' : Below w.heap.size w w2 := Hand.stepB hb2 (by repeat (with_reducible first | apply hB | apply Below.drew | apply pw_below_drewN | (apply Below.setCell; rotate_left; (dsimp only; omega)) | (apply Below.alloc; rotate_left; (first | omega | (simp only [Hand.sa, Hand.ss, Hand.sd, Hand.sn]; omega))))) (Nat.le_refl _)
  clear HG hB g_A zw z_A z1_A z2_A y0_A y1_A c_A_0 f_A_0 c_A_1 f_A_1 c_A_2 f_A_2
  clear hb2
  have g_A := h_A
  have hB := hB'
  clear hB' h_A
  obtain ⟨z_A, z1_A, z2_A, y0_A, y1_A⟩ := Hand.hz g_A
  obtain ⟨c_A_0, f_A_0, c_A_1, f_A_1, c_A_2, f_A_2⟩ := Hand.hc3 g_A
  have zw : w.heap.size ≤ w2.heap.size := hB.size
  have HG := Lib.hid (And.intro g_A (hB))
  clear g_A hB
  go_wp2_with fail
  with_reducible refine (M2.out _).mono ?_
  rintro e w3 ⟨rfl, hb3⟩
  obtain ⟨g_A, hB⟩ := HG.out
  have h_A : w3.heap[w.heap.size]? = some (.cells #[.int .i64 n, .int .i64 d, .bool true] 24 (0, 0)) := by
    refine Hand.kb hb3 ?_; first | with_reducible exact g_A | (simp (disch := first | omega | (simp only [Hand.sa, Hand.ss, Hand.sd, Hand.sn]; first | done | omega)) only [Hand.q2, Hand.q1, Hand.q5, Hand.q6, Hand.q4, Hand.q3, g_A] <;> rfl)
  have hB' : Below w.heap.size w w3 := Hand.stepB hb3 (by repeat (with_reducible first | apply hB | apply Below.drew | apply pw_below_drewN | (apply Below.setCell; rotate_left; (dsimp only; omega)) | (apply Below.alloc; rotate_left; (first | omega | (simp only [Hand.sa, Hand.ss, Hand.sd, Hand.sn]; omega))))) (Nat.le_refl _)
  clear HG hB g_A zw z_A z1_A z2_A y0_A y1_A c_A_0 f_A_0 c_A_1 f_A_1 c_A_2 f_A_2
  clear hb3
  have g_A := h_A
  have hB := hB'
  clear hB' h_A
  obtain ⟨z_A, z1_A, z2_A, y0_A, y1_A⟩ := Hand.hz g_A
  obtain ⟨c_A_0, f_A_0, c_A_1, f_A_1, c_A_2, f_A_2⟩ := Hand.hc3 g_A
  have zw : w.heap.size ≤ w3.heap.size := hB.size
  have HG := Lib.hid (And.intro g_A (hB))
  clear g_A hB
  go_wp2_with fail
  with_reducible refine (M3.out _).mono ?_
  rintro e w4 ⟨rfl, hb4⟩
  obtain ⟨g_A, hB⟩ := HG.out
  have h_A : w4.heap[w.heap.size]? = some (.cells #[.int .i64 n, .int .i64 d, .bool true] 24 (0, 0)) := by
    refine Hand.kb hb4 ?_; first | with_reducible exact g_A | (simp (disch := first | omega | (simp only [Hand.sa, Hand.ss, Hand.sd, Hand.sn]; first | done | omega)) only [Hand.q2, Hand.q1, Hand.q5, Hand.q6, Hand.q4, Hand.q3, g_A] <;> rfl)
  have hB' : Below w.heap.size w w4 := Hand.stepB hb4 (by repeat (with_reducible first | apply hB | apply Below.drew | apply pw_below_drewN | (apply Below.setCell; rotate_left; (dsimp only; omega)) | (apply Below.alloc; rotate_left; (first | omega | (simp only [Hand.sa, Hand.ss, Hand.sd, Hand.sn]; omega))))) (Nat.le_refl _)
  clear HG hB g_A zw z_A z1_A z2_A y0_A y1_A c_A_0 f_A_0 c_A_1 f_A_1 c_A_2 f_A_2
  clear hb4
  have g_A := h_A
  have hB := hB'
  clear hB' h_A
  obtain ⟨z_A, z1_A, z2_A, y0_A, y1_A⟩ := Hand.hz g_A
  obtain ⟨c_A_0, f_A_0, c_A_1, f_A_1, c_A_2, f_A_2⟩ := Hand.hc3 g_A
  have zw : w.heap.size ≤ w4.heap.size := hB.size
  have HG := Lib.hid (And.intro g_A (hB))
  clear g_A hB
  go_wp2_with fail
  with_reducible refine (M4.out _).mono ?_
  rintro e w5 ⟨rfl, hb5⟩
  obtain ⟨g_A, hB⟩ := HG.out
  have h_A : w5.heap[w.heap.size]? = some (.cells #[.int .i64 n, .int .i64 d, .bool true] 24 (0, 0)) := by
    refine Hand.kb hb5 ?_; first | with_reducible exact g_A | (simp (disch := first | omega | (simp only [Hand.sa, Hand.ss, Hand.sd, Hand.sn]; first | done | omega)) only [Hand.q2, Hand.q1, Hand.q5, Hand.q6, Hand.q4, Hand.q3, g_A] <;> rfl)
  have h_X : w5.heap[w4.heap.size]? = some (.cells #[.int .i64 x, .int .i64 xy] 26 (0, 0)) := by
    refine Hand.kb hb5 ?_; simp (disch := first | omega | (simp only [Hand.sa, Hand.ss, Hand.sd, Hand.sn]; first | done | omega)) only [Hand.q2, Hand.q1, Hand.q5, Hand.q6, Hand.q4, Hand.q3] <;> rfl
  have hB' : Below w.heap.size w w5 := Hand.stepB hb5 (by repeat (with_reducible first | apply hB | apply Below.drew | apply pw_below_drewN | (apply Below.setCell; rotate_left; (dsimp only; omega)) | (apply Below.alloc; rotate_left; (first | omega | (simp only [Hand.sa, Hand.ss, Hand.sd, Hand.sn]; omega))))) (Nat.le_refl _)
  clear HG hB g_A zw z_A z1_A z2_A y0_A y1_A c_A_0 f_A_0 c_A_1 f_A_1 c_A_2 f_A_2
  clear hb5
  have g_A := h_A
  have g_X := h_X
  have hB := hB'
  clear hB' h_A h_X
  obtain ⟨z_A, z1_A, z2_A, y0_A, y1_A⟩ := Hand.hz g_A
  obtain ⟨c_A_0, f_A_0, c_A_1, f_A_1, c_A_2, f_A_2⟩ := Hand.hc3 g_A
  obtain ⟨z_X, z1_X, z2_X, y0_X, y1_X⟩ := Hand.hz g_X
  obtain ⟨c_X_0, f_X_0, c_X_1, f_X_1⟩ := Hand.hc2 g_X
  have zw : w.heap.size ≤ w5.heap.size := hB.size
  have HG := Lib.hid (And.intro g_A (And.intro g_X (hB)))
  clear g_A g_X hB
  go_wp2_with fail
  with_reducible refine (M5.out _ (tab_below HT0.out (bw HG.out.2.2))).mono ?_
  rintro e w6 ⟨rfl, hb6⟩
  obtain ⟨g_A, g_X, hB⟩ := HG.out
  have h_A : w6.heap[w.heap.size]? = some (.cells #[.int .i64 n, .int .i64 d, .bool true] 24 (0, 0)) := by
    refine Hand.kb hb6 ?_; first | with_reducible exact g_A | (simp (disch := first | omega | (simp only [Hand.sa, Hand.ss, Hand.sd, Hand.sn]; first | done | omega)) only [Hand.q2, Hand.q1, Hand.q5, Hand.q6, Hand.q4, Hand.q3, g_A] <;> rfl)
  have h_X : w6.heap[w4.heap.size]? = some (.cells #[.int .i64 x, .int .i64 xy] 26 (0, 0)) := by
    refine Hand.kb hb6 ?_; first | with_reducible exact g_X | (simp (disch := first | omega | (simp only [Hand.sa, Hand.ss, Hand.sd, Hand.sn]; first | done | omega)) only [Hand.q2, Hand.q1, Hand.q5, Hand.q6, Hand.q4, Hand.q3, g_X] <;> rfl)
  have h_Y : w6.heap[w5.heap.size]? = some (.cells #[.int .i64 x2, .int .i64 x2y] 26 (0, 0)) := by
    refine Hand.kb hb6 ?_; simp (disch := first | omega | (simp only [Hand.sa, Hand.ss, Hand.sd, Hand.sn]; first | done | omega)) only [Hand.q2, Hand.q1, Hand.q5, Hand.q6, Hand.q4, Hand.q3] <;> rfl
  have hB' : Below w.heap.size w w6 := Hand.stepB hb6 (by repeat (with_reducible first | apply hB | apply Below.drew | apply pw_below_drewN | (apply Below.setCell; rotate_left; (dsimp only; omega)) | (apply Below.alloc; rotate_left; (first | omega | (simp only [Hand.sa, Hand.ss, Hand.sd, Hand.sn]; omega))))) (Nat.le_refl _)
  clear HG hB g_A g_X zw z_A z1_A z2_A y0_A y1_A c_A_0 f_A_0 c_A_1 f_A_1 c_A_2 f_A_2 z_X z1_X z2_X y0_X y1_X c_X_0 f_X_0 c_X_1 f_X_1
  clear hb6
  have g_A := h_A
  have g_X := h_X
  have g_Y := h_Y
  have hB := hB'
  clear hB' h_A h_X h_Y
  obtain ⟨z_A, z1_A, z2_A, y0_A, y1_A⟩ := Hand.hz g_A
  obtain ⟨c_A_0, f_A_0, c_A_1, f_A_1, c_A_2, f_A_2⟩ := Hand.hc3 g_A
  obtain ⟨z_X, z1_X, z2_X, y0_X, y1_X⟩ := Hand.hz g_X
  obtain ⟨c_X_0, f_X_0, c_X_1, f_X_1⟩ := Hand.hc2 g_X
  obtain ⟨z_Y, z1_Y, z2_Y, y0_Y, y1_Y⟩ := Hand.hz g_Y
  obtain ⟨c_Y_0, f_Y_0, c_Y_1, f_Y_1⟩ := Hand.hc2 g_Y
  have zw : w.heap.size ≤ w6.heap.size := hB.size
  have HG := Lib.hid (And.intro g_A (And.intro g_X (And.intro g_Y (hB))))
  clear g_A g_X g_Y hB
  go_wp2_with fail
  with_reducible refine (M6.out _ (tab_below HT0.out (bw HG.out.2.2.2))).mono ?_
  rintro e w7 ⟨rfl, hb7⟩
  obtain ⟨g_A, g_X, g_Y, hB⟩ := HG.out
  have h_A : w7.heap[w.heap.size]? = some (.cells #[.int .i64 n, .int .i64 d, .bool true] 24 (0, 0)) := by
    refine Hand.kb hb7 ?_; first | with_reducible exact g_A | (simp (disch := first | omega | (simp only [Hand.sa, Hand.ss, Hand.sd, Hand.sn]; first | done | omega)) only [Hand.q2, Hand.q1, Hand.q5, Hand.q6, Hand.q4, Hand.q3, g_A] <;> rfl)
  have h_X : w7.heap[w4.heap.size]? = some (.cells #[.int .i64 x, .int .i64 xy] 26 (0, 0)) := by
    refine Hand.kb hb7 ?_; first | with_reducible exact g_X | (simp (disch := first | omega | (simp only [Hand.sa, Hand.ss, Hand.sd, Hand.sn]; first | done | omega)) only [Hand.q2, Hand.q1, Hand.q5, Hand.q6, Hand.q4, Hand.q3, g_X] <;> rfl)
  have h_Y : w7.heap[w5.heap.size]? = some (.cells #[.int .i64 x2, .int .i64 x2y] 26 (0, 0)) := by
    refine Hand.kb hb7 ?_; first | with_reducible exact g_Y | (simp (disch := first | omega | (simp only [Hand.sa, Hand.ss, Hand.sd, Hand.sn]; first | done | omega)) only [Hand.q2, Hand.q1, Hand.q5, Hand.q6, Hand.q4, Hand.q3, g_Y] <;> rfl)
  have hB' : Below w.heap.size w w7 := Hand.stepB hb7 (by repeat (with_reducible first | apply hB | apply Below.drew | apply pw_below_drewN | (apply Below.setCell; rotate_left; (dsimp only; omega)) | (apply Below.alloc; rotate_left; (first | omega | (simp only [Hand.sa, Hand.ss, Hand.sd, Hand.sn]; omega))))) (Nat.le_refl _)
  clear HG hB g_A g_X g_Y zw z_A z1_A z2_A y0_A y1_A c_A_0 f_A_0 c_A_1 f_A_1 c_A_2 f_A_2 z_X z1_X z2_X y0_X y1_X c_X_0 f_X_0 c_X_1 f_X_1 z_Y z1_Y z2_Y y0_Y y1_Y c_Y_0 f_Y_0 c_Y_1 f_Y_1
  clear hb7
  have g_A := h_A
  have g_X := h_X
  have g_Y := h_Y
  have hB := hB'
  clear hB' h_A h_X h_Y
  obtain ⟨z_A, z1_A, z2_A, y0_A, y1_A⟩ := Hand.hz g_A
  obtain ⟨c_A_0, f_A_0, c_A_1, f_A_1, c_A_2, f_A_2⟩ := Hand.hc3 g_A
  obtain ⟨z_X, z1_X, z2_X, y0_X, y1_X⟩ := Hand.hz g_X
  obtain ⟨c_X_0, f_X_0, c_X_1, f_X_1⟩ := Hand.hc2 g_X
  obtain ⟨z_Y, z1_Y, z2_Y, y0_Y, y1_Y⟩ := Hand.hz g_Y
  obtain ⟨c_Y_0, f_Y_0, c_Y_1, f_Y_1⟩ := Hand.hc2 g_Y
  have zw : w.heap.size ≤ w7.heap.size := hB.size
  have HG := Lib.hid (And.intro g_A (And.intro g_X (And.intro g_Y (hB))))
  clear g_A g_X g_Y hB
  go_wp2_with fail
  with_reducible refine (M7.out _).mono ?_
  rintro e w8 ⟨rfl, hb8⟩
  obtain ⟨g_A, g_X, g_Y, hB⟩ := HG.out
  have h_A : w8.heap[w.heap.size]? = some (.cells #[.int .i64 n, .int .i64 d, .bool true] 24 (0, 0)) := by
    refine Hand.kb hb8 ?_; first | with_reducible exact g_A | (simp (disch := first | omega | (simp only [Hand.sa, Hand.ss, Hand.sd, Hand.sn]; first | done | omega)) only [Hand.q2, Hand.q1, Hand.q5, Hand.q6, Hand.q4, Hand.q3, g_A] <;> rfl)
  have h_X : w8.heap[w4.heap.size]? = some (.cells #[.int .i64 x, .int .i64 xy] 26 (0, 0)) := by
    refine Hand.kb hb8 ?_; first | with_reducible exact g_X | (simp (disch := first | omega | (simp only [Hand.sa, Hand.ss, Hand.sd, Hand.sn]; first | done | omega)) only [Hand.q2, Hand.q1, Hand.q5, Hand.q6, Hand.q4, Hand.q3, g_X] <;> rfl)
  have h_Y : w8.heap[w5.heap.size]? = some (.cells #[.int .i64 x2, .int .i64 x2y] 26 (0, 0)) := by
    refine Hand.kb hb8 ?_; first | with_reducible exact g_Y | (simp (disch := first | omega | (simp only [Hand.sa, Hand.ss, Hand.sd, Hand.sn]; first | done | omega)) only [Hand.q2, Hand.q1, Hand.q5, Hand.q6, Hand.q4, Hand.q3, g_Y] <;> rfl)
  have hB' : Below w.heap.size w w8 := Hand.stepB hb8 (by repeat (with_reducible first | apply hB | apply Below.drew | apply pw_below_drewN | (apply Below.setCell; rotate_left; (dsimp only; omega)) | (apply Below.alloc; rotate_left; (first | omega | (simp only [Hand.sa, Hand.ss, Hand.sd, Hand.sn]; omega))))) (Nat.le_refl _)
  clear HG hB g_A g_X g_Y zw z_A z1_A z2_A y0_A y1_A c_A_0 f_A_0 c_A_1 f_A_1 c_A_2 f_A_2 z_X z1_X z2_X y0_X y1_X c_X_0 f_X_0 c_X_1 f_X_1 z_Y z1_Y z2_Y y0_Y y1_Y c_Y_0 f_Y_0 c_Y_1 f_Y_1
  clear hb8
  have g_A := h_A
  have g_X := h_X
  have g_Y := h_Y
  have hB := hB'
  clear hB' h_A h_X h_Y
  obtain ⟨z_A, z1_A, z2_A, y0_A, y1_A⟩ := Hand.hz g_A
  obtain ⟨c_A_0, f_A_0, c_A_1, f_A_1, c_A_2, f_A_2⟩ := Hand.hc3 g_A
  obtain ⟨z_X, z1_X, z2_X, y0_X, y1_X⟩ := Hand.hz g_X
  obtain ⟨c_X_0, f_X_0, c_X_1, f_X_1⟩ := Hand.hc2 g_X
  obtain ⟨z_Y, z1_Y, z2_Y, y0_Y, y1_Y⟩ := Hand.hz g_Y
  obtain ⟨c_Y_0, f_Y_0, c_Y_1, f_Y_1⟩ := Hand.hc2 g_Y
  have zw : w.heap.size ≤ w8.heap.size := hB.size
  have HG := Lib.hid (And.intro g_A (And.intro g_X (And.intro g_Y (hB))))
  clear g_A g_X g_Y hB
  go_wp2_with fail
  with_reducible refine (M8.out _ (tab_below HT0.out (bw HG.out.2.2.2))).mono ?_
  rintro e w9 ⟨rfl, hb9⟩
  obtain ⟨g_A, g_X, g_Y, hB⟩ := HG.out
  have h_A : w9.heap[w.heap.size]? = some (.cells #[.int .i64 n, .int .i64 d, .bool true] 24 (0, 0)) := by
    refine Hand.kb hb9 ?_; first | with_reducible exact g_A | (simp (disch := first | omega | (simp only [Hand.sa, Hand.ss, Hand.sd, Hand.sn]; first | done | omega)) only [Hand.q2, Hand.q1, Hand.q5, Hand.q6, Hand.q4, Hand.q3, g_A] <;> rfl)
  have h_X : w9.heap[w4.heap.size]? = some (.cells #[.int .i64 x, .int .i64 xy] 26 (0, 0)) := by
    refine Hand.kb hb9 ?_; first | with_reducible exact g_X | (simp (disch := first | omega | (simp only [Hand.sa, Hand.ss, Hand.sd, Hand.sn]; first | done | omega)) only [Hand.q2, Hand.q1, Hand.q5, Hand.q6, Hand.q4, Hand.q3, g_X] <;> rfl)
  have h_Y : w9.heap[w5.heap.size]? = some (.cells #[.int .i64 x2, .int .i64 x2y] 26 (0, 0)) := by
    refine Hand.kb hb9 ?_; first | with_reducible exact g_Y | (simp (disch := first | omega | (simp only [Hand.sa, Hand.ss, Hand.sd, Hand.sn]; first | done | omega)) only [Hand.q2, Hand.q1, Hand.q5, Hand.q6, Hand.q4, Hand.q3, g_Y] <;> rfl)
  have h_Z : w9.heap[w8.heap.size]? = some (.cells #[.int .i64 x3, .int .i64 x3y] 26 (0, 0)) := by
    refine Hand.kb hb9 ?_; simp (disch := first | omega | (simp only [Hand.sa, Hand.ss, Hand.sd, Hand.sn]; first | done | omega)) only [Hand.q2, Hand.q1, Hand.q5, Hand.q6, Hand.q4, Hand.q3] <;> rfl
  have hB' : Below w.heap.size w w9 := Hand.stepB hb9 (by repeat (with_reducible first | apply hB | apply Below.drew | apply pw_below_drewN | (apply Below.setCell; rotate_left; (dsimp only; omega)) | (apply Below.alloc; rotate_left; (first | omega | (simp only [Hand.sa, Hand.ss, Hand.sd, Hand.sn]; omega))))) (Nat.le_refl _)
  clear HG hB g_A g_X g_Y zw z_A z1_A z2_A y0_A y1_A c_A_0 f_A_0 c_A_1 f_A_1 c_A_2 f_A_2 z_X z1_X z2_X y0_X y1_X c_X_0 f_X_0 c_X_1 f_X_1 z_Y z1_Y z2_Y y0_Y y1_Y c_Y_0 f_Y_0 c_Y_1 f_Y_1
  clear hb9
  have g_A := h_A
  have g_X := h_X
  have g_Y := h_Y
  have g_Z := h_Z
  have hB := hB'
  clear hB' h_A h_X h_Y h_Z
  obtain ⟨z_A, z1_A, z2_A, y0_A, y1_A⟩ := Hand.hz g_A
  obtain ⟨c_A_0, f_A_0, c_A_1, f_A_1, c_A_2, f_A_2⟩ := Hand.hc3 g_A
  obtain ⟨z_X, z1_X, z2_X, y0_X, y1_X⟩ := Hand.hz g_X
  obtain ⟨c_X_0, f_X_0, c_X_1, f_X_1⟩ := Hand.hc2 g_X
  obtain ⟨z_Y, z1_Y, z2_Y, y0_Y, y1_Y⟩ := Hand.hz g_Y
  obtain ⟨c_Y_0, f_Y_0, c_Y_1, f_Y_1⟩ := Hand.hc2 g_Y
  obtain ⟨z_Z, z1_Z, z2_Z, y0_Z, y1_Z⟩ := Hand.hz g_Z
  obtain ⟨c_Z_0, f_Z_0, c_Z_1, f_Z_1⟩ := Hand.hc2 g_Z
  have zw : w.heap.size ≤ w9.heap.size := hB.size
  have HG := Lib.hid (And.intro g_A (And.intro g_X (And.intro g_Y (And.intro g_Z (hB)))))
  clear g_A g_X g_Y g_Z hB
  go_wp2
  go_ret
  obtain ⟨g_A, g_X, g_Y, g_Z, hB⟩ := HG.out
  exact ⟨by first | rfl | (simp; done) | (simp; decide) | (simp; rfl) | (simp [Lib.toList_data]; done), by first | exact hB | exact bw hB⟩
end Go.Proofs.YtghiibdhibcbaaaDoor.PA
