/- CodeSpoken's walk at no format. -/
import Derived.Test.YtghiibdhibcbaaaGreatDoorKn5
import Derived.Test.YtghiibdhibcbaaaGreatDoorLwHlp
import Derived.Test.YtghiibdhibcbaaaGreatDoorM2
import Derived.Test.YtghiibdhibcbaaaGreatDoorM1
import Derived.Test.YtghiibdhibcbaaaGreatDoorMO
import Derived.Test.YtghiibdhibcbaaaGreatDoorMN
import Derived.OpenShut
namespace Go.Proofs.YtghiibdhibcbaaaGreatDoor.PA
open Go Go.RowKit Go.Proofs.YtghiibdhibcbaaaGreatDoorW.PrintWords Go.Proofs.YtghiibdhibcbaaaGreatDoorW.PrintLast Go.Proofs.YtghiibdhibcbaaaGreatDoorW.PrintMore Go.Proofs.YtghiibdhibcbaaaGreatDoor.CS
attribute [local go_sem high] eqA30 eqA23
set_option linter.unusedSimpArgs false
set_option linter.unusedVariables false
set_option maxHeartbeats 2000000 in
set_option maxRecDepth 100000 in
theorem spk_n (f s t n d x y x2 y2 V V2 : Int) (dr : Bool) (h1 : (f == 1) = false) (h2 : (f == 2) = false) (h4 : (f == 4) = false) (w : World) (ht : TabN w)
    (m0 : ∀ w, TabN w → Calls Tryz.prog 5 #[] w fun e w' => e = .returned (.bool true) ∧ Below w.heap.size w w')
    (m1 : ∀ w, Calls Tryz.prog 8 #[.int .i64 s, .int .i64 360000001] w fun e w' => e = .returned (.int .i64 V) ∧ Below w.heap.size w w')
    (m2 : ∀ w, Calls Tryz.prog 11 #[.int .i64 V, .int .i64 1000] w fun e w' => e = .returned (.tuple #[.agg #[.int .i64 x, .int .i64 y], .int .i64 0]) ∧ Below w.heap.size w w')
    (m3 : ∀ w, Calls Tryz.prog 8 #[.int .i64 t, .int .i64 360000001] w fun e w' => e = .returned (.int .i64 V2) ∧ Below w.heap.size w w')
    (m4 : ∀ w, Calls Tryz.prog 11 #[.int .i64 V2, .int .i64 1000] w fun e w' => e = .returned (.tuple #[.agg #[.int .i64 x2, .int .i64 y2], .int .i64 0]) ∧ Below w.heap.size w w')
    (m5 : ∀ w, TabN w → Calls Tryz.prog 12 #[.int .i64 f, .agg #[.int .i64 x, .int .i64 y]] w fun e w' => e = .returned (.tuple #[.string ⟨#[]⟩, .int .i64 5]) ∧ Below w.heap.size w w')
    (m6 : ∀ w, TabN w → Calls Tryz.prog 12 #[.int .i64 f, .agg #[.int .i64 x2, .int .i64 y2]] w fun e w' => e = .returned (.tuple #[.string ⟨#[]⟩, .int .i64 5]) ∧ Below w.heap.size w w') :
    Calls Tryz.prog 4 #[.int .i64 f, .int .i64 s, .int .i64 t, rate n d dr] w fun e w' => e = .returned (.bool true) ∧ Below w.heap.size w w' := by
  have k1 : (f != 1) = true := by simpa using h1
  have k2 : (f != 2) = true := by simpa using h2
  have k4 : (f != 4) = true := by simpa using h4
  have HT0 := Lib.hid ht
  have M0 := Lib.hid m0
  have M1 := Lib.hid m1
  have M2 := Lib.hid m2
  have M3 := Lib.hid m3
  have M4 := Lib.hid m4
  have M5 := Lib.hid m5
  have M6 := Lib.hid m6
  clear m0 m1 m2 m3 m4 m5 m6 ht
  go_enter Tryz.func4, Tryz.ntmps4
  go_wp2_with fail
  with_reducible refine (M0.out _ (tab_below HT0.out (bw (Below.refl _ _)))).mono ?_
  rintro e w1 ⟨rfl, hb1⟩
  have h_A : w1.heap[w.heap.size]? = some (.cells #[.int .i64 n, .int .i64 d, .bool dr] 23 (0, 0)) := by
    refine Hand.kb hb1 ?_; simp (disch := first | omega | (simp only [Hand.sa, Hand.ss, Hand.sd, Hand.sn]; first | done | omega)) only [Hand.q2, Hand.q1, Hand.q5, Hand.q6, Hand.q4, Hand.q3] <;> rfl
  have hB' : Below w.heap.size w w1 := Hand.stepB hb1 (by repeat (with_reducible first | apply Below.refl _ _ | apply Below.drew | apply pw_below_drewN | (apply Below.setCell; rotate_left; (dsimp only; omega)) | (apply Below.alloc; rotate_left; (first | omega | (simp only [Hand.sa, Hand.ss, Hand.sd, Hand.sn]; omega))))) (Nat.le_refl _)
  clear hb1
  have g_A := h_A
  have hB := hB'
  clear hB' h_A
  obtain ⟨z_A, z1_A, z2_A, y0_A, y1_A⟩ := Hand.hz g_A
  obtain ⟨c_A_0, f_A_0, c_A_1, f_A_1, c_A_2, f_A_2⟩ := Hand.hc3 g_A
  have zw : w.heap.size ≤ w1.heap.size := hB.size
  have HG := Lib.hid (And.intro g_A (hB))
  clear g_A hB
  go_wp2_with fail
  with_reducible refine (M1.out _).mono ?_
  rintro e w2 ⟨rfl, hb2⟩
  obtain ⟨g_A, hB⟩ := HG.out
  have h_A : w2.heap[w.heap.size]? = some (.cells #[.int .i64 n, .int .i64 d, .bool dr] 23 (0, 0)) := by
    refine Hand.kb hb2 ?_; first | with_reducible exact g_A | (simp (disch := first | omega | (simp only [Hand.sa, Hand.ss, Hand.sd, Hand.sn]; first | done | omega)) only [Hand.q2, Hand.q1, Hand.q5, Hand.q6, Hand.q4, Hand.q3, g_A] <;> rfl)
  have hB' : Below w.heap.size w w2 := Hand.stepB hb2 (by repeat (with_reducible first | apply hB | apply Below.drew | apply pw_below_drewN | (apply Below.setCell; rotate_left; (dsimp only; omega)) | (apply Below.alloc; rotate_left; (first | omega | (simp only [Hand.sa, Hand.ss, Hand.sd, Hand.sn]; omega))))) (Nat.le_refl _)
  clear HG hB g_A zw z_A z1_A z2_A y0_A y1_A c_A_0 f_A_0 c_A_1 f_A_1 c_A_2 f_A_2
  clear hb2
  have g_A := h_A
  have hB := hB'
  clear hB' h_A
  obtain ⟨z_A, z1_A, z2_A, y0_A, y1_A⟩ := Hand.hz g_A
  obtain ⟨c_A_0, f_A_0, c_A_1, f_A_1, c_A_2, f_A_2⟩ := Hand.hc3 g_A
  have zw : w.heap.size ≤ w2.heap.size := hB.size
  have HG := Lib.hid (And.intro g_A (hB))
  clear g_A hB
  go_wp2_with fail
  with_reducible refine (M2.out _).mono ?_
  rintro e w3 ⟨rfl, hb3⟩
  obtain ⟨g_A, hB⟩ := HG.out
  have h_A : w3.heap[w.heap.size]? = some (.cells #[.int .i64 n, .int .i64 d, .bool dr] 23 (0, 0)) := by
    refine Hand.kb hb3 ?_; first | with_reducible exact g_A | (simp (disch := first | omega | (simp only [Hand.sa, Hand.ss, Hand.sd, Hand.sn]; first | done | omega)) only [Hand.q2, Hand.q1, Hand.q5, Hand.q6, Hand.q4, Hand.q3, g_A] <;> rfl)
  have hB' : Below w.heap.size w w3 := Hand.stepB hb3 (by repeat (with_reducible first | apply hB | apply Below.drew | apply pw_below_drewN | (apply Below.setCell; rotate_left; (dsimp only; omega)) | (apply Below.alloc; rotate_left; (first | omega | (simp only [Hand.sa, Hand.ss, Hand.sd, Hand.sn]; omega))))) (Nat.le_refl _)
  clear HG hB g_A zw z_A z1_A z2_A y0_A y1_A c_A_0 f_A_0 c_A_1 f_A_1 c_A_2 f_A_2
  clear hb3
  have g_A := h_A
  have hB := hB'
  clear hB' h_A
  obtain ⟨z_A, z1_A, z2_A, y0_A, y1_A⟩ := Hand.hz g_A
  obtain ⟨c_A_0, f_A_0, c_A_1, f_A_1, c_A_2, f_A_2⟩ := Hand.hc3 g_A
  have zw : w.heap.size ≤ w3.heap.size := hB.size
  have HG := Lib.hid (And.intro g_A (hB))
  clear g_A hB
  go_wp2_with fail
  with_reducible refine (M3.out _).mono ?_
  rintro e w4 ⟨rfl, hb4⟩
  obtain ⟨g_A, hB⟩ := HG.out
  have h_A : w4.heap[w.heap.size]? = some (.cells #[.int .i64 n, .int .i64 d, .bool dr] 23 (0, 0)) := by
    refine Hand.kb hb4 ?_; first | with_reducible exact g_A | (simp (disch := first | omega | (simp only [Hand.sa, Hand.ss, Hand.sd, Hand.sn]; first | done | omega)) only [Hand.q2, Hand.q1, Hand.q5, Hand.q6, Hand.q4, Hand.q3, g_A] <;> rfl)
  have h_P : w4.heap[w3.heap.size]? = some (.cells #[.int .i64 x, .int .i64 y] 30 (0, 0)) := by
    refine Hand.kb hb4 ?_; simp (disch := first | omega | (simp only [Hand.sa, Hand.ss, Hand.sd, Hand.sn]; first | done | omega)) only [Hand.q2, Hand.q1, Hand.q5, Hand.q6, Hand.q4, Hand.q3] <;> rfl
  have hB' : Below w.heap.size w w4 := Hand.stepB hb4 (by repeat (with_reducible first | apply hB | apply Below.drew | apply pw_below_drewN | (apply Below.setCell; rotate_left; (dsimp only; omega)) | (apply Below.alloc; rotate_left; (first | omega | (simp only [Hand.sa, Hand.ss, Hand.sd, Hand.sn]; omega))))) (Nat.le_refl _)
  clear HG hB g_A zw z_A z1_A z2_A y0_A y1_A c_A_0 f_A_0 c_A_1 f_A_1 c_A_2 f_A_2
  clear hb4
  have g_A := h_A
  have g_P := h_P
  have hB := hB'
  clear hB' h_A h_P
  obtain ⟨z_A, z1_A, z2_A, y0_A, y1_A⟩ := Hand.hz g_A
  obtain ⟨c_A_0, f_A_0, c_A_1, f_A_1, c_A_2, f_A_2⟩ := Hand.hc3 g_A
  obtain ⟨z_P, z1_P, z2_P, y0_P, y1_P⟩ := Hand.hz g_P
  obtain ⟨c_P_0, f_P_0, c_P_1, f_P_1⟩ := Hand.hc2 g_P
  have zw : w.heap.size ≤ w4.heap.size := hB.size
  have HG := Lib.hid (And.intro g_A (And.intro g_P (hB)))
  clear g_A g_P hB
  go_wp2_with fail
  with_reducible refine (M4.out _).mono ?_
  rintro e w5 ⟨rfl, hb5⟩
  obtain ⟨g_A, g_P, hB⟩ := HG.out
  have h_A : w5.heap[w.heap.size]? = some (.cells #[.int .i64 n, .int .i64 d, .bool dr] 23 (0, 0)) := by
    refine Hand.kb hb5 ?_; first | with_reducible exact g_A | (simp (disch := first | omega | (simp only [Hand.sa, Hand.ss, Hand.sd, Hand.sn]; first | done | omega)) only [Hand.q2, Hand.q1, Hand.q5, Hand.q6, Hand.q4, Hand.q3, g_A] <;> rfl)
  have h_P : w5.heap[w3.heap.size]? = some (.cells #[.int .i64 x, .int .i64 y] 30 (0, 0)) := by
    refine Hand.kb hb5 ?_; first | with_reducible exact g_P | (simp (disch := first | omega | (simp only [Hand.sa, Hand.ss, Hand.sd, Hand.sn]; first | done | omega)) only [Hand.q2, Hand.q1, Hand.q5, Hand.q6, Hand.q4, Hand.q3, g_P] <;> rfl)
  have hB' : Below w.heap.size w w5 := Hand.stepB hb5 (by repeat (with_reducible first | apply hB | apply Below.drew | apply pw_below_drewN | (apply Below.setCell; rotate_left; (dsimp only; omega)) | (apply Below.alloc; rotate_left; (first | omega | (simp only [Hand.sa, Hand.ss, Hand.sd, Hand.sn]; omega))))) (Nat.le_refl _)
  clear HG hB g_A g_P zw z_A z1_A z2_A y0_A y1_A c_A_0 f_A_0 c_A_1 f_A_1 c_A_2 f_A_2 z_P z1_P z2_P y0_P y1_P c_P_0 f_P_0 c_P_1 f_P_1
  clear hb5
  have g_A := h_A
  have g_P := h_P
  have hB := hB'
  clear hB' h_A h_P
  obtain ⟨z_A, z1_A, z2_A, y0_A, y1_A⟩ := Hand.hz g_A
  obtain ⟨c_A_0, f_A_0, c_A_1, f_A_1, c_A_2, f_A_2⟩ := Hand.hc3 g_A
  obtain ⟨z_P, z1_P, z2_P, y0_P, y1_P⟩ := Hand.hz g_P
  obtain ⟨c_P_0, f_P_0, c_P_1, f_P_1⟩ := Hand.hc2 g_P
  have zw : w.heap.size ≤ w5.heap.size := hB.size
  have HG := Lib.hid (And.intro g_A (And.intro g_P (hB)))
  clear g_A g_P hB
  go_wp2_with fail
  with_reducible refine (M5.out _ (tab_below HT0.out (bw HG.out.2.2))).mono ?_
  rintro e w6 ⟨rfl, hb6⟩
  obtain ⟨g_A, g_P, hB⟩ := HG.out
  have h_A : w6.heap[w.heap.size]? = some (.cells #[.int .i64 n, .int .i64 d, .bool dr] 23 (0, 0)) := by
    refine Hand.kb hb6 ?_; first | with_reducible exact g_A | (simp (disch := first | omega | (simp only [Hand.sa, Hand.ss, Hand.sd, Hand.sn]; first | done | omega)) only [Hand.q2, Hand.q1, Hand.q5, Hand.q6, Hand.q4, Hand.q3, g_A] <;> rfl)
  have h_P : w6.heap[w3.heap.size]? = some (.cells #[.int .i64 x, .int .i64 y] 30 (0, 0)) := by
    refine Hand.kb hb6 ?_; first | with_reducible exact g_P | (simp (disch := first | omega | (simp only [Hand.sa, Hand.ss, Hand.sd, Hand.sn]; first | done | omega)) only [Hand.q2, Hand.q1, Hand.q5, Hand.q6, Hand.q4, Hand.q3, g_P] <;> rfl)
  have h_Q : w6.heap[w5.heap.size]? = some (.cells #[.int .i64 x2, .int .i64 y2] 30 (0, 0)) := by
    refine Hand.kb hb6 ?_; simp (disch := first | omega | (simp only [Hand.sa, Hand.ss, Hand.sd, Hand.sn]; first | done | omega)) only [Hand.q2, Hand.q1, Hand.q5, Hand.q6, Hand.q4, Hand.q3] <;> rfl
  have hB' : Below w.heap.size w w6 := Hand.stepB hb6 (by repeat (with_reducible first | apply hB | apply Below.drew | apply pw_below_drewN | (apply Below.setCell; rotate_left; (dsimp only; omega)) | (apply Below.alloc; rotate_left; (first | omega | (simp only [Hand.sa, Hand.ss, Hand.sd, Hand.sn]; omega))))) (Nat.le_refl _)
  clear HG hB g_A g_P zw z_A z1_A z2_A y0_A y1_A c_A_0 f_A_0 c_A_1 f_A_1 c_A_2 f_A_2 z_P z1_P z2_P y0_P y1_P c_P_0 f_P_0 c_P_1 f_P_1
  clear hb6
  have g_A := h_A
  have g_P := h_P
  have g_Q := h_Q
  have hB := hB'
  clear hB' h_A h_P h_Q
  obtain ⟨z_A, z1_A, z2_A, y0_A, y1_A⟩ := Hand.hz g_A
  obtain ⟨c_A_0, f_A_0, c_A_1, f_A_1, c_A_2, f_A_2⟩ := Hand.hc3 g_A
  obtain ⟨z_P, z1_P, z2_P, y0_P, y1_P⟩ := Hand.hz g_P
  obtain ⟨c_P_0, f_P_0, c_P_1, f_P_1⟩ := Hand.hc2 g_P
  obtain ⟨z_Q, z1_Q, z2_Q, y0_Q, y1_Q⟩ := Hand.hz g_Q
  obtain ⟨c_Q_0, f_Q_0, c_Q_1, f_Q_1⟩ := Hand.hc2 g_Q
  have zw : w.heap.size ≤ w6.heap.size := hB.size
  have HG := Lib.hid (And.intro g_A (And.intro g_P (And.intro g_Q (hB))))
  clear g_A g_P g_Q hB
  go_wp2_with fail
  with_reducible refine (M6.out _ (tab_below HT0.out (bw HG.out.2.2.2))).mono ?_
  rintro e w7 ⟨rfl, hb7⟩
  obtain ⟨g_A, g_P, g_Q, hB⟩ := HG.out
  have h_A : w7.heap[w.heap.size]? = some (.cells #[.int .i64 n, .int .i64 d, .bool dr] 23 (0, 0)) := by
    refine Hand.kb hb7 ?_; first | with_reducible exact g_A | (simp (disch := first | omega | (simp only [Hand.sa, Hand.ss, Hand.sd, Hand.sn]; first | done | omega)) only [Hand.q2, Hand.q1, Hand.q5, Hand.q6, Hand.q4, Hand.q3, g_A] <;> rfl)
  have h_P : w7.heap[w3.heap.size]? = some (.cells #[.int .i64 x, .int .i64 y] 30 (0, 0)) := by
    refine Hand.kb hb7 ?_; first | with_reducible exact g_P | (simp (disch := first | omega | (simp only [Hand.sa, Hand.ss, Hand.sd, Hand.sn]; first | done | omega)) only [Hand.q2, Hand.q1, Hand.q5, Hand.q6, Hand.q4, Hand.q3, g_P] <;> rfl)
  have h_Q : w7.heap[w5.heap.size]? = some (.cells #[.int .i64 x2, .int .i64 y2] 30 (0, 0)) := by
    refine Hand.kb hb7 ?_; first | with_reducible exact g_Q | (simp (disch := first | omega | (simp only [Hand.sa, Hand.ss, Hand.sd, Hand.sn]; first | done | omega)) only [Hand.q2, Hand.q1, Hand.q5, Hand.q6, Hand.q4, Hand.q3, g_Q] <;> rfl)
  have hB' : Below w.heap.size w w7 := Hand.stepB hb7 (by repeat (with_reducible first | apply hB | apply Below.drew | apply pw_below_drewN | (apply Below.setCell; rotate_left; (dsimp only; omega)) | (apply Below.alloc; rotate_left; (first | omega | (simp only [Hand.sa, Hand.ss, Hand.sd, Hand.sn]; omega))))) (Nat.le_refl _)
  clear HG hB g_A g_P g_Q zw z_A z1_A z2_A y0_A y1_A c_A_0 f_A_0 c_A_1 f_A_1 c_A_2 f_A_2 z_P z1_P z2_P y0_P y1_P c_P_0 f_P_0 c_P_1 f_P_1 z_Q z1_Q z2_Q y0_Q y1_Q c_Q_0 f_Q_0 c_Q_1 f_Q_1
  clear hb7
  have g_A := h_A
  have g_P := h_P
  have g_Q := h_Q
  have hB := hB'
  clear hB' h_A h_P h_Q
  obtain ⟨z_A, z1_A, z2_A, y0_A, y1_A⟩ := Hand.hz g_A
  obtain ⟨c_A_0, f_A_0, c_A_1, f_A_1, c_A_2, f_A_2⟩ := Hand.hc3 g_A
  obtain ⟨z_P, z1_P, z2_P, y0_P, y1_P⟩ := Hand.hz g_P
  obtain ⟨c_P_0, f_P_0, c_P_1, f_P_1⟩ := Hand.hc2 g_P
  obtain ⟨z_Q, z1_Q, z2_Q, y0_Q, y1_Q⟩ := Hand.hz g_Q
  obtain ⟨c_Q_0, f_Q_0, c_Q_1, f_Q_1⟩ := Hand.hc2 g_Q
  have zw : w.heap.size ≤ w7.heap.size := hB.size
  have HG := Lib.hid (And.intro g_A (And.intro g_P (And.intro g_Q (hB))))
  clear g_A g_P g_Q hB
  go_wp2
  go_ret
  obtain ⟨g_A, g_P, g_Q, hB⟩ := HG.out
  exact ⟨by first | rfl | (simp; done) | (simp; decide) | (simp; rfl) | (simp [Lib.toList_data]; done), by first | exact hB | exact bw hB⟩
end Go.Proofs.YtghiibdhibcbaaaGreatDoor.PA
