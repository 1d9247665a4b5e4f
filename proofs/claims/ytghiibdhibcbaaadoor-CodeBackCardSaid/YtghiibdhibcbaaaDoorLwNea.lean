/- CodeNear: a time lies from its frame on. -/
import Derived.Test.YtghiibdhibcbaaaDoorKn5
import Derived.Test.YtghiibdhibcbaaaDoorRfT
import Derived.OpenShut
namespace Go.Proofs.YtghiibdhibcbaaaDoor.PA
open Go Go.RowKit Go.Proofs.YtghiibdhibcbaaaDoorW.PrintWords Go.Proofs.YtghiibdhibcbaaaDoorW.PrintLast Go.Proofs.YtghiibdhibcbaaaDoorW.PrintMore Go.Proofs.YtghiibdhibcbaaaDoor.CS
attribute [local go_sem high] eqA26
set_option linter.unusedSimpArgs false
set_option linter.unusedVariables false
set_option maxHeartbeats 800000 in
set_option maxRecDepth 100000 in
theorem near_no (n d a b c : Int) (dr : Bool) (hc : (c == 0) = false) (w : World) (ht : TabN w)
    (m0 : ∀ w, TabN w → Calls Tryd.prog 16 #[] w fun e w' => e = .returned (.bool true) ∧ Below w.heap.size w w')
    (m1 : ∀ w, Calls Tryd.prog 25 #[rate n d dr] w fun e w' => e = .returned (.int .i64 c) ∧ Below w.heap.size w w') :
    Calls Tryd.prog 12 #[rate n d dr, .agg #[.int .i64 a, .int .i64 b]] w fun e w' => e = .returned (.bool true) ∧ Below w.heap.size w w' := by
  have hc2 : (c != 0) = true := by simpa using hc
  have hc3 : ¬ c = 0 := by simpa using hc
  have HT0 := Lib.hid ht
  have M0 := Lib.hid m0
  have M1 := Lib.hid m1
  clear m0 m1 ht
  go_enter Tryd.func12, Tryd.ntmps12
  go_wp2_with fail
  with_reducible refine (M0.out _ (tab_below HT0.out (bw (Below.refl _ _)))).mono ?_
  rintro e w1 ⟨rfl, hb1⟩
  have h_A : w1.heap[w.heap.size]? = some (.cells #[.int .i64 n, .int .i64 d, .bool dr] 24 (0, 0)) := by
    refine Hand.kb hb1 ?_; simp (disch := first | omega | (simp only [Hand.sa, Hand.ss, Hand.sd, Hand.sn]; first | done | omega)) only [Hand.q2, Hand.q1, Hand.q5, Hand.q6, Hand.q4, Hand.q3] <;> rfl
  have h_T : w1.heap[w.heap.size + 1]? = some (.cells #[.int .i64 a, .int .i64 b] 26 (0, 0)) := by
    refine Hand.kb hb1 ?_; simp (disch := first | omega | (simp only [Hand.sa, Hand.ss, Hand.sd, Hand.sn]; first | done | omega)) only [Hand.q2, Hand.q1, Hand.q5, Hand.q6, Hand.q4, Hand.q3] <;> rfl
  have hB' : Below w.heap.size w w1 := Hand.stepB hb1 (by repeat (with_reducible first | apply Below.refl _ _ | apply Below.drew | apply pw_below_drewN | (apply Below.setCell; rotate_left; (dsimp only; omega)) | (apply Below.alloc; rotate_left; (first | omega | (simp only [Hand.sa, Hand.ss, Hand.sd, Hand.sn]; omega))))) (Nat.le_refl _)
  clear hb1
  have g_A := h_A
  have g_T := h_T
  have hB := hB'
  clear hB' h_A h_T
  obtain ⟨z_A, z1_A, z2_A, y0_A, y1_A⟩ := Hand.hz g_A
  obtain ⟨c_A_0, f_A_0, c_A_1, f_A_1, c_A_2, f_A_2⟩ := Hand.hc3 g_A
  obtain ⟨z_T, z1_T, z2_T, y0_T, y1_T⟩ := Hand.hz g_T
  obtain ⟨c_T_0, f_T_0, c_T_1, f_T_1⟩ := Hand.hc2 g_T
  have zw : w.heap.size ≤ w1.heap.size := hB.size
  have HG := Lib.hid (And.intro g_A (And.intro g_T (hB)))
  clear g_A g_T hB
  go_wp2_with fail
  with_reducible refine (M1.out _).mono ?_
  rintro e w2 ⟨rfl, hb2⟩
  obtain ⟨g_A, g_T, hB⟩ := HG.out
  have h_A : w2.heap[w.heap.size]? = some (.cells #[.int .i64 n, .int .i64 d, .bool dr] 24 (0, 0)) := by
    refine Hand.kb hb2 ?_; first | with_reducible exact g_A | (simp (disch := first | omega | (simp only [Hand.sa, Hand.ss, Hand.sd, Hand.sn]; first | done | omega)) only [Hand.q2, Hand.q1, Hand.q5, Hand.q6, Hand.q4, Hand.q3, g_A] <;> rfl)
  have h_T : w2.heap[w.heap.size + 1]? = some (.cells #[.int .i64 a, .int .i64 b] 26 (0, 0)) := by
    refine Hand.kb hb2 ?_; first | with_reducible exact g_T | (simp (disch := first | omega | (simp only [Hand.sa, Hand.ss, Hand.sd, Hand.sn]; first | done | omega)) only [Hand.q2, Hand.q1, Hand.q5, Hand.q6, Hand.q4, Hand.q3, g_T] <;> rfl)
  have hB' : Below w.heap.size w w2 := Hand.stepB hb2 (by repeat (with_reducible first | apply hB | apply Below.drew | apply pw_below_drewN | (apply Below.setCell; rotate_left; (dsimp only; omega)) | (apply Below.alloc; rotate_left; (first | omega | (simp only [Hand.sa, Hand.ss, Hand.sd, Hand.sn]; omega))))) (Nat.le_refl _)
  clear HG hB g_A g_T zw z_A z1_A z2_A y0_A y1_A c_A_0 f_A_0 c_A_1 f_A_1 c_A_2 f_A_2 z_T z1_T z2_T y0_T y1_T c_T_0 f_T_0 c_T_1 f_T_1
  clear hb2
  have g_A := h_A
  have g_T := h_T
  have hB := hB'
  clear hB' h_A h_T
  obtain ⟨z_A, z1_A, z2_A, y0_A, y1_A⟩ := Hand.hz g_A
  obtain ⟨c_A_0, f_A_0, c_A_1, f_A_1, c_A_2, f_A_2⟩ := Hand.hc3 g_A
  obtain ⟨z_T, z1_T, z2_T, y0_T, y1_T⟩ := Hand.hz g_T
  obtain ⟨c_T_0, f_T_0, c_T_1, f_T_1⟩ := Hand.hc2 g_T
  have zw : w.heap.size ≤ w2.heap.size := hB.size
  have HG := Lib.hid (And.intro g_A (And.intro g_T (hB)))
  clear g_A g_T hB
  go_wp2
  go_ret
  obtain ⟨g_A, g_T, hB⟩ := HG.out
  exact ⟨by first | rfl | (simp; done) | (simp; decide) | (simp; rfl) | (simp [Lib.toList_data]; done), by first | exact hB | exact bw hB⟩
set_option maxHeartbeats 800000 in
set_option maxRecDepth 100000 in
theorem near_time (n d a b c : Int) (dr : Bool) (hc : (c == 0) = false) (w : World) (ht : TabN w)
    (m0 : ∀ w, TabN w → Calls Tryd.prog 16 #[] w fun e w' => e = .returned (.bool true) ∧ Below w.heap.size w w')
    (m1 : ∀ w, Calls Tryd.prog 25 #[rate n d dr] w fun e w' => e = .returned (.int .i64 0) ∧ Below w.heap.size w w')
    (m2 : ∀ w, Calls Tryd.prog 32 #[.agg #[.int .i64 a, .int .i64 b]] w fun e w' => e = .returned (.int .i64 c) ∧ Below w.heap.size w w') :
    Calls Tryd.prog 12 #[rate n d dr, .agg #[.int .i64 a, .int .i64 b]] w fun e w' => e = .returned (.bool true) ∧ Below w.heap.size w w' := by
  have HT0 := Lib.hid ht
  have M0 := Lib.hid m0
  have M1 := Lib.hid m1
  have M2 := Lib.hid m2
  clear m0 m1 m2 ht
  go_enter Tryd.func12, Tryd.ntmps12
  go_wp2_with fail
  with_reducible refine (M0.out _ (tab_below HT0.out (bw (Below.refl _ _)))).mono ?_
  rintro e w1 ⟨rfl, hb1⟩
  have h_A : w1.heap[w.heap.size]? = some (.cells #[.int .i64 n, .int .i64 d, .bool dr] 24 (0, 0)) := by
    refine Hand.kb hb1 ?_; simp (disch := first | omega | (simp only [Hand.sa, Hand.ss, Hand.sd, Hand.sn]; first | done | omega)) only [Hand.q2, Hand.q1, Hand.q5, Hand.q6, Hand.q4, Hand.q3] <;> rfl
  have h_T : w1.heap[w.heap.size + 1]? = some (.cells #[.int .i64 a, .int .i64 b] 26 (0, 0)) := by
    refine Hand.kb hb1 ?_; simp (disch := first | omega | (simp only [Hand.sa, Hand.ss, Hand.sd, Hand.sn]; first | done | omega)) only [Hand.q2, Hand.q1, Hand.q5, Hand.q6, Hand.q4, Hand.q3] <;> rfl
  have hB' : Below w.heap.size w w1 := Hand.stepB hb1 (by repeat (with_reducible first | apply Below.refl _ _ | apply Below.drew | apply pw_below_drewN | (apply Below.setCell; rotate_left; (dsimp only; omega)) | (apply Below.alloc; rotate_left; (first | omega | (simp only [Hand.sa, Hand.ss, Hand.sd, Hand.sn]; omega))))) (Nat.le_refl _)
  clear hb1
  have g_A := h_A
  have g_T := h_T
  have hB := hB'
  clear hB' h_A h_T
  obtain ⟨z_A, z1_A, z2_A, y0_A, y1_A⟩ := Hand.hz g_A
  obtain ⟨c_A_0, f_A_0, c_A_1, f_A_1, c_A_2, f_A_2⟩ := Hand.hc3 g_A
  obtain ⟨z_T, z1_T, z2_T, y0_T, y1_T⟩ := Hand.hz g_T
  obtain ⟨c_T_0, f_T_0, c_T_1, f_T_1⟩ := Hand.hc2 g_T
  have zw : w.heap.size ≤ w1.heap.size := hB.size
  have HG := Lib.hid (And.intro g_A (And.intro g_T (hB)))
  clear g_A g_T hB
  go_wp2_with fail
  with_reducible refine (M1.out _).mono ?_
  rintro e w2 ⟨rfl, hb2⟩
  obtain ⟨g_A, g_T, hB⟩ := HG.out
  have h_A : w2.heap[w.heap.size]? = some (.cells #[.int .i64 n, .int .i64 d, .bool dr] 24 (0, 0)) := by
    refine Hand.kb hb2 ?_; first | with_reducible exact g_A | (simp (disch := first | omega | (simp only [Hand.sa, Hand.ss, Hand.sd, Hand.sn]; first | done | omega)) only [Hand.q2, Hand.q1, Hand.q5, Hand.q6, Hand.q4, Hand.q3, g_A] <;> rfl)
  have h_T : w2.heap[w.heap.size + 1]? = some (.cells #[.int .i64 a, .int .i64 b] 26 (0, 0)) := by
    refine Hand.kb hb2 ?_; first | with_reducible exact g_T | (simp (disch := first | omega | (simp only [Hand.sa, Hand.ss, Hand.sd, Hand.sn]; first | done | omega)) only [Hand.q2, Hand.q1, Hand.q5, Hand.q6, Hand.q4, Hand.q3, g_T] <;> rfl)
  have hB' : Below w.heap.size w w2 := Hand.stepB hb2 (by repeat (with_reducible first | apply hB | apply Below.drew | apply pw_below_drewN | (apply Below.setCell; rotate_left; (dsimp only; omega)) | (apply Below.alloc; rotate_left; (first | omega | (simp only [Hand.sa, Hand.ss, Hand.sd, Hand.sn]; omega))))) (Nat.le_refl _)
  clear HG hB g_A g_T zw z_A z1_A z2_A y0_A y1_A c_A_0 f_A_0 c_A_1 f_A_1 c_A_2 f_A_2 z_T z1_T z2_T y0_T y1_T c_T_0 f_T_0 c_T_1 f_T_1
  clear hb2
  have g_A := h_A
  have g_T := h_T
  have hB := hB'
  clear hB' h_A h_T
  obtain ⟨z_A, z1_A, z2_A, y0_A, y1_A⟩ := Hand.hz g_A
  obtain ⟨c_A_0, f_A_0, c_A_1, f_A_1, c_A_2, f_A_2⟩ := Hand.hc3 g_A
  obtain ⟨z_T, z1_T, z2_T, y0_T, y1_T⟩ := Hand.hz g_T
  obtain ⟨c_T_0, f_T_0, c_T_1, f_T_1⟩ := Hand.hc2 g_T
  have zw : w.heap.size ≤ w2.heap.size := hB.size
  have HG := Lib.hid (And.intro g_A (And.intro g_T (hB)))
  clear g_A g_T hB
  go_wp2_with fail
  with_reducible refine (M2.out _).mono ?_
  rintro e w3 ⟨rfl, hb3⟩
  obtain ⟨g_A, g_T, hB⟩ := HG.out
  have h_A : w3.heap[w.heap.size]? = some (.cells #[.int .i64 n, .int .i64 d, .bool dr] 24 (0, 0)) := by
    refine Hand.kb hb3 ?_; first | with_reducible exact g_A | (simp (disch := first | omega | (simp only [Hand.sa, Hand.ss, Hand.sd, Hand.sn]; first | done | omega)) only [Hand.q2, Hand.q1, Hand.q5, Hand.q6, Hand.q4, Hand.q3, g_A] <;> rfl)
  have h_T : w3.heap[w.heap.size + 1]? = some (.cells #[.int .i64 a, .int .i64 b] 26 (0, 0)) := by
    refine Hand.kb hb3 ?_; first | with_reducible exact g_T | (simp (disch := first | omega | (simp only [Hand.sa, Hand.ss, Hand.sd, Hand.sn]; first | done | omega)) only [Hand.q2, Hand.q1, Hand.q5, Hand.q6, Hand.q4, Hand.q3, g_T] <;> rfl)
  have hB' : Below w.heap.size w w3 := Hand.stepB hb3 (by repeat (with_reducible first | apply hB | apply Below.drew | apply pw_below_drewN | (apply Below.setCell; rotate_left; (dsimp only; omega)) | (apply Below.alloc; rotate_left; (first | omega | (simp only [Hand.sa, Hand.ss, Hand.sd, Hand.sn]; omega))))) (Nat.le_refl _)
  clear HG hB g_A g_T zw z_A z1_A z2_A y0_A y1_A c_A_0 f_A_0 c_A_1 f_A_1 c_A_2 f_A_2 z_T z1_T z2_T y0_T y1_T c_T_0 f_T_0 c_T_1 f_T_1
  clear hb3
  have g_A := h_A
  have g_T := h_T
  have hB := hB'
  clear hB' h_A h_T
  obtain ⟨z_A, z1_A, z2_A, y0_A, y1_A⟩ := Hand.hz g_A
  obtain ⟨c_A_0, f_A_0, c_A_1, f_A_1, c_A_2, f_A_2⟩ := Hand.hc3 g_A
  obtain ⟨z_T, z1_T, z2_T, y0_T, y1_T⟩ := Hand.hz g_T
  obtain ⟨c_T_0, f_T_0, c_T_1, f_T_1⟩ := Hand.hc2 g_T
  have zw : w.heap.size ≤ w3.heap.size := hB.size
  have HG := Lib.hid (And.intro g_A (And.intro g_T (hB)))
  clear g_A g_T hB
  go_wp2
  go_ret
  obtain ⟨g_A, g_T, hB⟩ := HG.out
  exact ⟨by first | rfl | (simp; done) | (simp; decide) | (simp; rfl) | (simp [Lib.toList_data]; done), by first | exact hB | exact bw hB⟩
set_option maxHeartbeats 2000000 in
set_option maxRecDepth 100000 in
theorem near_at (n d a b p q k Z Z2 : Int) (dr : Bool) (hp : a * n = p) (hq : b * d = q) (p0 : 0 ≤ p) (p1 : p ≤ 100000000000000000) (q0 : 1 ≤ q) (q1 : q ≤ 2000000000) (k0 : 0 ≤ k) (k1 : k ≤ 1073741824) (hZ : k * q = Z) (hZ2 : (k + 1) * q = Z2) (z0 : 0 ≤ Z) (z1 : Z ≤ p) (z2 : p < Z2) (z3 : Z2 ≤ 1000000000000000000) (e : (Z == p) = true) (w : World) (ht : TabN w)
    (m0 : ∀ w, TabN w → Calls Tryd.prog 16 #[] w fun e w' => e = .returned (.bool true) ∧ Below w.heap.size w w')
    (m1 : ∀ w, Calls Tryd.prog 25 #[rate n d dr] w fun e w' => e = .returned (.int .i64 0) ∧ Below w.heap.size w w')
    (m2 : ∀ w, Calls Tryd.prog 32 #[.agg #[.int .i64 a, .int .i64 b]] w fun e w' => e = .returned (.int .i64 0) ∧ Below w.heap.size w w')
    (m3 : ∀ w, Calls Tryd.prog 30 #[rate n d dr, .agg #[.int .i64 a, .int .i64 b], .int .i64 1] w fun e w' => e = .returned (.tuple #[.int .i64 k, .int .i64 0]) ∧ Below w.heap.size w w')
    (m4 : ∀ w, Calls Tryd.prog 30 #[rate n d dr, .agg #[.int .i64 a, .int .i64 b], .int .i64 2] w fun e w' => e = .returned (.tuple #[.int .i64 k, .int .i64 0]) ∧ Below w.heap.size w w')
    (m5 : ∀ w, Calls Tryd.prog 30 #[rate n d dr, .agg #[.int .i64 a, .int .i64 b], .int .i64 3] w fun e w' => e = .returned (.tuple #[.int .i64 k, .int .i64 0]) ∧ Below w.heap.size w w') :
    Calls Tryd.prog 12 #[rate n d dr, .agg #[.int .i64 a, .int .i64 b]] w fun e w' => e = .returned (.bool true) ∧ Below w.heap.size w w' := by
  have HT0 := Lib.hid ht
  have M0 := Lib.hid m0
  have M1 := Lib.hid m1
  have M2 := Lib.hid m2
  have M3 := Lib.hid m3
  have M4 := Lib.hid m4
  have M5 := Lib.hid m5
  clear m0 m1 m2 m3 m4 m5 ht
  go_enter Tryd.func12, Tryd.ntmps12
  go_wp2_with fail
  with_reducible refine (M0.out _ (tab_below HT0.out (bw (Below.refl _ _)))).mono ?_
  rintro e w1 ⟨rfl, hb1⟩
  have h_A : w1.heap[w.heap.size]? = some (.cells #[.int .i64 n, .int .i64 d, .bool dr] 24 (0, 0)) := by
    refine Hand.kb hb1 ?_; simp (disch := first | omega | (simp only [Hand.sa, Hand.ss, Hand.sd, Hand.sn]; first | done | omega)) only [Hand.q2, Hand.q1, Hand.q5, Hand.q6, Hand.q4, Hand.q3] <;> rfl
  have h_T : w1.heap[w.heap.size + 1]? = some (.cells #[.int .i64 a, .int .i64 b] 26 (0, 0)) := by
    refine Hand.kb hb1 ?_; simp (disch := first | omega | (simp only [Hand.sa, Hand.ss, Hand.sd, Hand.sn]; first | done | omega)) only [Hand.q2, Hand.q1, Hand.q5, Hand.q6, Hand.q4, Hand.q3] <;> rfl
  have hB' : Below w.heap.size w w1 := Hand.stepB hb1 (by repeat (with_reducible first | apply Below.refl _ _ | apply Below.drew | apply pw_below_drewN | (apply Below.setCell; rotate_left; (dsimp only; omega)) | (apply Below.alloc; rotate_left; (first | omega | (simp only [Hand.sa, Hand.ss, Hand.sd, Hand.sn]; omega))))) (Nat.le_refl _)
  clear hb1
  have g_A := h_A
  have g_T := h_T
  have hB := hB'
  clear hB' h_A h_T
  obtain ⟨z_A, z1_A, z2_A, y0_A, y1_A⟩ := Hand.hz g_A
  obtain ⟨c_A_0, f_A_0, c_A_1, f_A_1, c_A_2, f_A_2⟩ := Hand.hc3 g_A
  obtain ⟨z_T, z1_T, z2_T, y0_T, y1_T⟩ := Hand.hz g_T
  obtain ⟨c_T_0, f_T_0, c_T_1, f_T_1⟩ := Hand.hc2 g_T
  have zw : w.heap.size ≤ w1.heap.size := hB.size
  have HG := Lib.hid (And.intro g_A (And.intro g_T (hB)))
  clear g_A g_T hB
  go_wp2_with fail
  with_reducible refine (M1.out _).mono ?_
  rintro e w2 ⟨rfl, hb2⟩
  obtain ⟨g_A, g_T, hB⟩ := HG.out
  have h_A : w2.heap[w.heap.size]? = some (.cells #[.int .i64 n, .int .i64 d, .bool dr] 24 (0, 0)) := by
    refine Hand.kb hb2 ?_; first | with_reducible exact g_A | (simp (disch := first | omega | (simp only [Hand.sa, Hand.ss, Hand.sd, Hand.sn]; first | done | omega)) only [Hand.q2, Hand.q1, Hand.q5, Hand.q6, Hand.q4, Hand.q3, g_A] <;> rfl)
  have h_T : w2.heap[w.heap.size + 1]? = some (.cells #[.int .i64 a, .int .i64 b] 26 (0, 0)) := by
    refine Hand.kb hb2 ?_; first | with_reducible exact g_T | (simp (disch := first | omega | (simp only [Hand.sa, Hand.ss, Hand.sd, Hand.sn]; first | done | omega)) only [Hand.q2, Hand.q1, Hand.q5, Hand.q6, Hand.q4, Hand.q3, g_T] <;> rfl)
  have hB' : Below w.heap.size w w2 := Hand.stepB hb2 (by repeat (with_reducible first | apply hB | apply Below.drew | apply pw_below_drewN | (apply Below.setCell; rotate_left; (dsimp only; omega)) | (apply Below.alloc; rotate_left; (first | omega | (simp only [Hand.sa, Hand.ss, Hand.sd, Hand.sn]; omega))))) (Nat.le_refl _)
  clear HG hB g_A g_T zw z_A z1_A z2_A y0_A y1_A c_A_0 f_A_0 c_A_1 f_A_1 c_A_2 f_A_2 z_T z1_T z2_T y0_T y1_T c_T_0 f_T_0 c_T_1 f_T_1
  clear hb2
  have g_A := h_A
  have g_T := h_T
  have hB := hB'
  clear hB' h_A h_T
  obtain ⟨z_A, z1_A, z2_A, y0_A, y1_A⟩ := Hand.hz g_A
  obtain ⟨c_A_0, f_A_0, c_A_1, f_A_1, c_A_2, f_A_2⟩ := Hand.hc3 g_A
  obtain ⟨z_T, z1_T, z2_T, y0_T, y1_T⟩ := Hand.hz g_T
  obtain ⟨c_T_0, f_T_0, c_T_1, f_T_1⟩ := Hand.hc2 g_T
  have zw : w.heap.size ≤ w2.heap.size := hB.size
  have HG := Lib.hid (And.intro g_A (And.intro g_T (hB)))
  clear g_A g_T hB
  go_wp2_with fail
  with_reducible refine (M2.out _).mono ?_
  rintro e w3 ⟨rfl, hb3⟩
  obtain ⟨g_A, g_T, hB⟩ := HG.out
  have h_A : w3.heap[w.heap.size]? = some (.cells #[.int .i64 n, .int .i64 d, .bool dr] 24 (0, 0)) := by
    refine Hand.kb hb3 ?_; first | with_reducible exact g_A | (simp (disch := first | omega | (simp only [Hand.sa, Hand.ss, Hand.sd, Hand.sn]; first | done | omega)) only [Hand.q2, Hand.q1, Hand.q5, Hand.q6, Hand.q4, Hand.q3, g_A] <;> rfl)
  have h_T : w3.heap[w.heap.size + 1]? = some (.cells #[.int .i64 a, .int .i64 b] 26 (0, 0)) := by
    refine Hand.kb hb3 ?_; first | with_reducible exact g_T | (simp (disch := first | omega | (simp only [Hand.sa, Hand.ss, Hand.sd, Hand.sn]; first | done | omega)) only [Hand.q2, Hand.q1, Hand.q5, Hand.q6, Hand.q4, Hand.q3, g_T] <;> rfl)
  have hB' : Below w.heap.size w w3 := Hand.stepB hb3 (by repeat (with_reducible first | apply hB | apply Below.drew | apply pw_below_drewN | (apply Below.setCell; rotate_left; (dsimp only; omega)) | (apply Below.alloc; rotate_left; (first | omega | (simp only [Hand.sa, Hand.ss, Hand.sd, Hand.sn]; omega))))) (Nat.le_refl _)
  clear HG hB g_A g_T zw z_A z1_A z2_A y0_A y1_A c_A_0 f_A_0 c_A_1 f_A_1 c_A_2 f_A_2 z_T z1_T z2_T y0_T y1_T c_T_0 f_T_0 c_T_1 f_T_1
  clear hb3
  have g_A := h_A
  have g_T := h_T
  have hB := hB'
  clear hB' h_A h_T
  obtain ⟨z_A, z1_A, z2_A, y0_A, y1_A⟩ := Hand.hz g_A
  obtain ⟨c_A_0, f_A_0, c_A_1, f_A_1, c_A_2, f_A_2⟩ := Hand.hc3 g_A
  obtain ⟨z_T, z1_T, z2_T, y0_T, y1_T⟩ := Hand.hz g_T
  obtain ⟨c_T_0, f_T_0, c_T_1, f_T_1⟩ := Hand.hc2 g_T
  have zw : w.heap.size ≤ w3.heap.size := hB.size
  have HG := Lib.hid (And.intro g_A (And.intro g_T (hB)))
  clear g_A g_T hB
  go_wp2_with fail
  with_reducible refine (M3.out _).mono ?_
  rintro e w4 ⟨rfl, hb4⟩
  obtain ⟨g_A, g_T, hB⟩ := HG.out
  have h_A : w4.heap[w.heap.size]? = some (.cells #[.int .i64 n, .int .i64 d, .bool dr] 24 (0, 0)) := by
    refine Hand.kb hb4 ?_; first | with_reducible exact g_A | (simp (disch := first | omega | (simp only [Hand.sa, Hand.ss, Hand.sd, Hand.sn]; first | done | omega)) only [Hand.q2, Hand.q1, Hand.q5, Hand.q6, Hand.q4, Hand.q3, g_A] <;> rfl)
  have h_T : w4.heap[w.heap.size + 1]? = some (.cells #[.int .i64 a, .int .i64 b] 26 (0, 0)) := by
    refine Hand.kb hb4 ?_; first | with_reducible exact g_T | (simp (disch := first | omega | (simp only [Hand.sa, Hand.ss, Hand.sd, Hand.sn]; first | done | omega)) only [Hand.q2, Hand.q1, Hand.q5, Hand.q6, Hand.q4, Hand.q3, g_T] <;> rfl)
  have hB' : Below w.heap.size w w4 := Hand.stepB hb4 (by repeat (with_reducible first | apply hB | apply Below.drew | apply pw_below_drewN | (apply Below.setCell; rotate_left; (dsimp only; omega)) | (apply Below.alloc; rotate_left; (first | omega | (simp only [Hand.sa, Hand.ss, Hand.sd, Hand.sn]; omega))))) (Nat.le_refl _)
  clear HG hB g_A g_T zw z_A z1_A z2_A y0_A y1_A c_A_0 f_A_0 c_A_1 f_A_1 c_A_2 f_A_2 z_T z1_T z2_T y0_T y1_T c_T_0 f_T_0 c_T_1 f_T_1
  clear hb4
  have g_A := h_A
  have g_T := h_T
  have hB := hB'
  clear hB' h_A h_T
  obtain ⟨z_A, z1_A, z2_A, y0_A, y1_A⟩ := Hand.hz g_A
  obtain ⟨c_A_0, f_A_0, c_A_1, f_A_1, c_A_2, f_A_2⟩ := Hand.hc3 g_A
  obtain ⟨z_T, z1_T, z2_T, y0_T, y1_T⟩ := Hand.hz g_T
  obtain ⟨c_T_0, f_T_0, c_T_1, f_T_1⟩ := Hand.hc2 g_T
  have zw : w.heap.size ≤ w4.heap.size := hB.size
  have HG := Lib.hid (And.intro g_A (And.intro g_T (hB)))
  clear g_A g_T hB
  go_wp2_with fail
  with_reducible refine (M4.out _).mono ?_
  rintro e w5 ⟨rfl, hb5⟩
  obtain ⟨g_A, g_T, hB⟩ := HG.out
  have h_A : w5.heap[w.heap.size]? = some (.cells #[.int .i64 n, .int .i64 d, .bool dr] 24 (0, 0)) := by
    refine Hand.kb hb5 ?_; first | with_reducible exact g_A | (simp (disch := first | omega | (simp only [Hand.sa, Hand.ss, Hand.sd, Hand.sn]; first | done | omega)) only [Hand.q2, Hand.q1, Hand.q5, Hand.q6, Hand.q4, Hand.q3, g_A] <;> rfl)
  have h_T : w5.heap[w.heap.size + 1]? = some (.cells #[.int .i64 a, .int .i64 b] 26 (0, 0)) := by
    refine Hand.kb hb5 ?_; first | with_reducible exact g_T | (simp (disch := first | omega | (simp only [Hand.sa, Hand.ss, Hand.sd, Hand.sn]; first | done | omega)) only [Hand.q2, Hand.q1, Hand.q5, Hand.q6, Hand.q4, Hand.q3, g_T] <;> rfl)
  have hB' : Below w.heap.size w w5 := Hand.stepB hb5 (by repeat (with_reducible first | apply hB | apply Below.drew | apply pw_below_drewN | (apply Below.setCell; rotate_left; (dsimp only; omega)) | (apply Below.alloc; rotate_left; (first | omega | (simp only [Hand.sa, Hand.ss, Hand.sd, Hand.sn]; omega))))) (Nat.le_refl _)
  clear HG hB g_A g_T zw z_A z1_A z2_A y0_A y1_A c_A_0 f_A_0 c_A_1 f_A_1 c_A_2 f_A_2 z_T z1_T z2_T y0_T y1_T c_T_0 f_T_0 c_T_1 f_T_1
  clear hb5
  have g_A := h_A
  have g_T := h_T
  have hB := hB'
  clear hB' h_A h_T
  obtain ⟨z_A, z1_A, z2_A, y0_A, y1_A⟩ := Hand.hz g_A
  obtain ⟨c_A_0, f_A_0, c_A_1, f_A_1, c_A_2, f_A_2⟩ := Hand.hc3 g_A
  obtain ⟨z_T, z1_T, z2_T, y0_T, y1_T⟩ := Hand.hz g_T
  obtain ⟨c_T_0, f_T_0, c_T_1, f_T_1⟩ := Hand.hc2 g_T
  have zw : w.heap.size ≤ w5.heap.size := hB.size
  have HG := Lib.hid (And.intro g_A (And.intro g_T (hB)))
  clear g_A g_T hB
  go_wp2_with fail
  with_reducible refine (M5.out _).mono ?_
  rintro e w6 ⟨rfl, hb6⟩
  obtain ⟨g_A, g_T, hB⟩ := HG.out
  have h_A : w6.heap[w.heap.size]? = some (.cells #[.int .i64 n, .int .i64 d, .bool dr] 24 (0, 0)) := by
    refine Hand.kb hb6 ?_; first | with_reducible exact g_A | (simp (disch := first | omega | (simp only [Hand.sa, Hand.ss, Hand.sd, Hand.sn]; first | done | omega)) only [Hand.q2, Hand.q1, Hand.q5, Hand.q6, Hand.q4, Hand.q3, g_A] <;> rfl)
  have h_T : w6.heap[w.heap.size + 1]? = some (.cells #[.int .i64 a, .int .i64 b] 26 (0, 0)) := by
    refine Hand.kb hb6 ?_; first | with_reducible exact g_T | (simp (disch := first | omega | (simp only [Hand.sa, Hand.ss, Hand.sd, Hand.sn]; first | done | omega)) only [Hand.q2, Hand.q1, Hand.q5, Hand.q6, Hand.q4, Hand.q3, g_T] <;> rfl)
  have hB' : Below w.heap.size w w6 := Hand.stepB hb6 (by repeat (with_reducible first | apply hB | apply Below.drew | apply pw_below_drewN | (apply Below.setCell; rotate_left; (dsimp only; omega)) | (apply Below.alloc; rotate_left; (first | omega | (simp only [Hand.sa, Hand.ss, Hand.sd, Hand.sn]; omega))))) (Nat.le_refl _)
  clear HG hB g_A g_T zw z_A z1_A z2_A y0_A y1_A c_A_0 f_A_0 c_A_1 f_A_1 c_A_2 f_A_2 z_T z1_T z2_T y0_T y1_T c_T_0 f_T_0 c_T_1 f_T_1
  clear hb6
  have g_A := h_A
  have g_T := h_T
  have hB := hB'
  clear hB' h_A h_T
  obtain ⟨z_A, z1_A, z2_A, y0_A, y1_A⟩ := Hand.hz g_A
  obtain ⟨c_A_0, f_A_0, c_A_1, f_A_1, c_A_2, f_A_2⟩ := Hand.hc3 g_A
  obtain ⟨z_T, z1_T, z2_T, y0_T, y1_T⟩ := Hand.hz g_T
  obtain ⟨c_T_0, f_T_0, c_T_1, f_T_1⟩ := Hand.hc2 g_T
  have zw : w.heap.size ≤ w6.heap.size := hB.size
  have HG := Lib.hid (And.intro g_A (And.intro g_T (hB)))
  clear g_A g_T hB
  go_wp2
  go_ret
  obtain ⟨g_A, g_T, hB⟩ := HG.out
  exact ⟨by first | rfl | (simp; done) | (simp; decide) | (simp; rfl) | (simp [Lib.toList_data]; done), by first | exact hB | exact bw hB⟩
set_option maxHeartbeats 2000000 in
set_option maxRecDepth 100000 in
theorem near_up (n d a b p q k Z Z2 : Int) (dr : Bool) (hp : a * n = p) (hq : b * d = q) (p0 : 0 ≤ p) (p1 : p ≤ 100000000000000000) (q0 : 1 ≤ q) (q1 : q ≤ 2000000000) (k0 : 0 ≤ k) (k1 : k ≤ 1073741824) (hZ : k * q = Z) (hZ2 : (k + 1) * q = Z2) (z0 : 0 ≤ Z) (z1 : Z ≤ p) (z2 : p < Z2) (z3 : Z2 ≤ 1000000000000000000) (e : (Z == p) = false) (u : q ≤ 2 * (p - Z)) (w : World) (ht : TabN w)
    (m0 : ∀ w, TabN w → Calls Tryd.prog 16 #[] w fun e w' => e = .returned (.bool true) ∧ Below w.heap.size w w')
    (m1 : ∀ w, Calls Tryd.prog 25 #[rate n d dr] w fun e w' => e = .returned (.int .i64 0) ∧ Below w.heap.size w w')
    (m2 : ∀ w, Calls Tryd.prog 32 #[.agg #[.int .i64 a, .int .i64 b]] w fun e w' => e = .returned (.int .i64 0) ∧ Below w.heap.size w w')
    (m3 : ∀ w, Calls Tryd.prog 30 #[rate n d dr, .agg #[.int .i64 a, .int .i64 b], .int .i64 1] w fun e w' => e = .returned (.tuple #[.int .i64 k, .int .i64 0]) ∧ Below w.heap.size w w')
    (m4 : ∀ w, Calls Tryd.prog 30 #[rate n d dr, .agg #[.int .i64 a, .int .i64 b], .int .i64 2] w fun e w' => e = .returned (.tuple #[.int .i64 (k + 1), .int .i64 0]) ∧ Below w.heap.size w w')
    (m5 : ∀ w, Calls Tryd.prog 30 #[rate n d dr, .agg #[.int .i64 a, .int .i64 b], .int .i64 3] w fun e w' => e = .returned (.tuple #[.int .i64 (k + 1), .int .i64 0]) ∧ Below w.heap.size w w') :
    Calls Tryd.prog 12 #[rate n d dr, .agg #[.int .i64 a, .int .i64 b]] w fun e w' => e = .returned (.bool true) ∧ Below w.heap.size w w' := by
  have HT0 := Lib.hid ht
  have M0 := Lib.hid m0
  have M1 := Lib.hid m1
  have M2 := Lib.hid m2
  have M3 := Lib.hid m3
  have M4 := Lib.hid m4
  have M5 := Lib.hid m5
  clear m0 m1 m2 m3 m4 m5 ht
  go_enter Tryd.func12, Tryd.ntmps12
  go_wp2_with fail
  with_reducible refine (M0.out _ (tab_below HT0.out (bw (Below.refl _ _)))).mono ?_
  rintro e w1 ⟨rfl, hb1⟩
  have h_A : w1.heap[w.heap.size]? = some (.cells #[.int .i64 n, .int .i64 d, .bool dr] 24 (0, 0)) := by
    refine Hand.kb hb1 ?_; simp (disch := first | omega | (simp only [Hand.sa, Hand.ss, Hand.sd, Hand.sn]; first | done | omega)) only [Hand.q2, Hand.q1, Hand.q5, Hand.q6, Hand.q4, Hand.q3] <;> rfl
  have h_T : w1.heap[w.heap.size + 1]? = some (.cells #[.int .i64 a, .int .i64 b] 26 (0, 0)) := by
    refine Hand.kb hb1 ?_; simp (disch := first | omega | (simp only [Hand.sa, Hand.ss, Hand.sd, Hand.sn]; first | done | omega)) only [Hand.q2, Hand.q1, Hand.q5, Hand.q6, Hand.q4, Hand.q3] <;> rfl
  have hB' : Below w.heap.size w w1 := Hand.stepB hb1 (by repeat (with_reducible first | apply Below.refl _ _ | apply Below.drew | apply pw_below_drewN | (apply Below.setCell; rotate_left; (dsimp only; omega)) | (apply Below.alloc; rotate_left; (first | omega | (simp only [Hand.sa, Hand.ss, Hand.sd, Hand.sn]; omega))))) (Nat.le_refl _)
  clear hb1
  have g_A := h_A
  have g_T := h_T
  have hB := hB'
  clear hB' h_A h_T
  obtain ⟨z_A, z1_A, z2_A, y0_A, y1_A⟩ := Hand.hz g_A
  obtain ⟨c_A_0, f_A_0, c_A_1, f_A_1, c_A_2, f_A_2⟩ := Hand.hc3 g_A
  obtain ⟨z_T, z1_T, z2_T, y0_T, y1_T⟩ := Hand.hz g_T
  obtain ⟨c_T_0, f_T_0, c_T_1, f_T_1⟩ := Hand.hc2 g_T
  have zw : w.heap.size ≤ w1.heap.size := hB.size
  have HG := Lib.hid (And.intro g_A (And.intro g_T (hB)))
  clear g_A g_T hB
  go_wp2_with fail
  with_reducible refine (M1.out _).mono ?_
  rintro e w2 ⟨rfl, hb2⟩
  obtain ⟨g_A, g_T, hB⟩ := HG.out
  have h_A : w2.heap[w.heap.size]? = some (.cells #[.int .i64 n, .int .i64 d, .bool dr] 24 (0, 0)) := by
    refine Hand.kb hb2 ?_; first | with_reducible exact g_A | (simp (disch := first | omega | (simp only [Hand.sa, Hand.ss, Hand.sd, Hand.sn]; first | done | omega)) only [Hand.q2, Hand.q1, Hand.q5, Hand.q6, Hand.q4, Hand.q3, g_A] <;> rfl)
  have h_T : w2.heap[w.heap.size + 1]? = some (.cells #[.int .i64 a, .int .i64 b] 26 (0, 0)) := by
    refine Hand.kb hb2 ?_; first | with_reducible exact g_T | (simp (disch := first | omega | (simp only [Hand.sa, Hand.ss, Hand.sd, Hand.sn]; first | done | omega)) only [Hand.q2, Hand.q1, Hand.q5, Hand.q6, Hand.q4, Hand.q3, g_T] <;> rfl)
  have hB' : Below w.heap.size w w2 := Hand.stepB hb2 (by repeat (with_reducible first | apply hB | apply Below.drew | apply pw_below_drewN | (apply Below.setCell; rotate_left; (dsimp only; omega)) | (apply Below.alloc; rotate_left; (first | omega | (simp only [Hand.sa, Hand.ss, Hand.sd, Hand.sn]; omega))))) (Nat.le_refl _)
  clear HG hB g_A g_T zw z_A z1_A z2_A y0_A y1_A c_A_0 f_A_0 c_A_1 f_A_1 c_A_2 f_A_2 z_T z1_T z2_T y0_T y1_T c_T_0 f_T_0 c_T_1 f_T_1
  clear hb2
  have g_A := h_A
  have g_T := h_T
  have hB := hB'
  clear hB' h_A h_T
  obtain ⟨z_A, z1_A, z2_A, y0_A, y1_A⟩ := Hand.hz g_A
  obtain ⟨c_A_0, f_A_0, c_A_1, f_A_1, c_A_2, f_A_2⟩ := Hand.hc3 g_A
  obtain ⟨z_T, z1_T, z2_T, y0_T, y1_T⟩ := Hand.hz g_T
  obtain ⟨c_T_0, f_T_0, c_T_1, f_T_1⟩ := Hand.hc2 g_T
  have zw : w.heap.size ≤ w2.heap.size := hB.size
  have HG := Lib.hid (And.intro g_A (And.intro g_T (hB)))
  clear g_A g_T hB
  go_wp2_with fail
  with_reducible refine (M2.out _).mono ?_
  rintro e w3 ⟨rfl, hb3⟩
  obtain ⟨g_A, g_T, hB⟩ := HG.out
  have h_A : w3.heap[w.heap.size]? = some (.cells #[.int .i64 n, .int .i64 d, .bool dr] 24 (0, 0)) := by
    refine Hand.kb hb3 ?_; first | with_reducible exact g_A | (simp (disch := first | omega | (simp only [Hand.sa, Hand.ss, Hand.sd, Hand.sn]; first | done | omega)) only [Hand.q2, Hand.q1, Hand.q5, Hand.q6, Hand.q4, Hand.q3, g_A] <;> rfl)
  have h_T : w3.heap[w.heap.size + 1]? = some (.cells #[.int .i64 a, .int .i64 b] 26 (0, 0)) := by
    refine Hand.kb hb3 ?_; first | with_reducible exact g_T | (simp (disch := first | omega | (simp only [Hand.sa, Hand.ss, Hand.sd, Hand.sn]; first | done | omega)) only [Hand.q2, Hand.q1, Hand.q5, Hand.q6, Hand.q4, Hand.q3, g_T] <;> rfl)
  have hB' : Below w.heap.size w w3 := Hand.stepB hb3 (by repeat (with_reducible first | apply hB | apply Below.drew | apply pw_below_drewN | (apply Below.setCell; rotate_left; (dsimp only; omega)) | (apply Below.alloc; rotate_left; (first | omega | (simp only [Hand.sa, Hand.ss, Hand.sd, Hand.sn]; omega))))) (Nat.le_refl _)
  clear HG hB g_A g_T zw z_A z1_A z2_A y0_A y1_A c_A_0 f_A_0 c_A_1 f_A_1 c_A_2 f_A_2 z_T z1_T z2_T y0_T y1_T c_T_0 f_T_0 c_T_1 f_T_1
  clear hb3
  have g_A := h_A
  have g_T := h_T
  have hB := hB'
  clear hB' h_A h_T
  obtain ⟨z_A, z1_A, z2_A, y0_A, y1_A⟩ := Hand.hz g_A
  obtain ⟨c_A_0, f_A_0, c_A_1, f_A_1, c_A_2, f_A_2⟩ := Hand.hc3 g_A
  obtain ⟨z_T, z1_T, z2_T, y0_T, y1_T⟩ := Hand.hz g_T
  obtain ⟨c_T_0, f_T_0, c_T_1, f_T_1⟩ := Hand.hc2 g_T
  have zw : w.heap.size ≤ w3.heap.size := hB.size
  have HG := Lib.hid (And.intro g_A (And.intro g_T (hB)))
  clear g_A g_T hB
  go_wp2_with fail
  with_reducible refine (M3.out _).mono ?_
  rintro e w4 ⟨rfl, hb4⟩
  obtain ⟨g_A, g_T, hB⟩ := HG.out
  have h_A : w4.heap[w.heap.size]? = some (.cells #[.int .i64 n, .int .i64 d, .bool dr] 24 (0, 0)) := by
    refine Hand.kb hb4 ?_; first | with_reducible exact g_A | (simp (disch := first | omega | (simp only [Hand.sa, Hand.ss, Hand.sd, Hand.sn]; first | done | omega)) only [Hand.q2, Hand.q1, Hand.q5, Hand.q6, Hand.q4, Hand.q3, g_A] <;> rfl)
  have h_T : w4.heap[w.heap.size + 1]? = some (.cells #[.int .i64 a, .int .i64 b] 26 (0, 0)) := by
    refine Hand.kb hb4 ?_; first | with_reducible exact g_T | (simp (disch := first | omega | (simp only [Hand.sa, Hand.ss, Hand.sd, Hand.sn]; first | done | omega)) only [Hand.q2, Hand.q1, Hand.q5, Hand.q6, Hand.q4, Hand.q3, g_T] <;> rfl)
  have hB' : Below w.heap.size w w4 := Hand.stepB hb4 (by repeat (with_reducible first | apply hB | apply Below.drew | apply pw_below_drewN | (apply Below.setCell; rotate_left; (dsimp only; omega)) | (apply Below.alloc; rotate_left; (first | omega | (simp only [Hand.sa, Hand.ss, Hand.sd, Hand.sn]; omega))))) (Nat.le_refl _)
  clear HG hB g_A g_T zw z_A z1_A z2_A y0_A y1_A c_A_0 f_A_0 c_A_1 f_A_1 c_A_2 f_A_2 z_T z1_T z2_T y0_T y1_T c_T_0 f_T_0 c_T_1 f_T_1
  clear hb4
  have g_A := h_A
  have g_T := h_T
  have hB := hB'
  clear hB' h_A h_T
  obtain ⟨z_A, z1_A, z2_A, y0_A, y1_A⟩ := Hand.hz g_A
  obtain ⟨c_A_0, f_A_0, c_A_1, f_A_1, c_A_2, f_A_2⟩ := Hand.hc3 g_A
  obtain ⟨z_T, z1_T, z2_T, y0_T, y1_T⟩ := Hand.hz g_T
  obtain ⟨c_T_0, f_T_0, c_T_1, f_T_1⟩ := Hand.hc2 g_T
  have zw : w.heap.size ≤ w4.heap.size := hB.size
  have HG := Lib.hid (And.intro g_A (And.intro g_T (hB)))
  clear g_A g_T hB
  go_wp2_with fail
  with_reducible refine (M4.out _).mono ?_
  rintro e w5 ⟨rfl, hb5⟩
  obtain ⟨g_A, g_T, hB⟩ := HG.out
  have h_A : w5.heap[w.heap.size]? = some (.cells #[.int .i64 n, .int .i64 d, .bool dr] 24 (0, 0)) := by
    refine Hand.kb hb5 ?_; first | with_reducible exact g_A | (simp (disch := first | omega | (simp only [Hand.sa, Hand.ss, Hand.sd, Hand.sn]; first | done | omega)) only [Hand.q2, Hand.q1, Hand.q5, Hand.q6, Hand.q4, Hand.q3, g_A] <;> rfl)
  have h_T : w5.heap[w.heap.size + 1]? = some (.cells #[.int .i64 a, .int .i64 b] 26 (0, 0)) := by
    refine Hand.kb hb5 ?_; first | with_reducible exact g_T | (simp (disch := first | omega | (simp only [Hand.sa, Hand.ss, Hand.sd, Hand.sn]; first | done | omega)) only [Hand.q2, Hand.q1, Hand.q5, Hand.q6, Hand.q4, Hand.q3, g_T] <;> rfl)
  have hB' : Below w.heap.size w w5 := Hand.stepB hb5 (by repeat (with_reducible first | apply hB | apply Below.drew | apply pw_below_drewN | (apply Below.setCell; rotate_left; (dsimp only; omega)) | (apply Below.alloc; rotate_left; (first | omega | (simp only [Hand.sa, Hand.ss, Hand.sd, Hand.sn]; omega))))) (Nat.le_refl _)
  clear HG hB g_A g_T zw z_A z1_A z2_A y0_A y1_A c_A_0 f_A_0 c_A_1 f_A_1 c_A_2 f_A_2 z_T z1_T z2_T y0_T y1_T c_T_0 f_T_0 c_T_1 f_T_1
  clear hb5
  have g_A := h_A
  have g_T := h_T
  have hB := hB'
  clear hB' h_A h_T
  obtain ⟨z_A, z1_A, z2_A, y0_A, y1_A⟩ := Hand.hz g_A
  obtain ⟨c_A_0, f_A_0, c_A_1, f_A_1, c_A_2, f_A_2⟩ := Hand.hc3 g_A
  obtain ⟨z_T, z1_T, z2_T, y0_T, y1_T⟩ := Hand.hz g_T
  obtain ⟨c_T_0, f_T_0, c_T_1, f_T_1⟩ := Hand.hc2 g_T
  have zw : w.heap.size ≤ w5.heap.size := hB.size
  have HG := Lib.hid (And.intro g_A (And.intro g_T (hB)))
  clear g_A g_T hB
  go_wp2_with fail
  with_reducible refine (M5.out _).mono ?_
  rintro e w6 ⟨rfl, hb6⟩
  obtain ⟨g_A, g_T, hB⟩ := HG.out
  have h_A : w6.heap[w.heap.size]? = some (.cells #[.int .i64 n, .int .i64 d, .bool dr] 24 (0, 0)) := by
    refine Hand.kb hb6 ?_; first | with_reducible exact g_A | (simp (disch := first | omega | (simp only [Hand.sa, Hand.ss, Hand.sd, Hand.sn]; first | done | omega)) only [Hand.q2, Hand.q1, Hand.q5, Hand.q6, Hand.q4, Hand.q3, g_A] <;> rfl)
  have h_T : w6.heap[w.heap.size + 1]? = some (.cells #[.int .i64 a, .int .i64 b] 26 (0, 0)) := by
    refine Hand.kb hb6 ?_; first | with_reducible exact g_T | (simp (disch := first | omega | (simp only [Hand.sa, Hand.ss, Hand.sd, Hand.sn]; first | done | omega)) only [Hand.q2, Hand.q1, Hand.q5, Hand.q6, Hand.q4, Hand.q3, g_T] <;> rfl)
  have hB' : Below w.heap.size w w6 := Hand.stepB hb6 (by repeat (with_reducible first | apply hB | apply Below.drew | apply pw_below_drewN | (apply Below.setCell; rotate_left; (dsimp only; omega)) | (apply Below.alloc; rotate_left; (first | omega | (simp only [Hand.sa, Hand.ss, Hand.sd, Hand.sn]; omega))))) (Nat.le_refl _)
  clear HG hB g_A g_T zw z_A z1_A z2_A y0_A y1_A c_A_0 f_A_0 c_A_1 f_A_1 c_A_2 f_A_2 z_T z1_T z2_T y0_T y1_T c_T_0 f_T_0 c_T_1 f_T_1
  clear hb6
  have g_A := h_A
  have g_T := h_T
  have hB := hB'
  clear hB' h_A h_T
  obtain ⟨z_A, z1_A, z2_A, y0_A, y1_A⟩ := Hand.hz g_A
  obtain ⟨c_A_0, f_A_0, c_A_1, f_A_1, c_A_2, f_A_2⟩ := Hand.hc3 g_A
  obtain ⟨z_T, z1_T, z2_T, y0_T, y1_T⟩ := Hand.hz g_T
  obtain ⟨c_T_0, f_T_0, c_T_1, f_T_1⟩ := Hand.hc2 g_T
  have zw : w.heap.size ≤ w6.heap.size := hB.size
  have HG := Lib.hid (And.intro g_A (And.intro g_T (hB)))
  clear g_A g_T hB
  go_wp2
  go_ret
  obtain ⟨g_A, g_T, hB⟩ := HG.out
  exact ⟨by first | rfl | (simp; done) | (simp; decide) | (simp; rfl) | (simp [Lib.toList_data]; done), by first | exact hB | exact bw hB⟩
set_option maxHeartbeats 2000000 in
set_option maxRecDepth 100000 in
theorem near_down (n d a b p q k Z Z2 : Int) (dr : Bool) (hp : a * n = p) (hq : b * d = q) (p0 : 0 ≤ p) (p1 : p ≤ 100000000000000000) (q0 : 1 ≤ q) (q1 : q ≤ 2000000000) (k0 : 0 ≤ k) (k1 : k ≤ 1073741824) (hZ : k * q = Z) (hZ2 : (k + 1) * q = Z2) (z0 : 0 ≤ Z) (z1 : Z ≤ p) (z2 : p < Z2) (z3 : Z2 ≤ 1000000000000000000) (e : (Z == p) = false) (u : 2 * (p - Z) < q) (w : World) (ht : TabN w)
    (m0 : ∀ w, TabN w → Calls Tryd.prog 16 #[] w fun e w' => e = .returned (.bool true) ∧ Below w.heap.size w w')
    (m1 : ∀ w, Calls Tryd.prog 25 #[rate n d dr] w fun e w' => e = .returned (.int .i64 0) ∧ Below w.heap.size w w')
    (m2 : ∀ w, Calls Tryd.prog 32 #[.agg #[.int .i64 a, .int .i64 b]] w fun e w' => e = .returned (.int .i64 0) ∧ Below w.heap.size w w')
    (m3 : ∀ w, Calls Tryd.prog 30 #[rate n d dr, .agg #[.int .i64 a, .int .i64 b], .int .i64 1] w fun e w' => e = .returned (.tuple #[.int .i64 k, .int .i64 0]) ∧ Below w.heap.size w w')
    (m4 : ∀ w, Calls Tryd.prog 30 #[rate n d dr, .agg #[.int .i64 a, .int .i64 b], .int .i64 2] w fun e w' => e = .returned (.tuple #[.int .i64 k, .int .i64 0]) ∧ Below w.heap.size w w')
    (m5 : ∀ w, Calls Tryd.prog 30 #[rate n d dr, .agg #[.int .i64 a, .int .i64 b], .int .i64 3] w fun e w' => e = .returned (.tuple #[.int .i64 (k + 1), .int .i64 0]) ∧ Below w.heap.size w w') :
    Calls Tryd.prog 12 #[rate n d dr, .agg #[.int .i64 a, .int .i64 b]] w fun e w' => e = .returned (.bool true) ∧ Below w.heap.size w w' := by
  have HT0 := Lib.hid ht
  have M0 := Lib.hid m0
  have M1 := Lib.hid m1
  have M2 := Lib.hid m2
  have M3 := Lib.hid m3
  have M4 := Lib.hid m4
  have M5 := Lib.hid m5
  clear m0 m1 m2 m3 m4 m5 ht
  go_enter Tryd.func12, Tryd.ntmps12
  go_wp2_with fail
  with_reducible refine (M0.out _ (tab_below HT0.out (bw (Below.refl _ _)))).mono ?_
  rintro e w1 ⟨rfl, hb1⟩
  have h_A : w1.heap[w.heap.size]? = some (.cells #[.int .i64 n, .int .i64 d, .bool dr] 24 (0, 0)) := by
    refine Hand.kb hb1 ?_; simp (disch := first | omega | (simp only [Hand.sa, Hand.ss, Hand.sd, Hand.sn]; first | done | omega)) only [Hand.q2, Hand.q1, Hand.q5, Hand.q6, Hand.q4, Hand.q3] <;> rfl
  have h_T : w1.heap[w.heap.size + 1]? = some (.cells #[.int .i64 a, .int .i64 b] 26 (0, 0)) := by
    refine Hand.kb hb1 ?_; simp (disch := first | omega | (simp only [Hand.sa, Hand.ss, Hand.sd, Hand.sn]; first | done | omega)) only [Hand.q2, Hand.q1, Hand.q5, Hand.q6, Hand.q4, Hand.q3] <;> rfl
  have hB' : Below w.heap.size w w1 := Hand.stepB hb1 (by repeat (with_reducible first | apply Below.refl _ _ | apply Below.drew | apply pw_below_drewN | (apply Below.setCell; rotate_left; (dsimp only; omega)) | (apply Below.alloc; rotate_left; (first | omega | (simp only [Hand.sa, Hand.ss, Hand.sd, Hand.sn]; omega))))) (Nat.le_refl _)
  clear hb1
  have g_A := h_A
  have g_T := h_T
  have hB := hB'
  clear hB' h_A h_T
  obtain ⟨z_A, z1_A, z2_A, y0_A, y1_A⟩ := Hand.hz g_A
  obtain ⟨c_A_0, f_A_0, c_A_1, f_A_1, c_A_2, f_A_2⟩ := Hand.hc3 g_A
  obtain ⟨z_T, z1_T, z2_T, y0_T, y1_T⟩ := Hand.hz g_T
  obtain ⟨c_T_0, f_T_0, c_T_1, f_T_1⟩ := Hand.hc2 g_T
  have zw : w.heap.size ≤ w1.heap.size := hB.size
  have HG := Lib.hid (And.intro g_A (And.intro g_T (hB)))
  clear g_A g_T hB
  go_wp2_with fail
  with_reducible refine (M1.out _).mono ?_
  rintro e w2 ⟨rfl, hb2⟩
  obtain ⟨g_A, g_T, hB⟩ := HG.out
  have h_A : w2.heap[w.heap.size]? = some (.cells #[.int .i64 n, .int .i64 d, .bool dr] 24 (0, 0)) := by
    refine Hand.kb hb2 ?_; first | with_reducible exact g_A | (simp (disch := first | omega | (simp only [Hand.sa, Hand.ss, Hand.sd, Hand.sn]; first | done | omega)) only [Hand.q2, Hand.q1, Hand.q5, Hand.q6, Hand.q4, Hand.q3, g_A] <;> rfl)
  have h_T : w2.heap[w.heap.size + 1]? = some (.cells #[.int .i64 a, .int .i64 b] 26 (0, 0)) := by
    refine Hand.kb hb2 ?_; first | with_reducible exact g_T | (simp (disch := first | omega | (simp only [Hand.sa, Hand.ss, Hand.sd, Hand.sn]; first | done | omega)) only [Hand.q2, Hand.q1, Hand.q5, Hand.q6, Hand.q4, Hand.q3, g_T] <;> rfl)
  have hB' : Below w.heap.size w w2 := Hand.stepB hb2 (by repeat (with_reducible first | apply hB | apply Below.drew | apply pw_below_drewN | (apply Below.setCell; rotate_left; (dsimp only; omega)) | (apply Below.alloc; rotate_left; (first | omega | (simp only [Hand.sa, Hand.ss, Hand.sd, Hand.sn]; omega))))) (Nat.le_refl _)
  clear HG hB g_A g_T zw z_A z1_A z2_A y0_A y1_A c_A_0 f_A_0 c_A_1 f_A_1 c_A_2 f_A_2 z_T z1_T z2_T y0_T y1_T c_T_0 f_T_0 c_T_1 f_T_1
  clear hb2
  have g_A := h_A
  have g_T := h_T
  have hB := hB'
  clear hB' h_A h_T
  obtain ⟨z_A, z1_A, z2_A, y0_A, y1_A⟩ := Hand.hz g_A
  obtain ⟨c_A_0, f_A_0, c_A_1, f_A_1, c_A_2, f_A_2⟩ := Hand.hc3 g_A
  obtain ⟨z_T, z1_T, z2_T, y0_T, y1_T⟩ := Hand.hz g_T
  obtain ⟨c_T_0, f_T_0, c_T_1, f_T_1⟩ := Hand.hc2 g_T
  have zw : w.heap.size ≤ w2.heap.size := hB.size
  have HG := Lib.hid (And.intro g_A (And.intro g_T (hB)))
  clear g_A g_T hB
  go_wp2_with fail
  with_reducible refine (M2.out _).mono ?_
  rintro e w3 ⟨rfl, hb3⟩
  obtain ⟨g_A, g_T, hB⟩ := HG.out
  have h_A : w3.heap[w.heap.size]? = some (.cells #[.int .i64 n, .int .i64 d, .bool dr] 24 (0, 0)) := by
    refine Hand.kb hb3 ?_; first | with_reducible exact g_A | (simp (disch := first | omega | (simp only [Hand.sa, Hand.ss, Hand.sd, Hand.sn]; first | done | omega)) only [Hand.q2, Hand.q1, Hand.q5, Hand.q6, Hand.q4, Hand.q3, g_A] <;> rfl)
  have h_T : w3.heap[w.heap.size + 1]? = some (.cells #[.int .i64 a, .int .i64 b] 26 (0, 0)) := by
    refine Hand.kb hb3 ?_; first | with_reducible exact g_T | (simp (disch := first | omega | (simp only [Hand.sa, Hand.ss, Hand.sd, Hand.sn]; first | done | omega)) only [Hand.q2, Hand.q1, Hand.q5, Hand.q6, Hand.q4, Hand.q3, g_T] <;> rfl)
  have hB' : Below w.heap.size w w3 := Hand.stepB hb3 (by repeat (with_reducible first | apply hB | apply Below.drew | apply pw_below_drewN | (apply Below.setCell; rotate_left; (dsimp only; omega)) | (apply Below.alloc; rotate_left; (first | omega | (simp only [Hand.sa, Hand.ss, Hand.sd, Hand.sn]; omega))))) (Nat.le_refl _)
  clear HG hB g_A g_T zw z_A z1_A z2_A y0_A y1_A c_A_0 f_A_0 c_A_1 f_A_1 c_A_2 f_A_2 z_T z1_T z2_T y0_T y1_T c_T_0 f_T_0 c_T_1 f_T_1
  clear hb3
  have g_A := h_A
  have g_T := h_T
  have hB := hB'
  clear hB' h_A h_T
  obtain ⟨z_A, z1_A, z2_A, y0_A, y1_A⟩ := Hand.hz g_A
  obtain ⟨c_A_0, f_A_0, c_A_1, f_A_1, c_A_2, f_A_2⟩ := Hand.hc3 g_A
  obtain ⟨z_T, z1_T, z2_T, y0_T, y1_T⟩ := Hand.hz g_T
  obtain ⟨c_T_0, f_T_0, c_T_1, f_T_1⟩ := Hand.hc2 g_T
  have zw : w.heap.size ≤ w3.heap.size := hB.size
  have HG := Lib.hid (And.intro g_A (And.intro g_T (hB)))
  clear g_A g_T hB
  go_wp2_with fail
  with_reducible refine (M3.out _).mono ?_
  rintro e w4 ⟨rfl, hb4⟩
  obtain ⟨g_A, g_T, hB⟩ := HG.out
  have h_A : w4.heap[w.heap.size]? = some (.cells #[.int .i64 n, .int .i64 d, .bool dr] 24 (0, 0)) := by
    refine Hand.kb hb4 ?_; first | with_reducible exact g_A | (simp (disch := first | omega | (simp only [Hand.sa, Hand.ss, Hand.sd, Hand.sn]; first | done | omega)) only [Hand.q2, Hand.q1, Hand.q5, Hand.q6, Hand.q4, Hand.q3, g_A] <;> rfl)
  have h_T : w4.heap[w.heap.size + 1]? = some (.cells #[.int .i64 a, .int .i64 b] 26 (0, 0)) := by
    refine Hand.kb hb4 ?_; first | with_reducible exact g_T | (simp (disch := first | omega | (simp only [Hand.sa, Hand.ss, Hand.sd, Hand.sn]; first | done | omega)) only [Hand.q2, Hand.q1, Hand.q5, Hand.q6, Hand.q4, Hand.q3, g_T] <;> rfl)
  have hB' : Below w.heap.size w w4 := Hand.stepB hb4 (by repeat (with_reducible first | apply hB | apply Below.drew | apply pw_below_drewN | (apply Below.setCell; rotate_left; (dsimp only; omega)) | (apply Below.alloc; rotate_left; (first | omega | (simp only [Hand.sa, Hand.ss, Hand.sd, Hand.sn]; omega))))) (Nat.le_refl _)
  clear HG hB g_A g_T zw z_A z1_A z2_A y0_A y1_A c_A_0 f_A_0 c_A_1 f_A_1 c_A_2 f_A_2 z_T z1_T z2_T y0_T y1_T c_T_0 f_T_0 c_T_1 f_T_1
  clear hb4
  have g_A := h_A
  have g_T := h_T
  have hB := hB'
  clear hB' h_A h_T
  obtain ⟨z_A, z1_A, z2_A, y0_A, y1_A⟩ := Hand.hz g_A
  obtain ⟨c_A_0, f_A_0, c_A_1, f_A_1, c_A_2, f_A_2⟩ := Hand.hc3 g_A
  obtain ⟨z_T, z1_T, z2_T, y0_T, y1_T⟩ := Hand.hz g_T
  obtain ⟨c_T_0, f_T_0, c_T_1, f_T_1⟩ := Hand.hc2 g_T
  have zw : w.heap.size ≤ w4.heap.size := hB.size
  have HG := Lib.hid (And.intro g_A (And.intro g_T (hB)))
  clear g_A g_T hB
  go_wp2_with fail
  with_reducible refine (M4.out _).mono ?_
  rintro e w5 ⟨rfl, hb5⟩
  obtain ⟨g_A, g_T, hB⟩ := HG.out
  have h_A : w5.heap[w.heap.size]? = some (.cells #[.int .i64 n, .int .i64 d, .bool dr] 24 (0, 0)) := by
    refine Hand.kb hb5 ?_; first | with_reducible exact g_A | (simp (disch := first | omega | (simp only [Hand.sa, Hand.ss, Hand.sd, Hand.sn]; first | done | omega)) only [Hand.q2, Hand.q1, Hand.q5, Hand.q6, Hand.q4, Hand.q3, g_A] <;> rfl)
  have h_T : w5.heap[w.heap.size + 1]? = some (.cells #[.int .i64 a, .int .i64 b] 26 (0, 0)) := by
    refine Hand.kb hb5 ?_; first | with_reducible exact g_T | (simp (disch := first | omega | (simp only [Hand.sa, Hand.ss, Hand.sd, Hand.sn]; first | done | omega)) only [Hand.q2, Hand.q1, Hand.q5, Hand.q6, Hand.q4, Hand.q3, g_T] <;> rfl)
  have hB' : Below w.heap.size w w5 := Hand.stepB hb5 (by repeat (with_reducible first | apply hB | apply Below.drew | apply pw_below_drewN | (apply Below.setCell; rotate_left; (dsimp only; omega)) | (apply Below.alloc; rotate_left; (first | omega | (simp only [Hand.sa, Hand.ss, Hand.sd, Hand.sn]; omega))))) (Nat.le_refl _)
  clear HG hB g_A g_T zw z_A z1_A z2_A y0_A y1_A c_A_0 f_A_0 c_A_1 f_A_1 c_A_2 f_A_2 z_T z1_T z2_T y0_T y1_T c_T_0 f_T_0 c_T_1 f_T_1
  clear hb5
  have g_A := h_A
  have g_T := h_T
  have hB := hB'
  clear hB' h_A h_T
  obtain ⟨z_A, z1_A, z2_A, y0_A, y1_A⟩ := Hand.hz g_A
  obtain ⟨c_A_0, f_A_0, c_A_1, f_A_1, c_A_2, f_A_2⟩ := Hand.hc3 g_A
  obtain ⟨z_T, z1_T, z2_T, y0_T, y1_T⟩ := Hand.hz g_T
  obtain ⟨c_T_0, f_T_0, c_T_1, f_T_1⟩ := Hand.hc2 g_T
  have zw : w.heap.size ≤ w5.heap.size := hB.size
  have HG := Lib.hid (And.intro g_A (And.intro g_T (hB)))
  clear g_A g_T hB
  go_wp2_with fail
  with_reducible refine (M5.out _).mono ?_
  rintro e w6 ⟨rfl, hb6⟩
  obtain ⟨g_A, g_T, hB⟩ := HG.out
  have h_A : w6.heap[w.heap.size]? = some (.cells #[.int .i64 n, .int .i64 d, .bool dr] 24 (0, 0)) := by
    refine Hand.kb hb6 ?_; first | with_reducible exact g_A | (simp (disch := first | omega | (simp only [Hand.sa, Hand.ss, Hand.sd, Hand.sn]; first | done | omega)) only [Hand.q2, Hand.q1, Hand.q5, Hand.q6, Hand.q4, Hand.q3, g_A] <;> rfl)
  have h_T : w6.heap[w.heap.size + 1]? = some (.cells #[.int .i64 a, .int .i64 b] 26 (0, 0)) := by
    refine Hand.kb hb6 ?_; first | with_reducible exact g_T | (simp (disch := first | omega | (simp only [Hand.sa, Hand.ss, Hand.sd, Hand.sn]; first | done | omega)) only [Hand.q2, Hand.q1, Hand.q5, Hand.q6, Hand.q4, Hand.q3, g_T] <;> rfl)
  have hB' : Below w.heap.size w w6 := Hand.stepB hb6 (by repeat (with_reducible first | apply hB | apply Below.drew | apply pw_below_drewN | (apply Below.setCell; rotate_left; (dsimp only; omega)) | (apply Below.alloc; rotate_left; (first | omega | (simp only [Hand.sa, Hand.ss, Hand.sd, Hand.sn]; omega))))) (Nat.le_refl _)
  clear HG hB g_A g_T zw z_A z1_A z2_A y0_A y1_A c_A_0 f_A_0 c_A_1 f_A_1 c_A_2 f_A_2 z_T z1_T z2_T y0_T y1_T c_T_0 f_T_0 c_T_1 f_T_1
  clear hb6
  have g_A := h_A
  have g_T := h_T
  have hB := hB'
  clear hB' h_A h_T
  obtain ⟨z_A, z1_A, z2_A, y0_A, y1_A⟩ := Hand.hz g_A
  obtain ⟨c_A_0, f_A_0, c_A_1, f_A_1, c_A_2, f_A_2⟩ := Hand.hc3 g_A
  obtain ⟨z_T, z1_T, z2_T, y0_T, y1_T⟩ := Hand.hz g_T
  obtain ⟨c_T_0, f_T_0, c_T_1, f_T_1⟩ := Hand.hc2 g_T
  have zw : w.heap.size ≤ w6.heap.size := hB.size
  have HG := Lib.hid (And.intro g_A (And.intro g_T (hB)))
  clear g_A g_T hB
  go_wp2
  go_ret
  obtain ⟨g_A, g_T, hB⟩ := HG.out
  exact ⟨by first | rfl | (simp; done) | (simp; decide) | (simp; rfl) | (simp [Lib.toList_data]; done), by first | exact hB | exact bw hB⟩
end Go.Proofs.YtghiibdhibcbaaaDoor.PA
