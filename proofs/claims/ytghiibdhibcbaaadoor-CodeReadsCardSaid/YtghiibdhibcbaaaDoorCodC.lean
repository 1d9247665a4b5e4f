/- code: Grid, Time, Frame. -/
import Derived.Test.YtghiibdhibcbaaaDoorCodB
namespace Go.Proofs.YtghiibdhibcbaaaDoor.PA
open Go Go.RowKit Go.Proofs.YtghiibdhibcbaaaDoorW.PrintWords Go.Proofs.YtghiibdhibcbaaaDoorW.PrintLast Go.Proofs.YtghiibdhibcbaaaDoorW.PrintMore Go.Proofs.YtghiibdhibcbaaaDoor.CS
set_option linter.unusedSimpArgs false
set_option linter.unusedVariables false
set_option maxHeartbeats 800000 in
set_option maxRecDepth 100000 in
theorem ctime_bad (n d c fr : Int) (dr : Bool) (hc : (c == 0) = false) (w : World)
    (m1 : ∀ w, Calls Tryd.prog 33 #[rate n d dr] w fun e w' => e = .returned (.int .i64 c) ∧ Below w.heap.size w w') :
    Calls Tryd.prog 17 #[rate n d dr, .int .i64 fr] w fun e w' => e = .returned (.tuple #[.agg #[.int .i64 0, .int .i64 0], .int .i64 c]) ∧ Below w.heap.size w w' := by
  have M1 := Lib.hid m1
  clear m1
  go_enter Tryd.func17, Tryd.ntmps17
  go_wp2_with fail
  with_reducible refine (M1.out _).mono ?_
  rintro e w1 ⟨rfl, hb1⟩
  have h_A : w1.heap[w.heap.size]? = some (.cells #[.int .i64 n, .int .i64 d, .bool dr] 24 (0, 0)) := by
    refine Hand.kb hb1 ?_; simp (disch := first | omega | (simp only [Hand.sa, Hand.ss, Hand.sd, Hand.sn]; first | done | omega)) only [Hand.q2, Hand.q1, Hand.q5, Hand.q6, Hand.q4, Hand.q3] <;> rfl
  have h_R : w1.heap[w.heap.size + 1]? = some (.cells #[.int .i64 0, .int .i64 0] 26 (0, 0)) := by
    refine Hand.kb hb1 ?_; simp (disch := first | omega | (simp only [Hand.sa, Hand.ss, Hand.sd, Hand.sn]; first | done | omega)) only [Hand.q2, Hand.q1, Hand.q5, Hand.q6, Hand.q4, Hand.q3] <;> rfl
  have hB' : Below w.heap.size w w1 := Hand.stepB hb1 (by repeat (with_reducible first | apply Below.refl _ _ | apply Below.drew | apply pw_below_drewN | (apply Below.setCell; rotate_left; (dsimp only; omega)) | (apply Below.alloc; rotate_left; (first | omega | (simp only [Hand.sa, Hand.ss, Hand.sd, Hand.sn]; omega))))) (Nat.le_refl _)
  clear hb1
  have g_A := h_A
  have g_R := h_R
  have hB := hB'
  clear hB' h_A h_R
  obtain ⟨z_A, z1_A, z2_A, y0_A, y1_A⟩ := Hand.hz g_A
  obtain ⟨c_A_0, f_A_0, c_A_1, f_A_1, c_A_2, f_A_2⟩ := Hand.hc3 g_A
  obtain ⟨z_R, z1_R, z2_R, y0_R, y1_R⟩ := Hand.hz g_R
  obtain ⟨c_R_0, f_R_0, c_R_1, f_R_1⟩ := Hand.hc2 g_R
  have zw : w.heap.size ≤ w1.heap.size := hB.size
  have HG := Lib.hid (And.intro g_A (And.intro g_R (hB)))
  clear g_A g_R hB
  go_wp2
  obtain ⟨g_A, g_R, hB⟩ := HG.out
  refine bodyPost_ret (results_ct rfl _ _ (w.heap.size + 1) 26 #[.int .i64 0, .int .i64 0] (0, 0) _ rfl ?_ Tryd.underlying26 rfl (by kernel_rfl)) rfl ⟨rfl, ?_⟩
  · simp (disch := omega) only [Hand.q1, g_R]; rfl
  · exact (hB.setCell (by dsimp only; omega) _).setCell (by dsimp only; omega) _
set_option maxHeartbeats 800000 in
set_option maxRecDepth 100000 in
theorem ctime_far (n d fr : Int) (dr : Bool) (w : World)
    (m1 : ∀ w, Calls Tryd.prog 33 #[rate n d dr] w fun e w' => e = .returned (.int .i64 0) ∧ Below w.heap.size w w')
    (m2 : ∀ w, Calls Tryd.prog 42 #[rate n d dr, .int .i64 fr] w fun e w' => e = .returned (.bool false) ∧ Below w.heap.size w w') :
    Calls Tryd.prog 17 #[rate n d dr, .int .i64 fr] w fun e w' => e = .returned (.tuple #[.agg #[.int .i64 0, .int .i64 0], .int .i64 31]) ∧ Below w.heap.size w w' := by
  have M1 := Lib.hid m1
  have M2 := Lib.hid m2
  clear m1 m2
  go_enter Tryd.func17, Tryd.ntmps17
  go_wp2_with fail
  with_reducible refine (M1.out _).mono ?_
  rintro e w1 ⟨rfl, hb1⟩
  have h_A : w1.heap[w.heap.size]? = some (.cells #[.int .i64 n, .int .i64 d, .bool dr] 24 (0, 0)) := by
    refine Hand.kb hb1 ?_; simp (disch := first | omega | (simp only [Hand.sa, Hand.ss, Hand.sd, Hand.sn]; first | done | omega)) only [Hand.q2, Hand.q1, Hand.q5, Hand.q6, Hand.q4, Hand.q3] <;> rfl
  have h_R : w1.heap[w.heap.size + 1]? = some (.cells #[.int .i64 0, .int .i64 0] 26 (0, 0)) := by
    refine Hand.kb hb1 ?_; simp (disch := first | omega | (simp only [Hand.sa, Hand.ss, Hand.sd, Hand.sn]; first | done | omega)) only [Hand.q2, Hand.q1, Hand.q5, Hand.q6, Hand.q4, Hand.q3] <;> rfl
  have hB' : Below w.heap.size w w1 := Hand.stepB hb1 (by repeat (with_reducible first | apply Below.refl _ _ | apply Below.drew | apply pw_below_drewN | (apply Below.setCell; rotate_left; (dsimp only; omega)) | (apply Below.alloc; rotate_left; (first | omega | (simp only [Hand.sa, Hand.ss, Hand.sd, Hand.sn]; omega))))) (Nat.le_refl _)
  clear hb1
  have g_A := h_A
  have g_R := h_R
  have hB := hB'
  clear hB' h_A h_R
  obtain ⟨z_A, z1_A, z2_A, y0_A, y1_A⟩ := Hand.hz g_A
  obtain ⟨c_A_0, f_A_0, c_A_1, f_A_1, c_A_2, f_A_2⟩ := Hand.hc3 g_A
  obtain ⟨z_R, z1_R, z2_R, y0_R, y1_R⟩ := Hand.hz g_R
  obtain ⟨c_R_0, f_R_0, c_R_1, f_R_1⟩ := Hand.hc2 g_R
  have zw : w.heap.size ≤ w1.heap.size := hB.size
  have HG := Lib.hid (And.intro g_A (And.intro g_R (hB)))
  clear g_A g_R hB
  go_wp2_with fail
  with_reducible refine (M2.out _).mono ?_
  rintro e w2 ⟨rfl, hb2⟩
  obtain ⟨g_A, g_R, hB⟩ := HG.out
  have h_A : w2.heap[w.heap.size]? = some (.cells #[.int .i64 n, .int .i64 d, .bool dr] 24 (0, 0)) := by
    refine Hand.kb hb2 ?_; first | with_reducible exact g_A | (simp (disch := first | omega | (simp only [Hand.sa, Hand.ss, Hand.sd, Hand.sn]; first | done | omega)) only [Hand.q2, Hand.q1, Hand.q5, Hand.q6, Hand.q4, Hand.q3, g_A] <;> rfl)
  have h_R : w2.heap[w.heap.size + 1]? = some (.cells #[.int .i64 0, .int .i64 0] 26 (0, 0)) := by
    refine Hand.kb hb2 ?_; first | with_reducible exact g_R | (simp (disch := first | omega | (simp only [Hand.sa, Hand.ss, Hand.sd, Hand.sn]; first | done | omega)) only [Hand.q2, Hand.q1, Hand.q5, Hand.q6, Hand.q4, Hand.q3, g_R] <;> rfl)
  have hB' : Below w.heap.size w w2 := Hand.stepB hb2 (by repeat (with_reducible first | apply hB | apply Below.drew | apply pw_below_drewN | (apply Below.setCell; rotate_left; (dsimp only; omega)) | (apply Below.alloc; rotate_left; (first | omega | (simp only [Hand.sa, Hand.ss, Hand.sd, Hand.sn]; omega))))) (Nat.le_refl _)
  clear HG hB g_A g_R zw z_A z1_A z2_A y0_A y1_A c_A_0 f_A_0 c_A_1 f_A_1 c_A_2 f_A_2 z_R z1_R z2_R y0_R y1_R c_R_0 f_R_0 c_R_1 f_R_1
  clear hb2
  have g_A := h_A
  have g_R := h_R
  have hB := hB'
  clear hB' h_A h_R
  obtain ⟨z_A, z1_A, z2_A, y0_A, y1_A⟩ := Hand.hz g_A
  obtain ⟨c_A_0, f_A_0, c_A_1, f_A_1, c_A_2, f_A_2⟩ := Hand.hc3 g_A
  obtain ⟨z_R, z1_R, z2_R, y0_R, y1_R⟩ := Hand.hz g_R
  obtain ⟨c_R_0, f_R_0, c_R_1, f_R_1⟩ := Hand.hc2 g_R
  have zw : w.heap.size ≤ w2.heap.size := hB.size
  have HG := Lib.hid (And.intro g_A (And.intro g_R (hB)))
  clear g_A g_R hB
  go_wp2
  obtain ⟨g_A, g_R, hB⟩ := HG.out
  refine bodyPost_ret (results_ct rfl _ _ (w.heap.size + 1) 26 #[.int .i64 0, .int .i64 0] (0, 0) _ rfl ?_ Tryd.underlying26 rfl (by kernel_rfl)) rfl ⟨rfl, ?_⟩
  · simp (disch := omega) only [Hand.q1, g_R]; rfl
  · exact (hB.setCell (by dsimp only; omega) _).setCell (by dsimp only; omega) _
set_option maxHeartbeats 800000 in
set_option maxRecDepth 100000 in
theorem ctime_ok (n d fr p x y z : Int) (dr : Bool) (f0 : 0 ≤ fr) (f1 : fr ≤ 86400000) (d0 : 1 ≤ d) (d1 : d ≤ 1001) (hp : fr * d = p) (w : World)
    (m1 : ∀ w, Calls Tryd.prog 33 #[rate n d dr] w fun e w' => e = .returned (.int .i64 0) ∧ Below w.heap.size w w')
    (m2 : ∀ w, Calls Tryd.prog 42 #[rate n d dr, .int .i64 fr] w fun e w' => e = .returned (.bool true) ∧ Below w.heap.size w w')
    (m3 : ∀ w, Calls Tryd.prog 43 #[.int .i64 p, .int .i64 n] w fun e w' => e = .returned (.tuple #[.agg #[.int .i64 x, .int .i64 y], .int .i64 z]) ∧ Below w.heap.size w w') :
    Calls Tryd.prog 17 #[rate n d dr, .int .i64 fr] w fun e w' => e = .returned (.tuple #[.agg #[.int .i64 x, .int .i64 y], .int .i64 z]) ∧ Below w.heap.size w w' := by
  have p1 : p ≤ 86400000 * 1001 := by rw [← hp]; exact Int.mul_le_mul f1 d1 (by omega) (by omega)
  have p0 : 0 ≤ p := by rw [← hp]; exact Int.mul_nonneg f0 (by omega)
  have M1 := Lib.hid m1
  have M2 := Lib.hid m2
  have M3 := Lib.hid m3
  clear m1 m2 m3
  go_enter Tryd.func17, Tryd.ntmps17
  go_wp2_with fail
  with_reducible refine (M1.out _).mono ?_
  rintro e w1 ⟨rfl, hb1⟩
  have h_A : w1.heap[w.heap.size]? = some (.cells #[.int .i64 n, .int .i64 d, .bool dr] 24 (0, 0)) := by
    refine Hand.kb hb1 ?_; simp (disch := first | omega | (simp only [Hand.sa, Hand.ss, Hand.sd, Hand.sn]; first | done | omega)) only [Hand.q2, Hand.q1, Hand.q5, Hand.q6, Hand.q4, Hand.q3] <;> rfl
  have h_R : w1.heap[w.heap.size + 1]? = some (.cells #[.int .i64 0, .int .i64 0] 26 (0, 0)) := by
    refine Hand.kb hb1 ?_; simp (disch := first | omega | (simp only [Hand.sa, Hand.ss, Hand.sd, Hand.sn]; first | done | omega)) only [Hand.q2, Hand.q1, Hand.q5, Hand.q6, Hand.q4, Hand.q3] <;> rfl
  have hB' : Below w.heap.size w w1 := Hand.stepB hb1 (by repeat (with_reducible first | apply Below.refl _ _ | apply Below.drew | apply pw_below_drewN | (apply Below.setCell; rotate_left; (dsimp only; omega)) | (apply Below.alloc; rotate_left; (first | omega | (simp only [Hand.sa, Hand.ss, Hand.sd, Hand.sn]; omega))))) (Nat.le_refl _)
  clear hb1
  have g_A := h_A
  have g_R := h_R
  have hB := hB'
  clear hB' h_A h_R
  obtain ⟨z_A, z1_A, z2_A, y0_A, y1_A⟩ := Hand.hz g_A
  obtain ⟨c_A_0, f_A_0, c_A_1, f_A_1, c_A_2, f_A_2⟩ := Hand.hc3 g_A
  obtain ⟨z_R, z1_R, z2_R, y0_R, y1_R⟩ := Hand.hz g_R
  obtain ⟨c_R_0, f_R_0, c_R_1, f_R_1⟩ := Hand.hc2 g_R
  have zw : w.heap.size ≤ w1.heap.size := hB.size
  have HG := Lib.hid (And.intro g_A (And.intro g_R (hB)))
  clear g_A g_R hB
  go_wp2_with fail
  with_reducible refine (M2.out _).mono ?_
  rintro e w2 ⟨rfl, hb2⟩
  obtain ⟨g_A, g_R, hB⟩ := HG.out
  have h_A : w2.heap[w.heap.size]? = some (.cells #[.int .i64 n, .int .i64 d, .bool dr] 24 (0, 0)) := by
    refine Hand.kb hb2 ?_; first | with_reducible exact g_A | (simp (disch := first | omega | (simp only [Hand.sa, Hand.ss, Hand.sd, Hand.sn]; first | done | omega)) only [Hand.q2, Hand.q1, Hand.q5, Hand.q6, Hand.q4, Hand.q3, g_A] <;> rfl)
  have h_R : w2.heap[w.heap.size + 1]? = some (.cells #[.int .i64 0, .int .i64 0] 26 (0, 0)) := by
    refine Hand.kb hb2 ?_; first | with_reducible exact g_R | (simp (disch := first | omega | (simp only [Hand.sa, Hand.ss, Hand.sd, Hand.sn]; first | done | omega)) only [Hand.q2, Hand.q1, Hand.q5, Hand.q6, Hand.q4, Hand.q3, g_R] <;> rfl)
  have hB' : Below w.heap.size w w2 := Hand.stepB hb2 (by repeat (with_reducible first | apply hB | apply Below.drew | apply pw_below_drewN | (apply Below.setCell; rotate_left; (dsimp only; omega)) | (apply Below.alloc; rotate_left; (first | omega | (simp only [Hand.sa, Hand.ss, Hand.sd, Hand.sn]; omega))))) (Nat.le_refl _)
  clear HG hB g_A g_R zw z_A z1_A z2_A y0_A y1_A c_A_0 f_A_0 c_A_1 f_A_1 c_A_2 f_A_2 z_R z1_R z2_R y0_R y1_R c_R_0 f_R_0 c_R_1 f_R_1
  clear hb2
  have g_A := h_A
  have g_R := h_R
  have hB := hB'
  clear hB' h_A h_R
  obtain ⟨z_A, z1_A, z2_A, y0_A, y1_A⟩ := Hand.hz g_A
  obtain ⟨c_A_0, f_A_0, c_A_1, f_A_1, c_A_2, f_A_2⟩ := Hand.hc3 g_A
  obtain ⟨z_R, z1_R, z2_R, y0_R, y1_R⟩ := Hand.hz g_R
  obtain ⟨c_R_0, f_R_0, c_R_1, f_R_1⟩ := Hand.hc2 g_R
  have zw : w.heap.size ≤ w2.heap.size := hB.size
  have HG := Lib.hid (And.intro g_A (And.intro g_R (hB)))
  clear g_A g_R hB
  go_wp2_with fail
  with_reducible refine (M3.out _).mono ?_
  rintro e w3 ⟨rfl, hb3⟩
  obtain ⟨g_A, g_R, hB⟩ := HG.out
  have h_A : w3.heap[w.heap.size]? = some (.cells #[.int .i64 n, .int .i64 d, .bool dr] 24 (0, 0)) := by
    refine Hand.kb hb3 ?_; first | with_reducible exact g_A | (simp (disch := first | omega | (simp only [Hand.sa, Hand.ss, Hand.sd, Hand.sn]; first | done | omega)) only [Hand.q2, Hand.q1, Hand.q5, Hand.q6, Hand.q4, Hand.q3, g_A] <;> rfl)
  have h_R : w3.heap[w.heap.size + 1]? = some (.cells #[.int .i64 0, .int .i64 0] 26 (0, 0)) := by
    refine Hand.kb hb3 ?_; first | with_reducible exact g_R | (simp (disch := first | omega | (simp only [Hand.sa, Hand.ss, Hand.sd, Hand.sn]; first | done | omega)) only [Hand.q2, Hand.q1, Hand.q5, Hand.q6, Hand.q4, Hand.q3, g_R] <;> rfl)
  have hB' : Below w.heap.size w w3 := Hand.stepB hb3 (by repeat (with_reducible first | apply hB | apply Below.drew | apply pw_below_drewN | (apply Below.setCell; rotate_left; (dsimp only; omega)) | (apply Below.alloc; rotate_left; (first | omega | (simp only [Hand.sa, Hand.ss, Hand.sd, Hand.sn]; omega))))) (Nat.le_refl _)
  clear HG hB g_A g_R zw z_A z1_A z2_A y0_A y1_A c_A_0 f_A_0 c_A_1 f_A_1 c_A_2 f_A_2 z_R z1_R z2_R y0_R y1_R c_R_0 f_R_0 c_R_1 f_R_1
  clear hb3
  have g_A := h_A
  have g_R := h_R
  have hB := hB'
  clear hB' h_A h_R
  obtain ⟨z_A, z1_A, z2_A, y0_A, y1_A⟩ := Hand.hz g_A
  obtain ⟨c_A_0, f_A_0, c_A_1, f_A_1, c_A_2, f_A_2⟩ := Hand.hc3 g_A
  obtain ⟨z_R, z1_R, z2_R, y0_R, y1_R⟩ := Hand.hz g_R
  obtain ⟨c_R_0, f_R_0, c_R_1, f_R_1⟩ := Hand.hc2 g_R
  have zw : w.heap.size ≤ w3.heap.size := hB.size
  have HG := Lib.hid (And.intro g_A (And.intro g_R (hB)))
  clear g_A g_R hB
  go_wp2
  obtain ⟨g_A, g_R, hB⟩ := HG.out
  refine bodyPost_ret (results_ct rfl _ _ (w.heap.size + 1) 26 #[.int .i64 x, .int .i64 y] (0, 0) _ rfl ?_ Tryd.underlying26 rfl (by kernel_rfl)) rfl ⟨rfl, ?_⟩
  · simp (disch := omega) only [Hand.q1, g_R]; rfl
  · exact (hB.setCell (by dsimp only; omega) _).setCell (by dsimp only; omega) _
end Go.Proofs.YtghiibdhibcbaaaDoor.PA
