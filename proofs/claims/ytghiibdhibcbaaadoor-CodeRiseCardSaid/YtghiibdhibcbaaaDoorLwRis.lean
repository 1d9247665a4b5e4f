/- CodeRise: labels rise with the frames. -/
import Derived.Test.YtghiibdhibcbaaaDoorKn5
import Derived.Test.YtghiibdhibcbaaaDoorCodF
import Derived.Test.YtghiibdhibcbaaaDoorRfA
import Derived.OpenShut
namespace Go.Proofs.YtghiibdhibcbaaaDoor.PA
open Go Go.RowKit Go.Proofs.YtghiibdhibcbaaaDoorW.PrintWords Go.Proofs.YtghiibdhibcbaaaDoorW.PrintLast Go.Proofs.YtghiibdhibcbaaaDoorW.PrintMore Go.Proofs.YtghiibdhibcbaaaDoor.CS
attribute [local go_sem high] eqA26
set_option linter.unusedSimpArgs false
set_option linter.unusedVariables false
set_option maxHeartbeats 800000 in
set_option maxRecDepth 100000 in
theorem rise_no (n d p q c : Int) (dr : Bool) (hc : (c == 0) = false) (w : World) (ht : TabN w)
    (m0 : ∀ w, TabN w → Calls Tryd.prog 16 #[] w fun e w' => e = .returned (.bool true) ∧ Below w.heap.size w w')
    (m1 : ∀ w, Calls Tryd.prog 25 #[rate n d dr] w fun e w' => e = .returned (.int .i64 c) ∧ Below w.heap.size w w') :
    Calls Tryd.prog 7 #[rate n d dr, .int .i64 p, .int .i64 q] w fun e w' => e = .returned (.bool true) ∧ Below w.heap.size w w' := by
  have HT0 := Lib.hid ht
  have M0 := Lib.hid m0
  have M1 := Lib.hid m1
  clear m0 m1 ht
  go_enter Tryd.func7, Tryd.ntmps7
  go_wp2_with fail
  with_reducible refine (M0.out _ (tab_below HT0.out (bw (Below.refl _ _)))).mono ?_
  rintro e w1 ⟨rfl, hb1⟩
  have h_A : w1.heap[w.heap.size]? = some (.cells #[.int .i64 n, .int .i64 d, .bool dr] 24 (0, 0)) := by
    refine Hand.kb hb1 ?_; simp (disch := first | omega | (simp only [Hand.sa, Hand.ss, Hand.sd, Hand.sn]; first | done | omega)) only [Hand.q2, Hand.q1, Hand.q5, Hand.q6, Hand.q4, Hand.q3] <;> rfl
  have hB' : Below w.heap.size w w1 := Hand.stepB hb1 (by repeat (with_reducible first | apply Below.refl _ _ | apply Below.drew | apply pw_below_drewN | (apply Below.setCell; rotate_left; (dsimp only; omega)) | (apply Below.alloc; rotate_left; (first | omega | (simp only [Hand.sa, Hand.ss, Hand.sd, Hand.sn]; omega))))) (Nat.le_refl _)
  clear hb1
  have g_A := h_A
  have hB := hB'
  clear hB' h_A
  obtain ⟨z_A, z1_A, z2_A, y0_A, y1_A⟩ := Hand.hz g_A
  obtain ⟨c_A_0, f_A_0, c_A_1, f_A_1, c_A_2, f_A_2⟩ := Hand.hc3 g_A
  have zw : w.heap.size ≤ w1.heap.size := hB.size
  have HG := Lib.hid (And.intro g_A (hB))
  clear g_A hB
  go_wp2_with fail
  with_reducible refine (M1.out _).mono ?_
  rintro e w2 ⟨rfl, hb2⟩
  obtain ⟨g_A, hB⟩ := HG.out
  have h_A : w2.heap[w.heap.size]? = some (.cells #[.int .i64 n, .int .i64 d, .bool dr] 24 (0, 0)) := by
    refine Hand.kb hb2 ?_; first | with_reducible exact g_A | (simp (disch := first | omega | (simp only [Hand.sa, Hand.ss, Hand.sd, Hand.sn]; first | done | omega)) only [Hand.q2, Hand.q1, Hand.q5, Hand.q6, Hand.q4, Hand.q3, g_A] <;> rfl)
  have hB' : Below w.heap.size w w2 := Hand.stepB hb2 (by repeat (with_reducible first | apply hB | apply Below.drew | apply pw_below_drewN | (apply Below.setCell; rotate_left; (dsimp only; omega)) | (apply Below.alloc; rotate_left; (first | omega | (simp only [Hand.sa, Hand.ss, Hand.sd, Hand.sn]; omega))))) (Nat.le_refl _)
  clear HG hB g_A zw z_A z1_A z2_A y0_A y1_A c_A_0 f_A_0 c_A_1 f_A_1 c_A_2 f_A_2
  clear hb2
  have g_A := h_A
  have hB := hB'
  clear hB' h_A
  obtain ⟨z_A, z1_A, z2_A, y0_A, y1_A⟩ := Hand.hz g_A
  obtain ⟨c_A_0, f_A_0, c_A_1, f_A_1, c_A_2, f_A_2⟩ := Hand.hc3 g_A
  have zw : w.heap.size ≤ w2.heap.size := hB.size
  have HG := Lib.hid (And.intro g_A (hB))
  clear g_A hB
  go_wp2
  go_ret
  obtain ⟨g_A, hB⟩ := HG.out
  exact ⟨by first | rfl | (simp; done) | (simp; decide) | (simp; rfl) | (simp [Lib.toList_data]; done), by first | exact hB | exact bw hB⟩
set_option maxHeartbeats 800000 in
set_option maxRecDepth 100000 in
theorem rise_e (n d p q c f : Int) (dr : Bool) (S1 S2 : ByteArray) (he : (c == 0) = false) (w : World) (ht : TabN w)
    (m0 : ∀ w, TabN w → Calls Tryd.prog 16 #[] w fun e w' => e = .returned (.bool true) ∧ Below w.heap.size w w')
    (m1 : ∀ w, Calls Tryd.prog 25 #[rate n d dr] w fun e w' => e = .returned (.int .i64 0) ∧ Below w.heap.size w w')
    (m2 : ∀ w, TabN w → Calls Tryd.prog 18 #[rate n d dr, .int .i64 p] w fun e w' => e = .returned (.tuple #[.string S1, .int .i64 c]) ∧ Below w.heap.size w w')
    (m3 : ∀ w, TabN w → Calls Tryd.prog 18 #[rate n d dr, .int .i64 q] w fun e w' => e = .returned (.tuple #[.string S2, .int .i64 f]) ∧ Below w.heap.size w w') :
    Calls Tryd.prog 7 #[rate n d dr, .int .i64 p, .int .i64 q] w fun e w' => e = .returned (.bool true) ∧ Below w.heap.size w w' := by
  have he2 : (c != 0) = true := by simpa using he
  have HT0 := Lib.hid ht
  have M0 := Lib.hid m0
  have M1 := Lib.hid m1
  have M2 := Lib.hid m2
  have M3 := Lib.hid m3
  clear m0 m1 m2 m3 ht
  go_enter Tryd.func7, Tryd.ntmps7
  go_wp2_with fail
  with_reducible refine (M0.out _ (tab_below HT0.out (bw (Below.refl _ _)))).mono ?_
  rintro e w1 ⟨rfl, hb1⟩
  have h_A : w1.heap[w.heap.size]? = some (.cells #[.int .i64 n, .int .i64 d, .bool dr] 24 (0, 0)) := by
    refine Hand.kb hb1 ?_; simp (disch := first | omega | (simp only [Hand.sa, Hand.ss, Hand.sd, Hand.sn]; first | done | omega)) only [Hand.q2, Hand.q1, Hand.q5, Hand.q6, Hand.q4, Hand.q3] <;> rfl
  have hB' : Below w.heap.size w w1 := Hand.stepB hb1 (by repeat (with_reducible first | apply Below.refl _ _ | apply Below.drew | apply pw_below_drewN | (apply Below.setCell; rotate_left; (dsimp only; omega)) | (apply Below.alloc; rotate_left; (first | omega | (simp only [Hand.sa, Hand.ss, Hand.sd, Hand.sn]; omega))))) (Nat.le_refl _)
  clear hb1
  have g_A := h_A
  have hB := hB'
  clear hB' h_A
  obtain ⟨z_A, z1_A, z2_A, y0_A, y1_A⟩ := Hand.hz g_A
  obtain ⟨c_A_0, f_A_0, c_A_1, f_A_1, c_A_2, f_A_2⟩ := Hand.hc3 g_A
  have zw : w.heap.size ≤ w1.heap.size := hB.size
  have HG := Lib.hid (And.intro g_A (hB))
  clear g_A hB
  go_wp2_with fail
  with_reducible refine (M1.out _).mono ?_
  rintro e w2 ⟨rfl, hb2⟩
  obtain ⟨g_A, hB⟩ := HG.out
  have h_A : w2.heap[w.heap.size]? = some (.cells #[.int .i64 n, .int .i64 d, .bool dr] 24 (0, 0)) := by
    refine Hand.kb hb2 ?_; first | with_reducible exact g_A | (simp (disch := first | omega | (simp only [Hand.sa, Hand.ss, Hand.sd, Hand.sn]; first | done | omega)) only [Hand.q2, Hand.q1, Hand.q5, Hand.q6, Hand.q4, Hand.q3, g_A] <;> rfl)
  have hB' : Below w.heap.size w w2 := Hand.stepB hb2 (by repeat (with_reducible first | apply hB | apply Below.drew | apply pw_below_drewN | (apply Below.setCell; rotate_left; (dsimp only; omega)) | (apply Below.alloc; rotate_left; (first | omega | (simp only [Hand.sa, Hand.ss, Hand.sd, Hand.sn]; omega))))) (Nat.le_refl _)
  clear HG hB g_A zw z_A z1_A z2_A y0_A y1_A c_A_0 f_A_0 c_A_1 f_A_1 c_A_2 f_A_2
  clear hb2
  have g_A := h_A
  have hB := hB'
  clear hB' h_A
  obtain ⟨z_A, z1_A, z2_A, y0_A, y1_A⟩ := Hand.hz g_A
  obtain ⟨c_A_0, f_A_0, c_A_1, f_A_1, c_A_2, f_A_2⟩ := Hand.hc3 g_A
  have zw : w.heap.size ≤ w2.heap.size := hB.size
  have HG := Lib.hid (And.intro g_A (hB))
  clear g_A hB
  go_wp2_with fail
  with_reducible refine (M2.out _ (tab_below HT0.out (bw HG.out.2))).mono ?_
  rintro e w3 ⟨rfl, hb3⟩
  obtain ⟨g_A, hB⟩ := HG.out
  have h_A : w3.heap[w.heap.size]? = some (.cells #[.int .i64 n, .int .i64 d, .bool dr] 24 (0, 0)) := by
    refine Hand.kb hb3 ?_; first | with_reducible exact g_A | (simp (disch := first | omega | (simp only [Hand.sa, Hand.ss, Hand.sd, Hand.sn]; first | done | omega)) only [Hand.q2, Hand.q1, Hand.q5, Hand.q6, Hand.q4, Hand.q3, g_A] <;> rfl)
  have hB' : Below w.heap.size w w3 := Hand.stepB hb3 (by repeat (with_reducible first | apply hB | apply Below.drew | apply pw_below_drewN | (apply Below.setCell; rotate_left; (dsimp only; omega)) | (apply Below.alloc; rotate_left; (first | omega | (simp only [Hand.sa, Hand.ss, Hand.sd, Hand.sn]; omega))))) (Nat.le_refl _)
  clear HG hB g_A zw z_A z1_A z2_A y0_A y1_A c_A_0 f_A_0 c_A_1 f_A_1 c_A_2 f_A_2
  clear hb3
  have g_A := h_A
  have hB := hB'
  clear hB' h_A
  obtain ⟨z_A, z1_A, z2_A, y0_A, y1_A⟩ := Hand.hz g_A
  obtain ⟨c_A_0, f_A_0, c_A_1, f_A_1, c_A_2, f_A_2⟩ := Hand.hc3 g_A
  have zw : w.heap.size ≤ w3.heap.size := hB.size
  have HG := Lib.hid (And.intro g_A (hB))
  clear g_A hB
  go_wp2_with fail
  with_reducible refine (M3.out _ (tab_below HT0.out (bw HG.out.2))).mono ?_
  rintro e w4 ⟨rfl, hb4⟩
  obtain ⟨g_A, hB⟩ := HG.out
  have h_A : w4.heap[w.heap.size]? = some (.cells #[.int .i64 n, .int .i64 d, .bool dr] 24 (0, 0)) := by
    refine Hand.kb hb4 ?_; first | with_reducible exact g_A | (simp (disch := first | omega | (simp only [Hand.sa, Hand.ss, Hand.sd, Hand.sn]; first | done | omega)) only [Hand.q2, Hand.q1, Hand.q5, Hand.q6, Hand.q4, Hand.q3, g_A] <;> rfl)
  have hB' : Below w.heap.size w w4 := Hand.stepB hb4 (by repeat (with_reducible first | apply hB | apply Below.drew | apply pw_below_drewN | (apply Below.setCell; rotate_left; (dsimp only; omega)) | (apply Below.alloc; rotate_left; (first | omega | (simp only [Hand.sa, Hand.ss, Hand.sd, Hand.sn]; omega))))) (Nat.le_refl _)
  clear HG hB g_A zw z_A z1_A z2_A y0_A y1_A c_A_0 f_A_0 c_A_1 f_A_1 c_A_2 f_A_2
  clear hb4
  have g_A := h_A
  have hB := hB'
  clear hB' h_A
  obtain ⟨z_A, z1_A, z2_A, y0_A, y1_A⟩ := Hand.hz g_A
  obtain ⟨c_A_0, f_A_0, c_A_1, f_A_1, c_A_2, f_A_2⟩ := Hand.hc3 g_A
  have zw : w.heap.size ≤ w4.heap.size := hB.size
  have HG := Lib.hid (And.intro g_A (hB))
  clear g_A hB
  go_wp2
  go_ret
  obtain ⟨g_A, hB⟩ := HG.out
  exact ⟨by first | rfl | (simp; done) | (simp; decide) | (simp; exact hd) | (simp [Lib.toList_data]; exact hd) | (simp; rfl) | (simp [Lib.toList_data]; done), by first | exact hB | exact bw hB⟩
set_option maxHeartbeats 800000 in
set_option maxRecDepth 100000 in
theorem rise_f (n d p q c f : Int) (dr : Bool) (S1 S2 : ByteArray) (he : (f == 0) = false) (w : World) (ht : TabN w)
    (m0 : ∀ w, TabN w → Calls Tryd.prog 16 #[] w fun e w' => e = .returned (.bool true) ∧ Below w.heap.size w w')
    (m1 : ∀ w, Calls Tryd.prog 25 #[rate n d dr] w fun e w' => e = .returned (.int .i64 0) ∧ Below w.heap.size w w')
    (m2 : ∀ w, TabN w → Calls Tryd.prog 18 #[rate n d dr, .int .i64 p] w fun e w' => e = .returned (.tuple #[.string S1, .int .i64 0]) ∧ Below w.heap.size w w')
    (m3 : ∀ w, TabN w → Calls Tryd.prog 18 #[rate n d dr, .int .i64 q] w fun e w' => e = .returned (.tuple #[.string S2, .int .i64 f]) ∧ Below w.heap.size w w') :
    Calls Tryd.prog 7 #[rate n d dr, .int .i64 p, .int .i64 q] w fun e w' => e = .returned (.bool true) ∧ Below w.heap.size w w' := by
  have he2 : (f != 0) = true := by simpa using he
  have HT0 := Lib.hid ht
  have M0 := Lib.hid m0
  have M1 := Lib.hid m1
  have M2 := Lib.hid m2
  have M3 := Lib.hid m3
  clear m0 m1 m2 m3 ht
  go_enter Tryd.func7, Tryd.ntmps7
  go_wp2_with fail
  with_reducible refine (M0.out _ (tab_below HT0.out (bw (Below.refl _ _)))).mono ?_
  rintro e w1 ⟨rfl, hb1⟩
  have h_A : w1.heap[w.heap.size]? = some (.cells #[.int .i64 n, .int .i64 d, .bool dr] 24 (0, 0)) := by
    refine Hand.kb hb1 ?_; simp (disch := first | omega | (simp only [Hand.sa, Hand.ss, Hand.sd, Hand.sn]; first | done | omega)) only [Hand.q2, Hand.q1, Hand.q5, Hand.q6, Hand.q4, Hand.q3] <;> rfl
  have hB' : Below w.heap.size w w1 := Hand.stepB hb1 (by repeat (with_reducible first | apply Below.refl _ _ | apply Below.drew | apply pw_below_drewN | (apply Below.setCell; rotate_left; (dsimp only; omega)) | (apply Below.alloc; rotate_left; (first | omega | (simp only [Hand.sa, Hand.ss, Hand.sd, Hand.sn]; omega))))) (Nat.le_refl _)
  clear hb1
  have g_A := h_A
  have hB := hB'
  clear hB' h_A
  obtain ⟨z_A, z1_A, z2_A, y0_A, y1_A⟩ := Hand.hz g_A
  obtain ⟨c_A_0, f_A_0, c_A_1, f_A_1, c_A_2, f_A_2⟩ := Hand.hc3 g_A
  have zw : w.heap.size ≤ w1.heap.size := hB.size
  have HG := Lib.hid (And.intro g_A (hB))
  clear g_A hB
  go_wp2_with fail
  with_reducible refine (M1.out _).mono ?_
  rintro e w2 ⟨rfl, hb2⟩
  obtain ⟨g_A, hB⟩ := HG.out
  have h_A : w2.heap[w.heap.size]? = some (.cells #[.int .i64 n, .int .i64 d, .bool dr] 24 (0, 0)) := by
    refine Hand.kb hb2 ?_; first | with_reducible exact g_A | (simp (disch := first | omega | (simp only [Hand.sa, Hand.ss, Hand.sd, Hand.sn]; first | done | omega)) only [Hand.q2, Hand.q1, Hand.q5, Hand.q6, Hand.q4, Hand.q3, g_A] <;> rfl)
  have hB' : Below w.heap.size w w2 := Hand.stepB hb2 (by repeat (with_reducible first | apply hB | apply Below.drew | apply pw_below_drewN | (apply Below.setCell; rotate_left; (dsimp only; omega)) | (apply Below.alloc; rotate_left; (first | omega | (simp only [Hand.sa, Hand.ss, Hand.sd, Hand.sn]; omega))))) (Nat.le_refl _)
  clear HG hB g_A zw z_A z1_A z2_A y0_A y1_A c_A_0 f_A_0 c_A_1 f_A_1 c_A_2 f_A_2
  clear hb2
  have g_A := h_A
  have hB := hB'
  clear hB' h_A
  obtain ⟨z_A, z1_A, z2_A, y0_A, y1_A⟩ := Hand.hz g_A
  obtain ⟨c_A_0, f_A_0, c_A_1, f_A_1, c_A_2, f_A_2⟩ := Hand.hc3 g_A
  have zw : w.heap.size ≤ w2.heap.size := hB.size
  have HG := Lib.hid (And.intro g_A (hB))
  clear g_A hB
  go_wp2_with fail
  with_reducible refine (M2.out _ (tab_below HT0.out (bw HG.out.2))).mono ?_
  rintro e w3 ⟨rfl, hb3⟩
  obtain ⟨g_A, hB⟩ := HG.out
  have h_A : w3.heap[w.heap.size]? = some (.cells #[.int .i64 n, .int .i64 d, .bool dr] 24 (0, 0)) := by
    refine Hand.kb hb3 ?_; first | with_reducible exact g_A | (simp (disch := first | omega | (simp only [Hand.sa, Hand.ss, Hand.sd, Hand.sn]; first | done | omega)) only [Hand.q2, Hand.q1, Hand.q5, Hand.q6, Hand.q4, Hand.q3, g_A] <;> rfl)
  have hB' : Below w.heap.size w w3 := Hand.stepB hb3 (by repeat (with_reducible first | apply hB | apply Below.drew | apply pw_below_drewN | (apply Below.setCell; rotate_left; (dsimp only; omega)) | (apply Below.alloc; rotate_left; (first | omega | (simp only [Hand.sa, Hand.ss, Hand.sd, Hand.sn]; omega))))) (Nat.le_refl _)
  clear HG hB g_A zw z_A z1_A z2_A y0_A y1_A c_A_0 f_A_0 c_A_1 f_A_1 c_A_2 f_A_2
  clear hb3
  have g_A := h_A
  have hB := hB'
  clear hB' h_A
  obtain ⟨z_A, z1_A, z2_A, y0_A, y1_A⟩ := Hand.hz g_A
  obtain ⟨c_A_0, f_A_0, c_A_1, f_A_1, c_A_2, f_A_2⟩ := Hand.hc3 g_A
  have zw : w.heap.size ≤ w3.heap.size := hB.size
  have HG := Lib.hid (And.intro g_A (hB))
  clear g_A hB
  go_wp2_with fail
  with_reducible refine (M3.out _ (tab_below HT0.out (bw HG.out.2))).mono ?_
  rintro e w4 ⟨rfl, hb4⟩
  obtain ⟨g_A, hB⟩ := HG.out
  have h_A : w4.heap[w.heap.size]? = some (.cells #[.int .i64 n, .int .i64 d, .bool dr] 24 (0, 0)) := by
    refine Hand.kb hb4 ?_; first | with_reducible exact g_A | (simp (disch := first | omega | (simp only [Hand.sa, Hand.ss, Hand.sd, Hand.sn]; first | done | omega)) only [Hand.q2, Hand.q1, Hand.q5, Hand.q6, Hand.q4, Hand.q3, g_A] <;> rfl)
  have hB' : Below w.heap.size w w4 := Hand.stepB hb4 (by repeat (with_reducible first | apply hB | apply Below.drew | apply pw_below_drewN | (apply Below.setCell; rotate_left; (dsimp only; omega)) | (apply Below.alloc; rotate_left; (first | omega | (simp only [Hand.sa, Hand.ss, Hand.sd, Hand.sn]; omega))))) (Nat.le_refl _)
  clear HG hB g_A zw z_A z1_A z2_A y0_A y1_A c_A_0 f_A_0 c_A_1 f_A_1 c_A_2 f_A_2
  clear hb4
  have g_A := h_A
  have hB := hB'
  clear hB' h_A
  obtain ⟨z_A, z1_A, z2_A, y0_A, y1_A⟩ := Hand.hz g_A
  obtain ⟨c_A_0, f_A_0, c_A_1, f_A_1, c_A_2, f_A_2⟩ := Hand.hc3 g_A
  have zw : w.heap.size ≤ w4.heap.size := hB.size
  have HG := Lib.hid (And.intro g_A (hB))
  clear g_A hB
  go_wp2
  go_ret
  obtain ⟨g_A, hB⟩ := HG.out
  exact ⟨by first | rfl | (simp; done) | (simp; decide) | (simp; exact hd) | (simp [Lib.toList_data]; exact hd) | (simp; rfl) | (simp [Lib.toList_data]; done), by first | exact hB | exact bw hB⟩
set_option maxHeartbeats 800000 in
set_option maxRecDepth 100000 in
theorem rise_eq (n d p c f : Int) (dr : Bool) (S1 : ByteArray) (w : World) (ht : TabN w)
    (m0 : ∀ w, TabN w → Calls Tryd.prog 16 #[] w fun e w' => e = .returned (.bool true) ∧ Below w.heap.size w w')
    (m1 : ∀ w, Calls Tryd.prog 25 #[rate n d dr] w fun e w' => e = .returned (.int .i64 0) ∧ Below w.heap.size w w')
    (m2 : ∀ w, TabN w → Calls Tryd.prog 18 #[rate n d dr, .int .i64 p] w fun e w' => e = .returned (.tuple #[.string S1, .int .i64 0]) ∧ Below w.heap.size w w')
    (m3 : ∀ w, TabN w → Calls Tryd.prog 18 #[rate n d dr, .int .i64 p] w fun e w' => e = .returned (.tuple #[.string S1, .int .i64 0]) ∧ Below w.heap.size w w') :
    Calls Tryd.prog 7 #[rate n d dr, .int .i64 p, .int .i64 p] w fun e w' => e = .returned (.bool true) ∧ Below w.heap.size w w' := by
  have HT0 := Lib.hid ht
  have M0 := Lib.hid m0
  have M1 := Lib.hid m1
  have M2 := Lib.hid m2
  have M3 := Lib.hid m3
  clear m0 m1 m2 m3 ht
  go_enter Tryd.func7, Tryd.ntmps7
  go_wp2_with fail
  with_reducible refine (M0.out _ (tab_below HT0.out (bw (Below.refl _ _)))).mono ?_
  rintro e w1 ⟨rfl, hb1⟩
  have h_A : w1.heap[w.heap.size]? = some (.cells #[.int .i64 n, .int .i64 d, .bool dr] 24 (0, 0)) := by
    refine Hand.kb hb1 ?_; simp (disch := first | omega | (simp only [Hand.sa, Hand.ss, Hand.sd, Hand.sn]; first | done | omega)) only [Hand.q2, Hand.q1, Hand.q5, Hand.q6, Hand.q4, Hand.q3] <;> rfl
  have hB' : Below w.heap.size w w1 := Hand.stepB hb1 (by repeat (with_reducible first | apply Below.refl _ _ | apply Below.drew | apply pw_below_drewN | (apply Below.setCell; rotate_left; (dsimp only; omega)) | (apply Below.alloc; rotate_left; (first | omega | (simp only [Hand.sa, Hand.ss, Hand.sd, Hand.sn]; omega))))) (Nat.le_refl _)
  clear hb1
  have g_A := h_A
  have hB := hB'
  clear hB' h_A
  obtain ⟨z_A, z1_A, z2_A, y0_A, y1_A⟩ := Hand.hz g_A
  obtain ⟨c_A_0, f_A_0, c_A_1, f_A_1, c_A_2, f_A_2⟩ := Hand.hc3 g_A
  have zw : w.heap.size ≤ w1.heap.size := hB.size
  have HG := Lib.hid (And.intro g_A (hB))
  clear g_A hB
  go_wp2_with fail
  with_reducible refine (M1.out _).mono ?_
  rintro e w2 ⟨rfl, hb2⟩
  obtain ⟨g_A, hB⟩ := HG.out
  have h_A : w2.heap[w.heap.size]? = some (.cells #[.int .i64 n, .int .i64 d, .bool dr] 24 (0, 0)) := by
    refine Hand.kb hb2 ?_; first | with_reducible exact g_A | (simp (disch := first | omega | (simp only [Hand.sa, Hand.ss, Hand.sd, Hand.sn]; first | done | omega)) only [Hand.q2, Hand.q1, Hand.q5, Hand.q6, Hand.q4, Hand.q3, g_A] <;> rfl)
  have hB' : Below w.heap.size w w2 := Hand.stepB hb2 (by repeat (with_reducible first | apply hB | apply Below.drew | apply pw_below_drewN | (apply Below.setCell; rotate_left; (dsimp only; omega)) | (apply Below.alloc; rotate_left; (first | omega | (simp only [Hand.sa, Hand.ss, Hand.sd, Hand.sn]; omega))))) (Nat.le_refl _)
  clear HG hB g_A zw z_A z1_A z2_A y0_A y1_A c_A_0 f_A_0 c_A_1 f_A_1 c_A_2 f_A_2
  clear hb2
  have g_A := h_A
  have hB := hB'
  clear hB' h_A
  obtain ⟨z_A, z1_A, z2_A, y0_A, y1_A⟩ := Hand.hz g_A
  obtain ⟨c_A_0, f_A_0, c_A_1, f_A_1, c_A_2, f_A_2⟩ := Hand.hc3 g_A
  have zw : w.heap.size ≤ w2.heap.size := hB.size
  have HG := Lib.hid (And.intro g_A (hB))
  clear g_A hB
  go_wp2_with fail
  with_reducible refine (M2.out _ (tab_below HT0.out (bw HG.out.2))).mono ?_
  rintro e w3 ⟨rfl, hb3⟩
  obtain ⟨g_A, hB⟩ := HG.out
  have h_A : w3.heap[w.heap.size]? = some (.cells #[.int .i64 n, .int .i64 d, .bool dr] 24 (0, 0)) := by
    refine Hand.kb hb3 ?_; first | with_reducible exact g_A | (simp (disch := first | omega | (simp only [Hand.sa, Hand.ss, Hand.sd, Hand.sn]; first | done | omega)) only [Hand.q2, Hand.q1, Hand.q5, Hand.q6, Hand.q4, Hand.q3, g_A] <;> rfl)
  have hB' : Below w.heap.size w w3 := Hand.stepB hb3 (by repeat (with_reducible first | apply hB | apply Below.drew | apply pw_below_drewN | (apply Below.setCell; rotate_left; (dsimp only; omega)) | (apply Below.alloc; rotate_left; (first | omega | (simp only [Hand.sa, Hand.ss, Hand.sd, Hand.sn]; omega))))) (Nat.le_refl _)
  clear HG hB g_A zw z_A z1_A z2_A y0_A y1_A c_A_0 f_A_0 c_A_1 f_A_1 c_A_2 f_A_2
  clear hb3
  have g_A := h_A
  have hB := hB'
  clear hB' h_A
  obtain ⟨z_A, z1_A, z2_A, y0_A, y1_A⟩ := Hand.hz g_A
  obtain ⟨c_A_0, f_A_0, c_A_1, f_A_1, c_A_2, f_A_2⟩ := Hand.hc3 g_A
  have zw : w.heap.size ≤ w3.heap.size := hB.size
  have HG := Lib.hid (And.intro g_A (hB))
  clear g_A hB
  go_wp2_with fail
  with_reducible refine (M3.out _ (tab_below HT0.out (bw HG.out.2))).mono ?_
  rintro e w4 ⟨rfl, hb4⟩
  obtain ⟨g_A, hB⟩ := HG.out
  have h_A : w4.heap[w.heap.size]? = some (.cells #[.int .i64 n, .int .i64 d, .bool dr] 24 (0, 0)) := by
    refine Hand.kb hb4 ?_; first | with_reducible exact g_A | (simp (disch := first | omega | (simp only [Hand.sa, Hand.ss, Hand.sd, Hand.sn]; first | done | omega)) only [Hand.q2, Hand.q1, Hand.q5, Hand.q6, Hand.q4, Hand.q3, g_A] <;> rfl)
  have hB' : Below w.heap.size w w4 := Hand.stepB hb4 (by repeat (with_reducible first | apply hB | apply Below.drew | apply pw_below_drewN | (apply Below.setCell; rotate_left; (dsimp only; omega)) | (apply Below.alloc; rotate_left; (first | omega | (simp only [Hand.sa, Hand.ss, Hand.sd, Hand.sn]; omega))))) (Nat.le_refl _)
  clear HG hB g_A zw z_A z1_A z2_A y0_A y1_A c_A_0 f_A_0 c_A_1 f_A_1 c_A_2 f_A_2
  clear hb4
  have g_A := h_A
  have hB := hB'
  clear hB' h_A
  obtain ⟨z_A, z1_A, z2_A, y0_A, y1_A⟩ := Hand.hz g_A
  obtain ⟨c_A_0, f_A_0, c_A_1, f_A_1, c_A_2, f_A_2⟩ := Hand.hc3 g_A
  have zw : w.heap.size ≤ w4.heap.size := hB.size
  have HG := Lib.hid (And.intro g_A (hB))
  clear g_A hB
  go_wp2
  go_ret
  obtain ⟨g_A, hB⟩ := HG.out
  exact ⟨by first | rfl | (simp; done) | (simp; decide) | (simp; exact hd) | (simp [Lib.toList_data]; exact hd) | (simp; rfl) | (simp [Lib.toList_data]; done), by first | exact hB | exact bw hB⟩
set_option maxHeartbeats 800000 in
set_option maxRecDepth 100000 in
theorem rise_len_lt (n d p q c f : Int) (dr : Bool) (S1 S2 : ByteArray) (hne : (p == q) = false) (hpq : p < q) (hs : S1.size < S2.size) (w : World) (ht : TabN w)
    (m0 : ∀ w, TabN w → Calls Tryd.prog 16 #[] w fun e w' => e = .returned (.bool true) ∧ Below w.heap.size w w')
    (m1 : ∀ w, Calls Tryd.prog 25 #[rate n d dr] w fun e w' => e = .returned (.int .i64 0) ∧ Below w.heap.size w w')
    (m2 : ∀ w, TabN w → Calls Tryd.prog 18 #[rate n d dr, .int .i64 p] w fun e w' => e = .returned (.tuple #[.string S1, .int .i64 0]) ∧ Below w.heap.size w w')
    (m3 : ∀ w, TabN w → Calls Tryd.prog 18 #[rate n d dr, .int .i64 q] w fun e w' => e = .returned (.tuple #[.string S2, .int .i64 0]) ∧ Below w.heap.size w w') :
    Calls Tryd.prog 7 #[rate n d dr, .int .i64 p, .int .i64 q] w fun e w' => e = .returned (.bool true) ∧ Below w.heap.size w w' := by
  have hne2 : ¬ p = q := by simpa using hne
  have hs2 : ¬ S1.size = S2.size := by omega
  have hs3 : (S1.size == S2.size) = false := by simpa using hs2
  have hs4 : ((S1.size : Int) == (S2.size : Int)) = false := by simp; omega
  have hs5 : ((S1.size : Int) < (S2.size : Int)) = True := eq_true (by omega)
  have hs6 : (p < q) = True := eq_true hpq
  have HT0 := Lib.hid ht
  have M0 := Lib.hid m0
  have M1 := Lib.hid m1
  have M2 := Lib.hid m2
  have M3 := Lib.hid m3
  clear m0 m1 m2 m3 ht
  go_enter Tryd.func7, Tryd.ntmps7
  go_wp2_with fail
  with_reducible refine (M0.out _ (tab_below HT0.out (bw (Below.refl _ _)))).mono ?_
  rintro e w1 ⟨rfl, hb1⟩
  have h_A : w1.heap[w.heap.size]? = some (.cells #[.int .i64 n, .int .i64 d, .bool dr] 24 (0, 0)) := by
    refine Hand.kb hb1 ?_; simp (disch := first | omega | (simp only [Hand.sa, Hand.ss, Hand.sd, Hand.sn]; first | done | omega)) only [Hand.q2, Hand.q1, Hand.q5, Hand.q6, Hand.q4, Hand.q3] <;> rfl
  have hB' : Below w.heap.size w w1 := Hand.stepB hb1 (by repeat (with_reducible first | apply Below.refl _ _ | apply Below.drew | apply pw_below_drewN | (apply Below.setCell; rotate_left; (dsimp only; omega)) | (apply Below.alloc; rotate_left; (first | omega | (simp only [Hand.sa, Hand.ss, Hand.sd, Hand.sn]; omega))))) (Nat.le_refl _)
  clear hb1
  have g_A := h_A
  have hB := hB'
  clear hB' h_A
  obtain ⟨z_A, z1_A, z2_A, y0_A, y1_A⟩ := Hand.hz g_A
  obtain ⟨c_A_0, f_A_0, c_A_1, f_A_1, c_A_2, f_A_2⟩ := Hand.hc3 g_A
  have zw : w.heap.size ≤ w1.heap.size := hB.size
  have HG := Lib.hid (And.intro g_A (hB))
  clear g_A hB
  go_wp2_with fail
  with_reducible refine (M1.out _).mono ?_
  rintro e w2 ⟨rfl, hb2⟩
  obtain ⟨g_A, hB⟩ := HG.out
  have h_A : w2.heap[w.heap.size]? = some (.cells #[.int .i64 n, .int .i64 d, .bool dr] 24 (0, 0)) := by
    refine Hand.kb hb2 ?_; first | with_reducible exact g_A | (simp (disch := first | omega | (simp only [Hand.sa, Hand.ss, Hand.sd, Hand.sn]; first | done | omega)) only [Hand.q2, Hand.q1, Hand.q5, Hand.q6, Hand.q4, Hand.q3, g_A] <;> rfl)
  have hB' : Below w.heap.size w w2 := Hand.stepB hb2 (by repeat (with_reducible first | apply hB | apply Below.drew | apply pw_below_drewN | (apply Below.setCell; rotate_left; (dsimp only; omega)) | (apply Below.alloc; rotate_left; (first | omega | (simp only [Hand.sa, Hand.ss, Hand.sd, Hand.sn]; omega))))) (Nat.le_refl _)
  clear HG hB g_A zw z_A z1_A z2_A y0_A y1_A c_A_0 f_A_0 c_A_1 f_A_1 c_A_2 f_A_2
  clear hb2
  have g_A := h_A
  have hB := hB'
  clear hB' h_A
  obtain ⟨z_A, z1_A, z2_A, y0_A, y1_A⟩ := Hand.hz g_A
  obtain ⟨c_A_0, f_A_0, c_A_1, f_A_1, c_A_2, f_A_2⟩ := Hand.hc3 g_A
  have zw : w.heap.size ≤ w2.heap.size := hB.size
  have HG := Lib.hid (And.intro g_A (hB))
  clear g_A hB
  go_wp2_with fail
  with_reducible refine (M2.out _ (tab_below HT0.out (bw HG.out.2))).mono ?_
  rintro e w3 ⟨rfl, hb3⟩
  obtain ⟨g_A, hB⟩ := HG.out
  have h_A : w3.heap[w.heap.size]? = some (.cells #[.int .i64 n, .int .i64 d, .bool dr] 24 (0, 0)) := by
    refine Hand.kb hb3 ?_; first | with_reducible exact g_A | (simp (disch := first | omega | (simp only [Hand.sa, Hand.ss, Hand.sd, Hand.sn]; first | done | omega)) only [Hand.q2, Hand.q1, Hand.q5, Hand.q6, Hand.q4, Hand.q3, g_A] <;> rfl)
  have hB' : Below w.heap.size w w3 := Hand.stepB hb3 (by repeat (with_reducible first | apply hB | apply Below.drew | apply pw_below_drewN | (apply Below.setCell; rotate_left; (dsimp only; omega)) | (apply Below.alloc; rotate_left; (first | omega | (simp only [Hand.sa, Hand.ss, Hand.sd, Hand.sn]; omega))))) (Nat.le_refl _)
  clear HG hB g_A zw z_A z1_A z2_A y0_A y1_A c_A_0 f_A_0 c_A_1 f_A_1 c_A_2 f_A_2
  clear hb3
  have g_A := h_A
  have hB := hB'
  clear hB' h_A
  obtain ⟨z_A, z1_A, z2_A, y0_A, y1_A⟩ := Hand.hz g_A
  obtain ⟨c_A_0, f_A_0, c_A_1, f_A_1, c_A_2, f_A_2⟩ := Hand.hc3 g_A
  have zw : w.heap.size ≤ w3.heap.size := hB.size
  have HG := Lib.hid (And.intro g_A (hB))
  clear g_A hB
  go_wp2_with fail
  with_reducible refine (M3.out _ (tab_below HT0.out (bw HG.out.2))).mono ?_
  rintro e w4 ⟨rfl, hb4⟩
  obtain ⟨g_A, hB⟩ := HG.out
  have h_A : w4.heap[w.heap.size]? = some (.cells #[.int .i64 n, .int .i64 d, .bool dr] 24 (0, 0)) := by
    refine Hand.kb hb4 ?_; first | with_reducible exact g_A | (simp (disch := first | omega | (simp only [Hand.sa, Hand.ss, Hand.sd, Hand.sn]; first | done | omega)) only [Hand.q2, Hand.q1, Hand.q5, Hand.q6, Hand.q4, Hand.q3, g_A] <;> rfl)
  have hB' : Below w.heap.size w w4 := Hand.stepB hb4 (by repeat (with_reducible first | apply hB | apply Below.drew | apply pw_below_drewN | (apply Below.setCell; rotate_left; (dsimp only; omega)) | (apply Below.alloc; rotate_left; (first | omega | (simp only [Hand.sa, Hand.ss, Hand.sd, Hand.sn]; omega))))) (Nat.le_refl _)
  clear HG hB g_A zw z_A z1_A z2_A y0_A y1_A c_A_0 f_A_0 c_A_1 f_A_1 c_A_2 f_A_2
  clear hb4
  have g_A := h_A
  have hB := hB'
  clear hB' h_A
  obtain ⟨z_A, z1_A, z2_A, y0_A, y1_A⟩ := Hand.hz g_A
  obtain ⟨c_A_0, f_A_0, c_A_1, f_A_1, c_A_2, f_A_2⟩ := Hand.hc3 g_A
  have zw : w.heap.size ≤ w4.heap.size := hB.size
  have HG := Lib.hid (And.intro g_A (hB))
  clear g_A hB
  go_wp2
  go_ret
  obtain ⟨g_A, hB⟩ := HG.out
  exact ⟨by first | rfl | (simp; done) | (simp; decide) | (simp; exact hd) | (simp [Lib.toList_data]; exact hd) | (simp; rfl) | (simp [Lib.toList_data]; done), by first | exact hB | exact bw hB⟩
set_option maxHeartbeats 800000 in
set_option maxRecDepth 100000 in
theorem rise_len_gt (n d p q c f : Int) (dr : Bool) (S1 S2 : ByteArray) (hne : (p == q) = false) (hpq : q < p) (hs : S2.size < S1.size) (w : World) (ht : TabN w)
    (m0 : ∀ w, TabN w → Calls Tryd.prog 16 #[] w fun e w' => e = .returned (.bool true) ∧ Below w.heap.size w w')
    (m1 : ∀ w, Calls Tryd.prog 25 #[rate n d dr] w fun e w' => e = .returned (.int .i64 0) ∧ Below w.heap.size w w')
    (m2 : ∀ w, TabN w → Calls Tryd.prog 18 #[rate n d dr, .int .i64 p] w fun e w' => e = .returned (.tuple #[.string S1, .int .i64 0]) ∧ Below w.heap.size w w')
    (m3 : ∀ w, TabN w → Calls Tryd.prog 18 #[rate n d dr, .int .i64 q] w fun e w' => e = .returned (.tuple #[.string S2, .int .i64 0]) ∧ Below w.heap.size w w') :
    Calls Tryd.prog 7 #[rate n d dr, .int .i64 p, .int .i64 q] w fun e w' => e = .returned (.bool true) ∧ Below w.heap.size w w' := by
  have hne2 : ¬ p = q := by simpa using hne
  have hs2 : ¬ S1.size = S2.size := by omega
  have hs3 : (S1.size == S2.size) = false := by simpa using hs2
  have hs4 : ((S1.size : Int) == (S2.size : Int)) = false := by simp; omega
  have hs5 : ((S1.size : Int) < (S2.size : Int)) = False := eq_false (by omega)
  have hs6 : (p < q) = False := eq_false (by omega)
  have HT0 := Lib.hid ht
  have M0 := Lib.hid m0
  have M1 := Lib.hid m1
  have M2 := Lib.hid m2
  have M3 := Lib.hid m3
  clear m0 m1 m2 m3 ht
  go_enter Tryd.func7, Tryd.ntmps7
  go_wp2_with fail
  with_reducible refine (M0.out _ (tab_below HT0.out (bw (Below.refl _ _)))).mono ?_
  rintro e w1 ⟨rfl, hb1⟩
  have h_A : w1.heap[w.heap.size]? = some (.cells #[.int .i64 n, .int .i64 d, .bool dr] 24 (0, 0)) := by
    refine Hand.kb hb1 ?_; simp (disch := first | omega | (simp only [Hand.sa, Hand.ss, Hand.sd, Hand.sn]; first | done | omega)) only [Hand.q2, Hand.q1, Hand.q5, Hand.q6, Hand.q4, Hand.q3] <;> rfl
  have hB' : Below w.heap.size w w1 := Hand.stepB hb1 (by repeat (with_reducible first | apply Below.refl _ _ | apply Below.drew | apply pw_below_drewN | (apply Below.setCell; rotate_left; (dsimp only; omega)) | (apply Below.alloc; rotate_left; (first | omega | (simp only [Hand.sa, Hand.ss, Hand.sd, Hand.sn]; omega))))) (Nat.le_refl _)
  clear hb1
  have g_A := h_A
  have hB := hB'
  clear hB' h_A
  obtain ⟨z_A, z1_A, z2_A, y0_A, y1_A⟩ := Hand.hz g_A
  obtain ⟨c_A_0, f_A_0, c_A_1, f_A_1, c_A_2, f_A_2⟩ := Hand.hc3 g_A
  have zw : w.heap.size ≤ w1.heap.size := hB.size
  have HG := Lib.hid (And.intro g_A (hB))
  clear g_A hB
  go_wp2_with fail
  with_reducible refine (M1.out _).mono ?_
  rintro e w2 ⟨rfl, hb2⟩
  obtain ⟨g_A, hB⟩ := HG.out
  have h_A : w2.heap[w.heap.size]? = some (.cells #[.int .i64 n, .int .i64 d, .bool dr] 24 (0, 0)) := by
    refine Hand.kb hb2 ?_; first | with_reducible exact g_A | (simp (disch := first | omega | (simp only [Hand.sa, Hand.ss, Hand.sd, Hand.sn]; first | done | omega)) only [Hand.q2, Hand.q1, Hand.q5, Hand.q6, Hand.q4, Hand.q3, g_A] <;> rfl)
  have hB' : Below w.heap.size w w2 := Hand.stepB hb2 (by repeat (with_reducible first | apply hB | apply Below.drew | apply pw_below_drewN | (apply Below.setCell; rotate_left; (dsimp only; omega)) | (apply Below.alloc; rotate_left; (first | omega | (simp only [Hand.sa, Hand.ss, Hand.sd, Hand.sn]; omega))))) (Nat.le_refl _)
  clear HG hB g_A zw z_A z1_A z2_A y0_A y1_A c_A_0 f_A_0 c_A_1 f_A_1 c_A_2 f_A_2
  clear hb2
  have g_A := h_A
  have hB := hB'
  clear hB' h_A
  obtain ⟨z_A, z1_A, z2_A, y0_A, y1_A⟩ := Hand.hz g_A
  obtain ⟨c_A_0, f_A_0, c_A_1, f_A_1, c_A_2, f_A_2⟩ := Hand.hc3 g_A
  have zw : w.heap.size ≤ w2.heap.size := hB.size
  have HG := Lib.hid (And.intro g_A (hB))
  clear g_A hB
  go_wp2_with fail
  with_reducible refine (M2.out _ (tab_below HT0.out (bw HG.out.2))).mono ?_
  rintro e w3 ⟨rfl, hb3⟩
  obtain ⟨g_A, hB⟩ := HG.out
  have h_A : w3.heap[w.heap.size]? = some (.cells #[.int .i64 n, .int .i64 d, .bool dr] 24 (0, 0)) := by
    refine Hand.kb hb3 ?_; first | with_reducible exact g_A | (simp (disch := first | omega | (simp only [Hand.sa, Hand.ss, Hand.sd, Hand.sn]; first | done | omega)) only [Hand.q2, Hand.q1, Hand.q5, Hand.q6, Hand.q4, Hand.q3, g_A] <;> rfl)
  have hB' : Below w.heap.size w w3 := Hand.stepB hb3 (by repeat (with_reducible first | apply hB | apply Below.drew | apply pw_below_drewN | (apply Below.setCell; rotate_left; (dsimp only; omega)) | (apply Below.alloc; rotate_left; (first | omega | (simp only [Hand.sa, Hand.ss, Hand.sd, Hand.sn]; omega))))) (Nat.le_refl _)
  clear HG hB g_A zw z_A z1_A z2_A y0_A y1_A c_A_0 f_A_0 c_A_1 f_A_1 c_A_2 f_A_2
  clear hb3
  have g_A := h_A
  have hB := hB'
  clear hB' h_A
  obtain ⟨z_A, z1_A, z2_A, y0_A, y1_A⟩ := Hand.hz g_A
  obtain ⟨c_A_0, f_A_0, c_A_1, f_A_1, c_A_2, f_A_2⟩ := Hand.hc3 g_A
  have zw : w.heap.size ≤ w3.heap.size := hB.size
  have HG := Lib.hid (And.intro g_A (hB))
  clear g_A hB
  go_wp2_with fail
  with_reducible refine (M3.out _ (tab_below HT0.out (bw HG.out.2))).mono ?_
  rintro e w4 ⟨rfl, hb4⟩
  obtain ⟨g_A, hB⟩ := HG.out
  have h_A : w4.heap[w.heap.size]? = some (.cells #[.int .i64 n, .int .i64 d, .bool dr] 24 (0, 0)) := by
    refine Hand.kb hb4 ?_; first | with_reducible exact g_A | (simp (disch := first | omega | (simp only [Hand.sa, Hand.ss, Hand.sd, Hand.sn]; first | done | omega)) only [Hand.q2, Hand.q1, Hand.q5, Hand.q6, Hand.q4, Hand.q3, g_A] <;> rfl)
  have hB' : Below w.heap.size w w4 := Hand.stepB hb4 (by repeat (with_reducible first | apply hB | apply Below.drew | apply pw_below_drewN | (apply Below.setCell; rotate_left; (dsimp only; omega)) | (apply Below.alloc; rotate_left; (first | omega | (simp only [Hand.sa, Hand.ss, Hand.sd, Hand.sn]; omega))))) (Nat.le_refl _)
  clear HG hB g_A zw z_A z1_A z2_A y0_A y1_A c_A_0 f_A_0 c_A_1 f_A_1 c_A_2 f_A_2
  clear hb4
  have g_A := h_A
  have hB := hB'
  clear hB' h_A
  obtain ⟨z_A, z1_A, z2_A, y0_A, y1_A⟩ := Hand.hz g_A
  obtain ⟨c_A_0, f_A_0, c_A_1, f_A_1, c_A_2, f_A_2⟩ := Hand.hc3 g_A
  have zw : w.heap.size ≤ w4.heap.size := hB.size
  have HG := Lib.hid (And.intro g_A (hB))
  clear g_A hB
  go_wp2
  go_ret
  obtain ⟨g_A, hB⟩ := HG.out
  exact ⟨by first | rfl | (simp; done) | (simp; decide) | (simp; exact hd) | (simp [Lib.toList_data]; exact hd) | (simp; rfl) | (simp [Lib.toList_data]; done), by first | exact hB | exact bw hB⟩
set_option maxHeartbeats 800000 in
set_option maxRecDepth 100000 in
theorem rise_lt (n d p q c f : Int) (dr : Bool) (S1 S2 : ByteArray) (hne : (p == q) = false) (hpq : p < q) (hs : S1.size = S2.size) (hb : Op.bytesLess S1.toList S2.toList = true) (hd : ¬ S1.data = S2.data) (w : World) (ht : TabN w)
    (m0 : ∀ w, TabN w → Calls Tryd.prog 16 #[] w fun e w' => e = .returned (.bool true) ∧ Below w.heap.size w w')
    (m1 : ∀ w, Calls Tryd.prog 25 #[rate n d dr] w fun e w' => e = .returned (.int .i64 0) ∧ Below w.heap.size w w')
    (m2 : ∀ w, TabN w → Calls Tryd.prog 18 #[rate n d dr, .int .i64 p] w fun e w' => e = .returned (.tuple #[.string S1, .int .i64 0]) ∧ Below w.heap.size w w')
    (m3 : ∀ w, TabN w → Calls Tryd.prog 18 #[rate n d dr, .int .i64 q] w fun e w' => e = .returned (.tuple #[.string S2, .int .i64 0]) ∧ Below w.heap.size w w') :
    Calls Tryd.prog 7 #[rate n d dr, .int .i64 p, .int .i64 q] w fun e w' => e = .returned (.bool true) ∧ Below w.heap.size w w' := by
  have hne2 : ¬ p = q := by simpa using hne
  have hs3 : (S1.size == S2.size) = true := by simp [hs]
  have hs4 : ((S1.size : Int) == (S2.size : Int)) = true := by simp [hs]
  have hs6 : (p < q) = True := eq_true hpq
  have HT0 := Lib.hid ht
  have M0 := Lib.hid m0
  have M1 := Lib.hid m1
  have M2 := Lib.hid m2
  have M3 := Lib.hid m3
  clear m0 m1 m2 m3 ht
  go_enter Tryd.func7, Tryd.ntmps7
  go_wp2_with fail
  with_reducible refine (M0.out _ (tab_below HT0.out (bw (Below.refl _ _)))).mono ?_
  rintro e w1 ⟨rfl, hb1⟩
  have h_A : w1.heap[w.heap.size]? = some (.cells #[.int .i64 n, .int .i64 d, .bool dr] 24 (0, 0)) := by
    refine Hand.kb hb1 ?_; simp (disch := first | omega | (simp only [Hand.sa, Hand.ss, Hand.sd, Hand.sn]; first | done | omega)) only [Hand.q2, Hand.q1, Hand.q5, Hand.q6, Hand.q4, Hand.q3] <;> rfl
  have hB' : Below w.heap.size w w1 := Hand.stepB hb1 (by repeat (with_reducible first | apply Below.refl _ _ | apply Below.drew | apply pw_below_drewN | (apply Below.setCell; rotate_left; (dsimp only; omega)) | (apply Below.alloc; rotate_left; (first | omega | (simp only [Hand.sa, Hand.ss, Hand.sd, Hand.sn]; omega))))) (Nat.le_refl _)
  clear hb1
  have g_A := h_A
  have hB := hB'
  clear hB' h_A
  obtain ⟨z_A, z1_A, z2_A, y0_A, y1_A⟩ := Hand.hz g_A
  obtain ⟨c_A_0, f_A_0, c_A_1, f_A_1, c_A_2, f_A_2⟩ := Hand.hc3 g_A
  have zw : w.heap.size ≤ w1.heap.size := hB.size
  have HG := Lib.hid (And.intro g_A (hB))
  clear g_A hB
  go_wp2_with fail
  with_reducible refine (M1.out _).mono ?_
  rintro e w2 ⟨rfl, hb2⟩
  obtain ⟨g_A, hB⟩ := HG.out
  have h_A : w2.heap[w.heap.size]? = some (.cells #[.int .i64 n, .int .i64 d, .bool dr] 24 (0, 0)) := by
    refine Hand.kb hb2 ?_; first | with_reducible exact g_A | (simp (disch := first | omega | (simp only [Hand.sa, Hand.ss, Hand.sd, Hand.sn]; first | done | omega)) only [Hand.q2, Hand.q1, Hand.q5, Hand.q6, Hand.q4, Hand.q3, g_A] <;> rfl)
  have hB' : Below w.heap.size w w2 := Hand.stepB hb2 (by repeat (with_reducible first | apply hB | apply Below.drew | apply pw_below_drewN | (apply Below.setCell; rotate_left; (dsimp only; omega)) | (apply Below.alloc; rotate_left; (first | omega | (simp only [Hand.sa, Hand.ss, Hand.sd, Hand.sn]; omega))))) (Nat.le_refl _)
  clear HG hB g_A zw z_A z1_A z2_A y0_A y1_A c_A_0 f_A_0 c_A_1 f_A_1 c_A_2 f_A_2
  clear hb2
  have g_A := h_A
  have hB := hB'
  clear hB' h_A
  obtain ⟨z_A, z1_A, z2_A, y0_A, y1_A⟩ := Hand.hz g_A
  obtain ⟨c_A_0, f_A_0, c_A_1, f_A_1, c_A_2, f_A_2⟩ := Hand.hc3 g_A
  have zw : w.heap.size ≤ w2.heap.size := hB.size
  have HG := Lib.hid (And.intro g_A (hB))
  clear g_A hB
  go_wp2_with fail
  with_reducible refine (M2.out _ (tab_below HT0.out (bw HG.out.2))).mono ?_
  rintro e w3 ⟨rfl, hb3⟩
  obtain ⟨g_A, hB⟩ := HG.out
  have h_A : w3.heap[w.heap.size]? = some (.cells #[.int .i64 n, .int .i64 d, .bool dr] 24 (0, 0)) := by
    refine Hand.kb hb3 ?_; first | with_reducible exact g_A | (simp (disch := first | omega | (simp only [Hand.sa, Hand.ss, Hand.sd, Hand.sn]; first | done | omega)) only [Hand.q2, Hand.q1, Hand.q5, Hand.q6, Hand.q4, Hand.q3, g_A] <;> rfl)
  have hB' : Below w.heap.size w w3 := Hand.stepB hb3 (by repeat (with_reducible first | apply hB | apply Below.drew | apply pw_below_drewN | (apply Below.setCell; rotate_left; (dsimp only; omega)) | (apply Below.alloc; rotate_left; (first | omega | (simp only [Hand.sa, Hand.ss, Hand.sd, Hand.sn]; omega))))) (Nat.le_refl _)
  clear HG hB g_A zw z_A z1_A z2_A y0_A y1_A c_A_0 f_A_0 c_A_1 f_A_1 c_A_2 f_A_2
  clear hb3
  have g_A := h_A
  have hB := hB'
  clear hB' h_A
  obtain ⟨z_A, z1_A, z2_A, y0_A, y1_A⟩ := Hand.hz g_A
  obtain ⟨c_A_0, f_A_0, c_A_1, f_A_1, c_A_2, f_A_2⟩ := Hand.hc3 g_A
  have zw : w.heap.size ≤ w3.heap.size := hB.size
  have HG := Lib.hid (And.intro g_A (hB))
  clear g_A hB
  go_wp2_with fail
  with_reducible refine (M3.out _ (tab_below HT0.out (bw HG.out.2))).mono ?_
  rintro e w4 ⟨rfl, hb4⟩
  obtain ⟨g_A, hB⟩ := HG.out
  have h_A : w4.heap[w.heap.size]? = some (.cells #[.int .i64 n, .int .i64 d, .bool dr] 24 (0, 0)) := by
    refine Hand.kb hb4 ?_; first | with_reducible exact g_A | (simp (disch := first | omega | (simp only [Hand.sa, Hand.ss, Hand.sd, Hand.sn]; first | done | omega)) only [Hand.q2, Hand.q1, Hand.q5, Hand.q6, Hand.q4, Hand.q3, g_A] <;> rfl)
  have hB' : Below w.heap.size w w4 := Hand.stepB hb4 (by repeat (with_reducible first | apply hB | apply Below.drew | apply pw_below_drewN | (apply Below.setCell; rotate_left; (dsimp only; omega)) | (apply Below.alloc; rotate_left; (first | omega | (simp only [Hand.sa, Hand.ss, Hand.sd, Hand.sn]; omega))))) (Nat.le_refl _)
  clear HG hB g_A zw z_A z1_A z2_A y0_A y1_A c_A_0 f_A_0 c_A_1 f_A_1 c_A_2 f_A_2
  clear hb4
  have g_A := h_A
  have hB := hB'
  clear hB' h_A
  obtain ⟨z_A, z1_A, z2_A, y0_A, y1_A⟩ := Hand.hz g_A
  obtain ⟨c_A_0, f_A_0, c_A_1, f_A_1, c_A_2, f_A_2⟩ := Hand.hc3 g_A
  have zw : w.heap.size ≤ w4.heap.size := hB.size
  have HG := Lib.hid (And.intro g_A (hB))
  clear g_A hB
  go_wp2
  go_ret
  obtain ⟨g_A, hB⟩ := HG.out
  exact ⟨by first | rfl | (simp; done) | (simp; decide) | (simp; exact hd) | (simp [Lib.toList_data]; exact hd) | (simp; rfl) | (simp [Lib.toList_data]; done), by first | exact hB | exact bw hB⟩
set_option maxHeartbeats 800000 in
set_option maxRecDepth 100000 in
theorem rise_gt (n d p q c f : Int) (dr : Bool) (S1 S2 : ByteArray) (hne : (p == q) = false) (hpq : q < p) (hs : S1.size = S2.size) (hb : Op.bytesLess S1.toList S2.toList = false) (hd : ¬ S1.data = S2.data) (w : World) (ht : TabN w)
    (m0 : ∀ w, TabN w → Calls Tryd.prog 16 #[] w fun e w' => e = .returned (.bool true) ∧ Below w.heap.size w w')
    (m1 : ∀ w, Calls Tryd.prog 25 #[rate n d dr] w fun e w' => e = .returned (.int .i64 0) ∧ Below w.heap.size w w')
    (m2 : ∀ w, TabN w → Calls Tryd.prog 18 #[rate n d dr, .int .i64 p] w fun e w' => e = .returned (.tuple #[.string S1, .int .i64 0]) ∧ Below w.heap.size w w')
    (m3 : ∀ w, TabN w → Calls Tryd.prog 18 #[rate n d dr, .int .i64 q] w fun e w' => e = .returned (.tuple #[.string S2, .int .i64 0]) ∧ Below w.heap.size w w') :
    Calls Tryd.prog 7 #[rate n d dr, .int .i64 p, .int .i64 q] w fun e w' => e = .returned (.bool true) ∧ Below w.heap.size w w' := by
  have hne2 : ¬ p = q := by simpa using hne
  have hs3 : (S1.size == S2.size) = true := by simp [hs]
  have hs4 : ((S1.size : Int) == (S2.size : Int)) = true := by simp [hs]
  have hs6 : (p < q) = False := eq_false (by omega)
  have HT0 := Lib.hid ht
  have M0 := Lib.hid m0
  have M1 := Lib.hid m1
  have M2 := Lib.hid m2
  have M3 := Lib.hid m3
  clear m0 m1 m2 m3 ht
  go_enter Tryd.func7, Tryd.ntmps7
  go_wp2_with fail
  with_reducible refine (M0.out _ (tab_below HT0.out (bw (Below.refl _ _)))).mono ?_
  rintro e w1 ⟨rfl, hb1⟩
  have h_A : w1.heap[w.heap.size]? = some (.cells #[.int .i64 n, .int .i64 d, .bool dr] 24 (0, 0)) := by
    refine Hand.kb hb1 ?_; simp (disch := first | omega | (simp only [Hand.sa, Hand.ss, Hand.sd, Hand.sn]; first | done | omega)) only [Hand.q2, Hand.q1, Hand.q5, Hand.q6, Hand.q4, Hand.q3] <;> rfl
  have hB' : Below w.heap.size w w1 := Hand.stepB hb1 (by repeat (with_reducible first | apply Below.refl _ _ | apply Below.drew | apply pw_below_drewN | (apply Below.setCell; rotate_left; (dsimp only; omega)) | (apply Below.alloc; rotate_left; (first | omega | (simp only [Hand.sa, Hand.ss, Hand.sd, Hand.sn]; omega))))) (Nat.le_refl _)
  clear hb1
  have g_A := h_A
  have hB := hB'
  clear hB' h_A
  obtain ⟨z_A, z1_A, z2_A, y0_A, y1_A⟩ := Hand.hz g_A
  obtain ⟨c_A_0, f_A_0, c_A_1, f_A_1, c_A_2, f_A_2⟩ := Hand.hc3 g_A
  have zw : w.heap.size ≤ w1.heap.size := hB.size
  have HG := Lib.hid (And.intro g_A (hB))
  clear g_A hB
  go_wp2_with fail
  with_reducible refine (M1.out _).mono ?_
  rintro e w2 ⟨rfl, hb2⟩
  obtain ⟨g_A, hB⟩ := HG.out
  have h_A : w2.heap[w.heap.size]? = some (.cells #[.int .i64 n, .int .i64 d, .bool dr] 24 (0, 0)) := by
    refine Hand.kb hb2 ?_; first | with_reducible exact g_A | (simp (disch := first | omega | (simp only [Hand.sa, Hand.ss, Hand.sd, Hand.sn]; first | done | omega)) only [Hand.q2, Hand.q1, Hand.q5, Hand.q6, Hand.q4, Hand.q3, g_A] <;> rfl)
  have hB' : Below w.heap.size w w2 := Hand.stepB hb2 (by repeat (with_reducible first | apply hB | apply Below.drew | apply pw_below_drewN | (apply Below.setCell; rotate_left; (dsimp only; omega)) | (apply Below.alloc; rotate_left; (first | omega | (simp only [Hand.sa, Hand.ss, Hand.sd, Hand.sn]; omega))))) (Nat.le_refl _)
  clear HG hB g_A zw z_A z1_A z2_A y0_A y1_A c_A_0 f_A_0 c_A_1 f_A_1 c_A_2 f_A_2
  clear hb2
  have g_A := h_A
  have hB := hB'
  clear hB' h_A
  obtain ⟨z_A, z1_A, z2_A, y0_A, y1_A⟩ := Hand.hz g_A
  obtain ⟨c_A_0, f_A_0, c_A_1, f_A_1, c_A_2, f_A_2⟩ := Hand.hc3 g_A
  have zw : w.heap.size ≤ w2.heap.size := hB.size
  have HG := Lib.hid (And.intro g_A (hB))
  clear g_A hB
  go_wp2_with fail
  with_reducible refine (M2.out _ (tab_below HT0.out (bw HG.out.2))).mono ?_
  rintro e w3 ⟨rfl, hb3⟩
  obtain ⟨g_A, hB⟩ := HG.out
  have h_A : w3.heap[w.heap.size]? = some (.cells #[.int .i64 n, .int .i64 d, .bool dr] 24 (0, 0)) := by
    refine Hand.kb hb3 ?_; first | with_reducible exact g_A | (simp (disch := first | omega | (simp only [Hand.sa, Hand.ss, Hand.sd, Hand.sn]; first | done | omega)) only [Hand.q2, Hand.q1, Hand.q5, Hand.q6, Hand.q4, Hand.q3, g_A] <;> rfl)
  have hB' : Below w.heap.size w w3 := Hand.stepB hb3 (by repeat (with_reducible first | apply hB | apply Below.drew | apply pw_below_drewN | (apply Below.setCell; rotate_left; (dsimp only; omega)) | (apply Below.alloc; rotate_left; (first | omega | (simp only [Hand.sa, Hand.ss, Hand.sd, Hand.sn]; omega))))) (Nat.le_refl _)
  clear HG hB g_A zw z_A z1_A z2_A y0_A y1_A c_A_0 f_A_0 c_A_1 f_A_1 c_A_2 f_A_2
  clear hb3
  have g_A := h_A
  have hB := hB'
  clear hB' h_A
  obtain ⟨z_A, z1_A, z2_A, y0_A, y1_A⟩ := Hand.hz g_A
  obtain ⟨c_A_0, f_A_0, c_A_1, f_A_1, c_A_2, f_A_2⟩ := Hand.hc3 g_A
  have zw : w.heap.size ≤ w3.heap.size := hB.size
  have HG := Lib.hid (And.intro g_A (hB))
  clear g_A hB
  go_wp2_with fail
  with_reducible refine (M3.out _ (tab_below HT0.out (bw HG.out.2))).mono ?_
  rintro e w4 ⟨rfl, hb4⟩
  obtain ⟨g_A, hB⟩ := HG.out
  have h_A : w4.heap[w.heap.size]? = some (.cells #[.int .i64 n, .int .i64 d, .bool dr] 24 (0, 0)) := by
    refine Hand.kb hb4 ?_; first | with_reducible exact g_A | (simp (disch := first | omega | (simp only [Hand.sa, Hand.ss, Hand.sd, Hand.sn]; first | done | omega)) only [Hand.q2, Hand.q1, Hand.q5, Hand.q6, Hand.q4, Hand.q3, g_A] <;> rfl)
  have hB' : Below w.heap.size w w4 := Hand.stepB hb4 (by repeat (with_reducible first | apply hB | apply Below.drew | apply pw_below_drewN | (apply Below.setCell; rotate_left; (dsimp only; omega)) | (apply Below.alloc; rotate_left; (first | omega | (simp only [Hand.sa, Hand.ss, Hand.sd, Hand.sn]; omega))))) (Nat.le_refl _)
  clear HG hB g_A zw z_A z1_A z2_A y0_A y1_A c_A_0 f_A_0 c_A_1 f_A_1 c_A_2 f_A_2
  clear hb4
  have g_A := h_A
  have hB := hB'
  clear hB' h_A
  obtain ⟨z_A, z1_A, z2_A, y0_A, y1_A⟩ := Hand.hz g_A
  obtain ⟨c_A_0, f_A_0, c_A_1, f_A_1, c_A_2, f_A_2⟩ := Hand.hc3 g_A
  have zw : w.heap.size ≤ w4.heap.size := hB.size
  have HG := Lib.hid (And.intro g_A (hB))
  clear g_A hB
  go_wp2
  go_ret
  obtain ⟨g_A, hB⟩ := HG.out
  exact ⟨by first | rfl | (simp; done) | (simp; decide) | (simp; exact hd) | (simp [Lib.toList_data]; exact hd) | (simp; rfl) | (simp [Lib.toList_data]; done), by first | exact hB | exact bw hB⟩
end Go.Proofs.YtghiibdhibcbaaaDoor.PA
