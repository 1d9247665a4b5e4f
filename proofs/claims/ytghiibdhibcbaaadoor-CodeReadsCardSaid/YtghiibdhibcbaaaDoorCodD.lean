/- code: numbered, last, Label. -/
import Derived.Test.YtghiibdhibcbaaaDoorFmtT
import Derived.Deep.RegionHeld3
namespace Go.Proofs.YtghiibdhibcbaaaDoor.PA
open Go Go.RowKit Go.Proofs.YtghiibdhibcbaaaDoorW.PrintWords Go.Proofs.YtghiibdhibcbaaaDoorW.PrintLast Go.Proofs.YtghiibdhibcbaaaDoorW.PrintMore Go.Proofs.YtghiibdhibcbaaaDoor.CS
set_option linter.unusedSimpArgs false
set_option linter.unusedVariables false
set_option maxHeartbeats 800000 in
set_option maxRecDepth 100000 in
theorem numbered_not (n d fr : Int) (w : World) :
    Calls Tryd.prog 44 #[rate n d false, .int .i64 fr] w fun e w' => e = .returned (.int .i64 fr) ∧ Below w.heap.size w w' := by
  go_enter Tryd.func44, Tryd.ntmps44
  go_wp2
  go_ret
  exact ⟨rfl, bw (Below.refl _ _)⟩
set_option maxHeartbeats 800000 in
set_option maxRecDepth 100000 in
theorem numbered_30_near (fr : Int) (f0 : 0 ≤ fr) (f1 : fr ≤ 1000000000) (hm : fr % 17982 < 1800) (w : World)
    (m1 : ∀ w, Calls Tryd.prog 59 #[.agg #[.int .i64 30000, .int .i64 1001]] w fun e w' => e = .returned (.int .i64 2) ∧ Below w.heap.size w w')
    (m2 : ∀ w, Calls Tryd.prog 45 #[rate 30000 1001 true] w fun e w' => e = .returned (.int .i64 30) ∧ Below w.heap.size w w') :
    Calls Tryd.prog 44 #[rate 30000 1001 true, .int .i64 fr] w fun e w' => e = .returned (.int .i64 (fr + fr / 17982 * 9 * 2)) ∧ Below w.heap.size w w' := by
  have M1 := Lib.hid m1
  have M2 := Lib.hid m2
  clear m1 m2
  go_enter Tryd.func44, Tryd.ntmps44
  go_wp2_with fail
  with_reducible refine (M1.out _).mono ?_
  rintro e w1 ⟨rfl, hb1⟩
  have h_A : w1.heap[w.heap.size]? = some (.cells #[.int .i64 30000, .int .i64 1001, .bool true] 24 (0, 0)) := by
    refine Hand.kb hb1 ?_; simp (disch := first | omega | (simp only [Hand.sa, Hand.ss, Hand.sd, Hand.sn]; first | done | omega)) only [Hand.q2, Hand.q1, Hand.q5, Hand.q6, Hand.q4, Hand.q3] <;> rfl
  have hB' : Below w.heap.size w w1 := Hand.stepB hb1 (by repeat (with_reducible first | apply Below.refl _ _ | apply Below.drew | apply pw_below_drewN | (apply Below.setCell; rotate_left; (dsimp only; omega)) | (apply Below.alloc; rotate_left; (first | omega | (simp only [Hand.sa, Hand.ss, Hand.sd, Hand.sn]; omega))))) (Nat.le_refl _)
  clear hb1
  have g_A := h_A
  have hB := hB'
  clear hB' h_A
  obtain ⟨z_A, z1_A, z2_A, y0_A, y1_A⟩ := Hand.hz g_A
  obtain ⟨c_A_0, f_A_0, c_A_1, f_A_1, c_A_2, f_A_2⟩ := Hand.hc3 g_A
  have zw : w.heap.size ≤ w1.heap.size := hB.size
  have HG := Lib.hid (And.intro g_A (hB))
  clear g_A hB
  go_wp2_with fail
  with_reducible refine (M2.out _).mono ?_
  rintro e w2 ⟨rfl, hb2⟩
  obtain ⟨g_A, hB⟩ := HG.out
  have h_A : w2.heap[w.heap.size]? = some (.cells #[.int .i64 30000, .int .i64 1001, .bool true] 24 (0, 0)) := by
    refine Hand.kb hb2 ?_; first | with_reducible exact g_A | (simp (disch := first | omega | (simp only [Hand.sa, Hand.ss, Hand.sd, Hand.sn]; first | done | omega)) only [Hand.q2, Hand.q1, Hand.q5, Hand.q6, Hand.q4, Hand.q3, g_A] <;> rfl)
  have hB' : Below w.heap.size w w2 := Hand.stepB hb2 (by repeat (with_reducible first | apply hB | apply Below.drew | apply pw_below_drewN | (apply Below.setCell; rotate_left; (dsimp only; omega)) | (apply Below.alloc; rotate_left; (first | omega | (simp only [Hand.sa, Hand.ss, Hand.sd, Hand.sn]; omega))))) (Nat.le_refl _)
  clear HG hB g_A zw z_A z1_A z2_A y0_A y1_A c_A_0 f_A_0 c_A_1 f_A_1 c_A_2 f_A_2
  clear hb2
  have g_A := h_A
  have hB := hB'
  clear hB' h_A
  obtain ⟨z_A, z1_A, z2_A, y0_A, y1_A⟩ := Hand.hz g_A
  obtain ⟨c_A_0, f_A_0, c_A_1, f_A_1, c_A_2, f_A_2⟩ := Hand.hc3 g_A
  have zw : w.heap.size ≤ w2.heap.size := hB.size
  have HG := Lib.hid (And.intro g_A (hB))
  clear g_A hB
  go_wp2
  go_ret
  obtain ⟨g_A, hB⟩ := HG.out
  exact ⟨rfl, hB⟩
set_option maxHeartbeats 800000 in
set_option maxRecDepth 100000 in
theorem numbered_30_far (fr : Int) (f0 : 0 ≤ fr) (f1 : fr ≤ 1000000000) (hm : 1800 ≤ fr % 17982) (w : World)
    (m1 : ∀ w, Calls Tryd.prog 59 #[.agg #[.int .i64 30000, .int .i64 1001]] w fun e w' => e = .returned (.int .i64 2) ∧ Below w.heap.size w w')
    (m2 : ∀ w, Calls Tryd.prog 45 #[rate 30000 1001 true] w fun e w' => e = .returned (.int .i64 30) ∧ Below w.heap.size w w') :
    Calls Tryd.prog 44 #[rate 30000 1001 true, .int .i64 fr] w fun e w' => e = .returned (.int .i64 (fr + fr / 17982 * 9 * 2 + (2 + (fr % 17982 - 1800) / 1798 * 2))) ∧ Below w.heap.size w w' := by
  have M1 := Lib.hid m1
  have M2 := Lib.hid m2
  clear m1 m2
  go_enter Tryd.func44, Tryd.ntmps44
  go_wp2_with fail
  with_reducible refine (M1.out _).mono ?_
  rintro e w1 ⟨rfl, hb1⟩
  have h_A : w1.heap[w.heap.size]? = some (.cells #[.int .i64 30000, .int .i64 1001, .bool true] 24 (0, 0)) := by
    refine Hand.kb hb1 ?_; simp (disch := first | omega | (simp only [Hand.sa, Hand.ss, Hand.sd, Hand.sn]; first | done | omega)) only [Hand.q2, Hand.q1, Hand.q5, Hand.q6, Hand.q4, Hand.q3] <;> rfl
  have hB' : Below w.heap.size w w1 := Hand.stepB hb1 (by repeat (with_reducible first | apply Below.refl _ _ | apply Below.drew | apply pw_below_drewN | (apply Below.setCell; rotate_left; (dsimp only; omega)) | (apply Below.alloc; rotate_left; (first | omega | (simp only [Hand.sa, Hand.ss, Hand.sd, Hand.sn]; omega))))) (Nat.le_refl _)
  clear hb1
  have g_A := h_A
  have hB := hB'
  clear hB' h_A
  obtain ⟨z_A, z1_A, z2_A, y0_A, y1_A⟩ := Hand.hz g_A
  obtain ⟨c_A_0, f_A_0, c_A_1, f_A_1, c_A_2, f_A_2⟩ := Hand.hc3 g_A
  have zw : w.heap.size ≤ w1.heap.size := hB.size
  have HG := Lib.hid (And.intro g_A (hB))
  clear g_A hB
  go_wp2_with fail
  with_reducible refine (M2.out _).mono ?_
  rintro e w2 ⟨rfl, hb2⟩
  obtain ⟨g_A, hB⟩ := HG.out
  have h_A : w2.heap[w.heap.size]? = some (.cells #[.int .i64 30000, .int .i64 1001, .bool true] 24 (0, 0)) := by
    refine Hand.kb hb2 ?_; first | with_reducible exact g_A | (simp (disch := first | omega | (simp only [Hand.sa, Hand.ss, Hand.sd, Hand.sn]; first | done | omega)) only [Hand.q2, Hand.q1, Hand.q5, Hand.q6, Hand.q4, Hand.q3, g_A] <;> rfl)
  have hB' : Below w.heap.size w w2 := Hand.stepB hb2 (by repeat (with_reducible first | apply hB | apply Below.drew | apply pw_below_drewN | (apply Below.setCell; rotate_left; (dsimp only; omega)) | (apply Below.alloc; rotate_left; (first | omega | (simp only [Hand.sa, Hand.ss, Hand.sd, Hand.sn]; omega))))) (Nat.le_refl _)
  clear HG hB g_A zw z_A z1_A z2_A y0_A y1_A c_A_0 f_A_0 c_A_1 f_A_1 c_A_2 f_A_2
  clear hb2
  have g_A := h_A
  have hB := hB'
  clear hB' h_A
  obtain ⟨z_A, z1_A, z2_A, y0_A, y1_A⟩ := Hand.hz g_A
  obtain ⟨c_A_0, f_A_0, c_A_1, f_A_1, c_A_2, f_A_2⟩ := Hand.hc3 g_A
  have zw : w.heap.size ≤ w2.heap.size := hB.size
  have HG := Lib.hid (And.intro g_A (hB))
  clear g_A hB
  go_wp2
  go_ret
  obtain ⟨g_A, hB⟩ := HG.out
  exact ⟨rfl, hB⟩
set_option maxHeartbeats 800000 in
set_option maxRecDepth 100000 in
theorem numbered_60_near (fr : Int) (f0 : 0 ≤ fr) (f1 : fr ≤ 1000000000) (hm : fr % 35964 < 3600) (w : World)
    (m1 : ∀ w, Calls Tryd.prog 59 #[.agg #[.int .i64 60000, .int .i64 1001]] w fun e w' => e = .returned (.int .i64 4) ∧ Below w.heap.size w w')
    (m2 : ∀ w, Calls Tryd.prog 45 #[rate 60000 1001 true] w fun e w' => e = .returned (.int .i64 60) ∧ Below w.heap.size w w') :
    Calls Tryd.prog 44 #[rate 60000 1001 true, .int .i64 fr] w fun e w' => e = .returned (.int .i64 (fr + fr / 35964 * 9 * 4)) ∧ Below w.heap.size w w' := by
  have M1 := Lib.hid m1
  have M2 := Lib.hid m2
  clear m1 m2
  go_enter Tryd.func44, Tryd.ntmps44
  go_wp2_with fail
  with_reducible refine (M1.out _).mono ?_
  rintro e w1 ⟨rfl, hb1⟩
  have h_A : w1.heap[w.heap.size]? = some (.cells #[.int .i64 60000, .int .i64 1001, .bool true] 24 (0, 0)) := by
    refine Hand.kb hb1 ?_; simp (disch := first | omega | (simp only [Hand.sa, Hand.ss, Hand.sd, Hand.sn]; first | done | omega)) only [Hand.q2, Hand.q1, Hand.q5, Hand.q6, Hand.q4, Hand.q3] <;> rfl
  have hB' : Below w.heap.size w w1 := Hand.stepB hb1 (by repeat (with_reducible first | apply Below.refl _ _ | apply Below.drew | apply pw_below_drewN | (apply Below.setCell; rotate_left; (dsimp only; omega)) | (apply Below.alloc; rotate_left; (first | omega | (simp only [Hand.sa, Hand.ss, Hand.sd, Hand.sn]; omega))))) (Nat.le_refl _)
  clear hb1
  have g_A := h_A
  have hB := hB'
  clear hB' h_A
  obtain ⟨z_A, z1_A, z2_A, y0_A, y1_A⟩ := Hand.hz g_A
  obtain ⟨c_A_0, f_A_0, c_A_1, f_A_1, c_A_2, f_A_2⟩ := Hand.hc3 g_A
  have zw : w.heap.size ≤ w1.heap.size := hB.size
  have HG := Lib.hid (And.intro g_A (hB))
  clear g_A hB
  go_wp2_with fail
  with_reducible refine (M2.out _).mono ?_
  rintro e w2 ⟨rfl, hb2⟩
  obtain ⟨g_A, hB⟩ := HG.out
  have h_A : w2.heap[w.heap.size]? = some (.cells #[.int .i64 60000, .int .i64 1001, .bool true] 24 (0, 0)) := by
    refine Hand.kb hb2 ?_; first | with_reducible exact g_A | (simp (disch := first | omega | (simp only [Hand.sa, Hand.ss, Hand.sd, Hand.sn]; first | done | omega)) only [Hand.q2, Hand.q1, Hand.q5, Hand.q6, Hand.q4, Hand.q3, g_A] <;> rfl)
  have hB' : Below w.heap.size w w2 := Hand.stepB hb2 (by repeat (with_reducible first | apply hB | apply Below.drew | apply pw_below_drewN | (apply Below.setCell; rotate_left; (dsimp only; omega)) | (apply Below.alloc; rotate_left; (first | omega | (simp only [Hand.sa, Hand.ss, Hand.sd, Hand.sn]; omega))))) (Nat.le_refl _)
  clear HG hB g_A zw z_A z1_A z2_A y0_A y1_A c_A_0 f_A_0 c_A_1 f_A_1 c_A_2 f_A_2
  clear hb2
  have g_A := h_A
  have hB := hB'
  clear hB' h_A
  obtain ⟨z_A, z1_A, z2_A, y0_A, y1_A⟩ := Hand.hz g_A
  obtain ⟨c_A_0, f_A_0, c_A_1, f_A_1, c_A_2, f_A_2⟩ := Hand.hc3 g_A
  have zw : w.heap.size ≤ w2.heap.size := hB.size
  have HG := Lib.hid (And.intro g_A (hB))
  clear g_A hB
  go_wp2
  go_ret
  obtain ⟨g_A, hB⟩ := HG.out
  exact ⟨rfl, hB⟩
set_option maxHeartbeats 800000 in
set_option maxRecDepth 100000 in
theorem numbered_60_far (fr : Int) (f0 : 0 ≤ fr) (f1 : fr ≤ 1000000000) (hm : 3600 ≤ fr % 35964) (w : World)
    (m1 : ∀ w, Calls Tryd.prog 59 #[.agg #[.int .i64 60000, .int .i64 1001]] w fun e w' => e = .returned (.int .i64 4) ∧ Below w.heap.size w w')
    (m2 : ∀ w, Calls Tryd.prog 45 #[rate 60000 1001 true] w fun e w' => e = .returned (.int .i64 60) ∧ Below w.heap.size w w') :
    Calls Tryd.prog 44 #[rate 60000 1001 true, .int .i64 fr] w fun e w' => e = .returned (.int .i64 (fr + fr / 35964 * 9 * 4 + (4 + (fr % 35964 - 3600) / 3596 * 4))) ∧ Below w.heap.size w w' := by
  have M1 := Lib.hid m1
  have M2 := Lib.hid m2
  clear m1 m2
  go_enter Tryd.func44, Tryd.ntmps44
  go_wp2_with fail
  with_reducible refine (M1.out _).mono ?_
  rintro e w1 ⟨rfl, hb1⟩
  have h_A : w1.heap[w.heap.size]? = some (.cells #[.int .i64 60000, .int .i64 1001, .bool true] 24 (0, 0)) := by
    refine Hand.kb hb1 ?_; simp (disch := first | omega | (simp only [Hand.sa, Hand.ss, Hand.sd, Hand.sn]; first | done | omega)) only [Hand.q2, Hand.q1, Hand.q5, Hand.q6, Hand.q4, Hand.q3] <;> rfl
  have hB' : Below w.heap.size w w1 := Hand.stepB hb1 (by repeat (with_reducible first | apply Below.refl _ _ | apply Below.drew | apply pw_below_drewN | (apply Below.setCell; rotate_left; (dsimp only; omega)) | (apply Below.alloc; rotate_left; (first | omega | (simp only [Hand.sa, Hand.ss, Hand.sd, Hand.sn]; omega))))) (Nat.le_refl _)
  clear hb1
  have g_A := h_A
  have hB := hB'
  clear hB' h_A
  obtain ⟨z_A, z1_A, z2_A, y0_A, y1_A⟩ := Hand.hz g_A
  obtain ⟨c_A_0, f_A_0, c_A_1, f_A_1, c_A_2, f_A_2⟩ := Hand.hc3 g_A
  have zw : w.heap.size ≤ w1.heap.size := hB.size
  have HG := Lib.hid (And.intro g_A (hB))
  clear g_A hB
  go_wp2_with fail
  with_reducible refine (M2.out _).mono ?_
  rintro e w2 ⟨rfl, hb2⟩
  obtain ⟨g_A, hB⟩ := HG.out
  have h_A : w2.heap[w.heap.size]? = some (.cells #[.int .i64 60000, .int .i64 1001, .bool true] 24 (0, 0)) := by
    refine Hand.kb hb2 ?_; first | with_reducible exact g_A | (simp (disch := first | omega | (simp only [Hand.sa, Hand.ss, Hand.sd, Hand.sn]; first | done | omega)) only [Hand.q2, Hand.q1, Hand.q5, Hand.q6, Hand.q4, Hand.q3, g_A] <;> rfl)
  have hB' : Below w.heap.size w w2 := Hand.stepB hb2 (by repeat (with_reducible first | apply hB | apply Below.drew | apply pw_below_drewN | (apply Below.setCell; rotate_left; (dsimp only; omega)) | (apply Below.alloc; rotate_left; (first | omega | (simp only [Hand.sa, Hand.ss, Hand.sd, Hand.sn]; omega))))) (Nat.le_refl _)
  clear HG hB g_A zw z_A z1_A z2_A y0_A y1_A c_A_0 f_A_0 c_A_1 f_A_1 c_A_2 f_A_2
  clear hb2
  have g_A := h_A
  have hB := hB'
  clear hB' h_A
  obtain ⟨z_A, z1_A, z2_A, y0_A, y1_A⟩ := Hand.hz g_A
  obtain ⟨c_A_0, f_A_0, c_A_1, f_A_1, c_A_2, f_A_2⟩ := Hand.hc3 g_A
  have zw : w.heap.size ≤ w2.heap.size := hB.size
  have HG := Lib.hid (And.intro g_A (hB))
  clear g_A hB
  go_wp2
  go_ret
  obtain ⟨g_A, hB⟩ := HG.out
  exact ⟨rfl, hB⟩
set_option maxHeartbeats 800000 in
set_option maxRecDepth 100000 in
theorem last_some (n d F : Int) (dr : Bool) (S : ByteArray) (f0 : 1 ≤ F) (f1 : F ≤ 240) (k : S.size ≤ 21) (w : World) (ht : TabN w)
    (m1 : ∀ w, Calls Tryd.prog 45 #[rate n d dr] w fun e w' => e = .returned (.int .i64 F) ∧ Below w.heap.size w w')
    (m2 : ∀ w, TabN w → Calls Tryd.prog 65 #[.int .i64 (F - 1), .int .i64 10] w fun e w' => e = .returned (.string S) ∧ Below w.heap.size w w') :
    Calls Tryd.prog 48 #[rate n d dr] w fun e w' => e = .returned (.int .i64 (max 2 (S.size : Int))) ∧ Below w.heap.size w w' := by
  have HT0 := Lib.hid ht
  have M1 := Lib.hid m1
  have M2 := Lib.hid m2
  clear m1 m2 ht
  go_enter Tryd.func48, Tryd.ntmps48
  go_wp2_with fail
  with_reducible refine (M1.out _).mono ?_
  rintro e w1 ⟨rfl, hb1⟩
  have h_A : w1.heap[w.heap.size]? = some (.cells #[.int .i64 n, .int .i64 d, .bool dr] 24 (0, 0)) := by
    refine Hand.kb hb1 ?_; simp (disch := first | omega | (simp only [Hand.sa, Hand.ss, Hand.sd, Hand.sn]; first | done | omega)) only [Hand.q2, Hand.q1, Hand.q5, Hand.q6, Hand.q4, Hand.q3] <;> rfl
  have hB' : Below w.heap.size w w1 := Hand.stepB hb1 (by repeat (with_reducible first | apply Below.refl _ _ | apply Below.drew | apply pw_below_drewN | (apply Below.setCell; rotate_left; (dsimp only; omega)) | (apply Below.alloc; rotate_left; (first | omega | (simp only [Hand.sa, Hand.ss, Hand.sd, Hand.sn]; omega))))) (Nat.le_refl _)
  clear hb1
  have g_A := h_A
  have hB := hB'
  clear hB' h_A
  obtain ⟨z_A, z1_A, z2_A, y0_A, y1_A⟩ := Hand.hz g_A
  obtain ⟨c_A_0, f_A_0, c_A_1, f_A_1, c_A_2, f_A_2⟩ := Hand.hc3 g_A
  have zw : w.heap.size ≤ w1.heap.size := hB.size
  have HG := Lib.hid (And.intro g_A (hB))
  clear g_A hB
  go_wp2_with fail
  with_reducible refine (M2.out _ (tab_below HT0.out (bw HG.out.2))).mono ?_
  rintro e w2 ⟨rfl, hb2⟩
  obtain ⟨g_A, hB⟩ := HG.out
  have h_A : w2.heap[w.heap.size]? = some (.cells #[.int .i64 n, .int .i64 d, .bool dr] 24 (0, 0)) := by
    refine Hand.kb hb2 ?_; first | with_reducible exact g_A | (simp (disch := first | omega | (simp only [Hand.sa, Hand.ss, Hand.sd, Hand.sn]; first | done | omega)) only [Hand.q2, Hand.q1, Hand.q5, Hand.q6, Hand.q4, Hand.q3, g_A] <;> rfl)
  have hB' : Below w.heap.size w w2 := Hand.stepB hb2 (by repeat (with_reducible first | apply hB | apply Below.drew | apply pw_below_drewN | (apply Below.setCell; rotate_left; (dsimp only; omega)) | (apply Below.alloc; rotate_left; (first | omega | (simp only [Hand.sa, Hand.ss, Hand.sd, Hand.sn]; omega))))) (Nat.le_refl _)
  clear HG hB g_A zw z_A z1_A z2_A y0_A y1_A c_A_0 f_A_0 c_A_1 f_A_1 c_A_2 f_A_2
  clear hb2
  have g_A := h_A
  have hB := hB'
  clear hB' h_A
  obtain ⟨z_A, z1_A, z2_A, y0_A, y1_A⟩ := Hand.hz g_A
  obtain ⟨c_A_0, f_A_0, c_A_1, f_A_1, c_A_2, f_A_2⟩ := Hand.hc3 g_A
  have zw : w.heap.size ≤ w2.heap.size := hB.size
  have HG := Lib.hid (And.intro g_A (hB))
  clear g_A hB
  go_wp2
  go_ret
  obtain ⟨g_A, hB⟩ := HG.out
  exact ⟨rfl, hB⟩
set_option maxHeartbeats 800000 in
set_option maxRecDepth 100000 in
theorem label_bad (n d fr x y z : Int) (dr : Bool) (hz : (z == 0) = false) (w : World)
    (m1 : ∀ w, Calls Tryd.prog 17 #[rate n d dr, .int .i64 fr] w fun e w' => e = .returned (.tuple #[.agg #[.int .i64 x, .int .i64 y], .int .i64 z]) ∧ Below w.heap.size w w') :
    Calls Tryd.prog 18 #[rate n d dr, .int .i64 fr] w fun e w' => e = .returned (.tuple #[.string ⟨#[]⟩, .int .i64 z]) ∧ Below w.heap.size w w' := by
  have M1 := Lib.hid m1
  clear m1
  go_enter Tryd.func18, Tryd.ntmps18
  go_wp2_with fail
  with_reducible refine (M1.out _).mono ?_
  rintro e w1 ⟨rfl, hb1⟩
  have h_A : w1.heap[w.heap.size]? = some (.cells #[.int .i64 n, .int .i64 d, .bool dr] 24 (0, 0)) := by
    refine Hand.kb hb1 ?_; simp (disch := first | omega | (simp only [Hand.sa, Hand.ss, Hand.sd, Hand.sn]; first | done | omega)) only [Hand.q2, Hand.q1, Hand.q5, Hand.q6, Hand.q4, Hand.q3] <;> rfl
  have hB' : Below w.heap.size w w1 := Hand.stepB hb1 (by repeat (with_reducible first | apply Below.refl _ _ | apply Below.drew | apply pw_below_drewN | (apply Below.setCell; rotate_left; (dsimp only; omega)) | (apply Below.alloc; rotate_left; (first | omega | (simp only [Hand.sa, Hand.ss, Hand.sd, Hand.sn]; omega))))) (Nat.le_refl _)
  clear hb1
  have g_A := h_A
  have hB := hB'
  clear hB' h_A
  obtain ⟨z_A, z1_A, z2_A, y0_A, y1_A⟩ := Hand.hz g_A
  obtain ⟨c_A_0, f_A_0, c_A_1, f_A_1, c_A_2, f_A_2⟩ := Hand.hc3 g_A
  have zw : w.heap.size ≤ w1.heap.size := hB.size
  have HG := Lib.hid (And.intro g_A (hB))
  clear g_A hB
  go_wp2
  go_ret2
  obtain ⟨g_A, hB⟩ := HG.out
  exact ⟨rfl, bw hB⟩
set_option maxHeartbeats 800000 in
set_option maxRecDepth 100000 in
theorem label_ok (n d fr x y f k s h m se rs L : Int) (dr : Bool) (S1 S2 S3 C S4 : ByteArray) (k0 : 0 ≤ k) (k1 : k ≤ 1000000000) (f0 : 1 ≤ f) (f1 : f ≤ 240) (hf : (f == 0) = false) (hs : k / f = s) (s0 : 0 ≤ s) (s1 : s ≤ 1000000000) (hh : s / 3600 = h) (hm : s / 60 % 60 = m) (hse : s % 60 = se) (hrs : k % f = rs)
    (q1 : S1.size ≤ 21) (q2 : S2.size ≤ 21) (q3 : S3.size ≤ 21) (q4 : S4.size ≤ 21) (q5 : C.size ≤ 21) (w : World) (ht : TabN w)
    (m1 : ∀ w, Calls Tryd.prog 17 #[rate n d dr, .int .i64 fr] w fun e w' => e = .returned (.tuple #[.agg #[.int .i64 x, .int .i64 y], .int .i64 0]) ∧ Below w.heap.size w w')
    (m2 : ∀ w, Calls Tryd.prog 44 #[rate n d dr, .int .i64 fr] w fun e w' => e = .returned (.int .i64 k) ∧ Below w.heap.size w w')
    (m3 : ∀ w, Calls Tryd.prog 45 #[rate n d dr] w fun e w' => e = .returned (.int .i64 f) ∧ Below w.heap.size w w')
    (m4 : ∀ w, TabN w → Calls Tryd.prog 46 #[.int .i64 h, .int .i64 2] w fun e w' => e = .returned (.string S1) ∧ Below w.heap.size w w')
    (m5 : ∀ w, TabN w → Calls Tryd.prog 46 #[.int .i64 m, .int .i64 2] w fun e w' => e = .returned (.string S2) ∧ Below w.heap.size w w')
    (m6 : ∀ w, TabN w → Calls Tryd.prog 46 #[.int .i64 se, .int .i64 2] w fun e w' => e = .returned (.string S3) ∧ Below w.heap.size w w')
    (m7 : ∀ w, Calls Tryd.prog 47 #[rate n d dr] w fun e w' => e = .returned (.string C) ∧ Below w.heap.size w w')
    (m8 : ∀ w, TabN w → Calls Tryd.prog 48 #[rate n d dr] w fun e w' => e = .returned (.int .i64 L) ∧ Below w.heap.size w w')
    (m9 : ∀ w, TabN w → Calls Tryd.prog 46 #[.int .i64 rs, .int .i64 L] w fun e w' => e = .returned (.string S4) ∧ Below w.heap.size w w') :
    Calls Tryd.prog 18 #[rate n d dr, .int .i64 fr] w fun e w' => e = .returned (.tuple #[.string (S1 ++ (⟨#[58]⟩ : ByteArray) ++ S2 ++ (⟨#[58]⟩ : ByteArray) ++ S3 ++ C ++ S4), .int .i64 0]) ∧ Below w.heap.size w w' := by
  have HT0 := Lib.hid ht
  have M1 := Lib.hid m1
  have M2 := Lib.hid m2
  have M3 := Lib.hid m3
  have M4 := Lib.hid m4
  have M5 := Lib.hid m5
  have M6 := Lib.hid m6
  have M7 := Lib.hid m7
  have M8 := Lib.hid m8
  have M9 := Lib.hid m9
  clear m1 m2 m3 m4 m5 m6 m7 m8 m9 ht
  go_enter Tryd.func18, Tryd.ntmps18
  go_wp2_with fail
  with_reducible refine (M1.out _).mono ?_
  rintro e w1 ⟨rfl, hb1⟩
  have h_A : w1.heap[w.heap.size]? = some (.cells #[.int .i64 n, .int .i64 d, .bool dr] 24 (0, 0)) := by
    refine Hand.kb hb1 ?_; simp (disch := first | omega | (simp only [Hand.sa, Hand.ss, Hand.sd, Hand.sn]; first | done | omega)) only [Hand.q2, Hand.q1, Hand.q5, Hand.q6, Hand.q4, Hand.q3] <;> rfl
  have hB' : Below w.heap.size w w1 := Hand.stepB hb1 (by repeat (with_reducible first | apply Below.refl _ _ | apply Below.drew | apply pw_below_drewN | (apply Below.setCell; rotate_left; (dsimp only; omega)) | (apply Below.alloc; rotate_left; (first | omega | (simp only [Hand.sa, Hand.ss, Hand.sd, Hand.sn]; omega))))) (Nat.le_refl _)
  clear hb1
  have g_A := h_A
  have hB := hB'
  clear hB' h_A
  obtain ⟨z_A, z1_A, z2_A, y0_A, y1_A⟩ := Hand.hz g_A
  obtain ⟨c_A_0, f_A_0, c_A_1, f_A_1, c_A_2, f_A_2⟩ := Hand.hc3 g_A
  have zw : w.heap.size ≤ w1.heap.size := hB.size
  have HG := Lib.hid (And.intro g_A (hB))
  clear g_A hB
  go_wp2
  obtain ⟨g_A, hB⟩ := HG.out
  obtain ⟨W, hW⟩ : ∃ W_, W_ = w1.alloc (.cells #[.int .i64 x, .int .i64 y] 26) := ⟨_, rfl⟩
  rw [← hW]
  have h_A : W.heap[w.heap.size]? = some (.cells #[.int .i64 n, .int .i64 d, .bool dr] 24 (0, 0)) := by
    rw [hW]
    first | (simp (disch := first | with_reducible assumption | (with_reducible first | exact Nat.ne_of_lt (by assumption) | exact Nat.ne_of_gt (by assumption) | exact Ne.symm (by assumption)) | ((fail_if_success (refine Hand.trip (by with_reducible rfl) ?_)); first | omega | (simp only [Hand.sa, Hand.ss, Hand.sd, Hand.sn]; first | done | with_reducible assumption | omega))) only [Hand.q2, Hand.q1, Hand.q5, Hand.q6, Hand.q4, Hand.q3, g_A]; done) | (simp (disch := first | with_reducible assumption | (with_reducible first | exact Nat.ne_of_lt (by assumption) | exact Nat.ne_of_gt (by assumption) | exact Ne.symm (by assumption)) | ((fail_if_success (refine Hand.trip (by with_reducible rfl) ?_)); first | omega | (simp only [Hand.sa, Hand.ss, Hand.sd, Hand.sn]; first | done | with_reducible assumption | omega))) only [Hand.q2, Hand.q1, Hand.q5, Hand.q6, Hand.q4, Hand.q3, g_A]; rfl)
  have h_X : W.heap[w1.heap.size]? = some (.cells #[.int .i64 x, .int .i64 y] 26 (0, 0)) := by
    rw [hW]
    first | (simp (disch := first | with_reducible assumption | (with_reducible first | exact Nat.ne_of_lt (by assumption) | exact Nat.ne_of_gt (by assumption) | exact Ne.symm (by assumption)) | ((fail_if_success (refine Hand.trip (by with_reducible rfl) ?_)); first | omega | (simp only [Hand.sa, Hand.ss, Hand.sd, Hand.sn]; first | done | with_reducible assumption | omega))) only [Hand.q2, Hand.q1, Hand.q5, Hand.q6, Hand.q4, Hand.q3]; done) | (simp (disch := first | with_reducible assumption | (with_reducible first | exact Nat.ne_of_lt (by assumption) | exact Nat.ne_of_gt (by assumption) | exact Ne.symm (by assumption)) | ((fail_if_success (refine Hand.trip (by with_reducible rfl) ?_)); first | omega | (simp only [Hand.sa, Hand.ss, Hand.sd, Hand.sn]; first | done | with_reducible assumption | omega))) only [Hand.q2, Hand.q1, Hand.q5, Hand.q6, Hand.q4, Hand.q3]; rfl)
  have hB' : Below w.heap.size w W := by
    rw [hW]
    repeat (first | exact hB | (with_reducible first | apply Below.drew | apply pw_below_drewN | refine Below.setCell ?_ (by dsimp only; omega) _ | refine Below.alloc ?_ (by first | omega | (simp only [Hand.sa, Hand.ss, Hand.sd, Hand.sn]; omega)) _))
  clear HG hB g_A zw z_A z1_A z2_A y0_A y1_A c_A_0 f_A_0 c_A_1 f_A_1 c_A_2 f_A_2
  clear hW
  have g_A := h_A
  have g_X := h_X
  have hB := hB'
  clear hB' h_A h_X
  obtain ⟨z_A, z1_A, z2_A, y0_A, y1_A⟩ := Hand.hz g_A
  obtain ⟨c_A_0, f_A_0, c_A_1, f_A_1, c_A_2, f_A_2⟩ := Hand.hc3 g_A
  obtain ⟨z_X, z1_X, z2_X, y0_X, y1_X⟩ := Hand.hz g_X
  obtain ⟨c_X_0, f_X_0, c_X_1, f_X_1⟩ := Hand.hc2 g_X
  have zw : w.heap.size ≤ W.heap.size := hB.size
  have HG := Lib.hid (And.intro g_A (And.intro g_X (hB)))
  clear g_A g_X hB
  have HBW := Lib.hid (HG.out.2.2)
  have HK := Lib.hid (And.intro c_A_0 (And.intro c_A_1 (c_A_2)))
  have BD : Below W.heap.size W W.drew := Below.drew (Below.refl _ _)
  have BR : Below W.heap.size W W := Below.refl _ _
  go_region_held3 (fun w_ => Below w.heap.size w w_ ∧ w_.cell? ⟨w.heap.size, 0, none⟩ = some (.int .i64 n) ∧ w_.cell? ⟨w.heap.size, 1, none⟩ = some (.int .i64 d) ∧ w_.cell? ⟨w.heap.size, 2, none⟩ = some (.bool dr)) (first | with_reducible (refine ⟨?_, (Below.cell BR (p := ⟨w.heap.size, 0, none⟩) z_A).trans (HK.out.1), (Below.cell BR (p := ⟨w.heap.size, 1, none⟩) z_A).trans (HK.out.2.1), (Below.cell BR (p := ⟨w.heap.size, 2, none⟩) z_A).trans (HK.out.2.2)⟩; apply (HBW.out.trans (Below.mono BR zw))) | with_reducible (refine ⟨?_, (Below.cell BD (p := ⟨w.heap.size, 0, none⟩) z_A).trans (HK.out.1), (Below.cell BD (p := ⟨w.heap.size, 1, none⟩) z_A).trans (HK.out.2.1), (Below.cell BD (p := ⟨w.heap.size, 2, none⟩) z_A).trans (HK.out.2.2)⟩; apply (HBW.out.trans (Below.mono BD zw))) | with_reducible (refine ⟨?_, (Below.cell BB (p := ⟨w.heap.size, 0, none⟩) z_A).trans (HK.out.1), (Below.cell BB (p := ⟨w.heap.size, 1, none⟩) z_A).trans (HK.out.2.1), (Below.cell BB (p := ⟨w.heap.size, 2, none⟩) z_A).trans (HK.out.2.2)⟩; apply (HBW.out.trans (Below.mono BB zw))) | (refine ⟨?_, ?_, ?_, ?_⟩; (focus (repeat (with_reducible first | apply (HBW.out.trans (Below.mono BB zw)) | apply Below.drew | (apply Below.setCell; rotate_left; (dsimp only; omega)) | (apply Below.alloc; rotate_left; (first | omega | (simp only [Hand.sa, Hand.ss, Hand.sd, Hand.sn]; omega)))))); (repeat (with_reducible first | exact (Below.cell BB (p := ⟨w.heap.size, 0, none⟩) z_A).trans (HK.out.1) | refine Hand.cell_alloc ?_ | refine Hand.cell_drew ?_ | refine Hand.cell_far (by omega) ?_)); (repeat (with_reducible first | exact (Below.cell BB (p := ⟨w.heap.size, 1, none⟩) z_A).trans (HK.out.2.1) | refine Hand.cell_alloc ?_ | refine Hand.cell_drew ?_ | refine Hand.cell_far (by omega) ?_)); (repeat (with_reducible first | exact (Below.cell BB (p := ⟨w.heap.size, 2, none⟩) z_A).trans (HK.out.2.2) | refine Hand.cell_alloc ?_ | refine Hand.cell_drew ?_ | refine Hand.cell_far (by omega) ?_)))) (first | (go_at_call 44; ((with_reducible refine (M2.out _).mono ?_); rintro e w2 ⟨rfl, hb_⟩; have BB : Below W.heap.size W w2 := Hand.stepB hb_ (by assumption) (Nat.le_refl _); have zB_w2 := Below.size BB; clear hb_)) | (go_at_call 45; ((with_reducible refine (M3.out _).mono ?_); rintro e w3 ⟨rfl, hb_⟩; have BB : Below W.heap.size W w3 := Hand.stepB hb_ (by assumption) (Nat.le_refl _); have zB_w3 := Below.size BB; clear hb_)))
  obtain ⟨g_A, g_X, hB⟩ := HG.out
  clear HG
  have g_A' := (Hand.hp_below BB z_A).trans g_A
  have hB' := hB.trans (Below.mono BB zw)
  clear g_A
  clear hB HBW HK BD BR BB zw z_A z1_A z2_A y0_A y1_A
  have g_A := g_A'
  have hB := hB'
  clear hB' g_A'
  obtain ⟨z_A, z1_A, z2_A, y0_A, y1_A⟩ := Hand.hz g_A
  obtain ⟨c_A_0, f_A_0, c_A_1, f_A_1, c_A_2, f_A_2⟩ := Hand.hc3 g_A
  have zw : w.heap.size ≤ w3.heap.size := hB.size
  have HG := Lib.hid (And.intro g_A (hB))
  clear g_A hB
  go_wp2
  have hf2 : ¬ f = 0 := by omega
  have e1 : IntKind.i64.wrap (s.tdiv 3600) = h := by rw [Int.tdiv_eq_ediv_of_nonneg s0, hh, IntKind.wrap_i64]; omega
  have e2 : (IntKind.i64.wrap (s.tdiv 60)).tmod 60 = m := by rw [Int.tdiv_eq_ediv_of_nonneg s0, show IntKind.i64.wrap (s / 60) = s / 60 by rw [IntKind.wrap_i64]; omega, Int.tmod_eq_emod_of_nonneg (by omega), hm]
  have e3 : s.tmod 60 = se := by rw [Int.tmod_eq_emod_of_nonneg s0, hse]
  have e4 : k.tmod f = rs := by rw [Int.tmod_eq_emod_of_nonneg k0, hrs]
  have p1 : (9223372036854775807 < S1.size + 1) = False := eq_false (by omega)
  have p2 : (9223372036854775807 < S1.size + 1 + S2.size) = False := eq_false (by omega)
  have p3 : (9223372036854775807 < S1.size + 1 + S2.size + 1) = False := eq_false (by omega)
  have p4 : (9223372036854775807 < S1.size + 1 + S2.size + 1 + S3.size) = False := eq_false (by omega)
  have p5 : (9223372036854775807 < S1.size + 1 + S2.size + 1 + S3.size + C.size) = False := eq_false (by omega)
  have p6 : (9223372036854775807 < S1.size + 1 + S2.size + 1 + S3.size + C.size + S4.size) = False := eq_false (by omega)
  have HT3 := Lib.hid (show TabN w3 from (tab_below HT0.out (HG.out.2)))
  have HBW := Lib.hid (HG.out.2)
  have HK := Lib.hid (And.intro c_A_0 (And.intro c_A_1 (c_A_2)))
  have BD : Below w3.heap.size w3 w3.drew := Below.drew (Below.refl _ _)
  have BR : Below w3.heap.size w3 w3 := Below.refl _ _
  go_region_held3 (fun w_ => Below w.heap.size w w_ ∧ w_.cell? ⟨w.heap.size, 0, none⟩ = some (.int .i64 n) ∧ w_.cell? ⟨w.heap.size, 1, none⟩ = some (.int .i64 d) ∧ w_.cell? ⟨w.heap.size, 2, none⟩ = some (.bool dr)) (first | with_reducible (refine ⟨?_, (Below.cell BR (p := ⟨w.heap.size, 0, none⟩) z_A).trans (HK.out.1), (Below.cell BR (p := ⟨w.heap.size, 1, none⟩) z_A).trans (HK.out.2.1), (Below.cell BR (p := ⟨w.heap.size, 2, none⟩) z_A).trans (HK.out.2.2)⟩; apply (HBW.out.trans (Below.mono BR zw))) | with_reducible (refine ⟨?_, (Below.cell BD (p := ⟨w.heap.size, 0, none⟩) z_A).trans (HK.out.1), (Below.cell BD (p := ⟨w.heap.size, 1, none⟩) z_A).trans (HK.out.2.1), (Below.cell BD (p := ⟨w.heap.size, 2, none⟩) z_A).trans (HK.out.2.2)⟩; apply (HBW.out.trans (Below.mono BD zw))) | with_reducible (refine ⟨?_, (Below.cell BB (p := ⟨w.heap.size, 0, none⟩) z_A).trans (HK.out.1), (Below.cell BB (p := ⟨w.heap.size, 1, none⟩) z_A).trans (HK.out.2.1), (Below.cell BB (p := ⟨w.heap.size, 2, none⟩) z_A).trans (HK.out.2.2)⟩; apply (HBW.out.trans (Below.mono BB zw))) | (refine ⟨?_, ?_, ?_, ?_⟩; (focus (repeat (with_reducible first | apply (HBW.out.trans (Below.mono BB zw)) | apply Below.drew | (apply Below.setCell; rotate_left; (dsimp only; omega)) | (apply Below.alloc; rotate_left; (first | omega | (simp only [Hand.sa, Hand.ss, Hand.sd, Hand.sn]; omega)))))); (repeat (with_reducible first | exact (Below.cell BB (p := ⟨w.heap.size, 0, none⟩) z_A).trans (HK.out.1) | refine Hand.cell_alloc ?_ | refine Hand.cell_drew ?_ | refine Hand.cell_far (by omega) ?_)); (repeat (with_reducible first | exact (Below.cell BB (p := ⟨w.heap.size, 1, none⟩) z_A).trans (HK.out.2.1) | refine Hand.cell_alloc ?_ | refine Hand.cell_drew ?_ | refine Hand.cell_far (by omega) ?_)); (repeat (with_reducible first | exact (Below.cell BB (p := ⟨w.heap.size, 2, none⟩) z_A).trans (HK.out.2.2) | refine Hand.cell_alloc ?_ | refine Hand.cell_drew ?_ | refine Hand.cell_far (by omega) ?_)))) (first | (go_at_call 46; ((with_reducible refine (M4.out _ (tab_below HT3.out (by assumption))).mono ?_); rintro e w4 ⟨rfl, hb_⟩; have BB : Below w3.heap.size w3 w4 := Hand.stepB hb_ (by assumption) (Nat.le_refl _); have zB_w4 := Below.size BB; clear hb_)) | (go_at_call 46; ((with_reducible refine (M5.out _ (tab_below HT3.out (by assumption))).mono ?_); rintro e w5 ⟨rfl, hb_⟩; have BB : Below w3.heap.size w3 w5 := Hand.stepB hb_ (by assumption) (Nat.le_refl _); have zB_w5 := Below.size BB; clear hb_)) | (go_at_call 46; ((with_reducible refine (M6.out _ (tab_below HT3.out (by assumption))).mono ?_); rintro e w6 ⟨rfl, hb_⟩; have BB : Below w3.heap.size w3 w6 := Hand.stepB hb_ (by assumption) (Nat.le_refl _); have zB_w6 := Below.size BB; clear hb_)) | (go_at_call 47; ((with_reducible refine (M7.out _).mono ?_); rintro e w7 ⟨rfl, hb_⟩; have BB : Below w3.heap.size w3 w7 := Hand.stepB hb_ (by assumption) (Nat.le_refl _); have zB_w7 := Below.size BB; clear hb_)) | (go_at_call 48; ((with_reducible refine (M8.out _ (tab_below HT3.out (by assumption))).mono ?_); rintro e w8 ⟨rfl, hb_⟩; have BB : Below w3.heap.size w3 w8 := Hand.stepB hb_ (by assumption) (Nat.le_refl _); have zB_w8 := Below.size BB; clear hb_)) | (go_at_call 46; ((with_reducible refine (M9.out _ (tab_below HT3.out (by assumption))).mono ?_); rintro e w9 ⟨rfl, hb_⟩; have BB : Below w3.heap.size w3 w9 := Hand.stepB hb_ (by assumption) (Nat.le_refl _); have zB_w9 := Below.size BB; clear hb_)))
  go_wp2
  go_ret2
  obtain ⟨g_A, hB⟩ := HG.out
  exact ⟨rfl, hB.trans (Below.mono BB zw)⟩
end Go.Proofs.YtghiibdhibcbaaaDoor.PA
