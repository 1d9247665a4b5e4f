/- code: Clock. code: Clock told at all inputs. Texts of numbers, digit by digit. -/
import Derived.Test.YtghiibdhibcbaaaGreatDoorMC
import Derived.Deep.RegionHeld3
import Derived.Test.YtghiibdhibcbaaaGreatDoorMF
namespace Go.Proofs.YtghiibdhibcbaaaGreatDoor.PA
open Go Go.RowKit Go.Proofs.YtghiibdhibcbaaaGreatDoorW.PrintWords Go.Proofs.YtghiibdhibcbaaaGreatDoorW.PrintLast Go.Proofs.YtghiibdhibcbaaaGreatDoorW.PrintMore Go.Proofs.YtghiibdhibcbaaaGreatDoor.CS
set_option linter.unusedSimpArgs false
set_option linter.unusedVariables false
set_option maxHeartbeats 800000 in
set_option maxRecDepth 100000 in
theorem clock_kind (a b f : Int) (h1 : (f == 1) = false) (h2 : (f == 2) = false) (h4 : (f == 4) = false) (w : World) :
    Calls Tryz.prog 12 #[.int .i64 f, .agg #[.int .i64 a, .int .i64 b]] w fun e w' => e = .returned (.tuple #[.string ⟨#[]⟩, .int .i64 5]) ∧ Below w.heap.size w w' := by
  go_enter Tryz.func12, Tryz.ntmps12
  go_wp2
  all_goals (first | (go_quiet (fail)) | skip)
  go_wp2
  go_ret2
  exact ⟨rfl, bw (Below.refl _ _)⟩
set_option maxHeartbeats 800000 in
set_option maxRecDepth 100000 in
theorem clock_time1 (a b c : Int) (hc : (c == 0) = false) (w : World)
    (m1 : ∀ w, Calls Tryz.prog 35 #[.agg #[.int .i64 a, .int .i64 b]] w fun e w' => e = .returned (.int .i64 c) ∧ Below w.heap.size w w') :
    Calls Tryz.prog 12 #[.int .i64 1, .agg #[.int .i64 a, .int .i64 b]] w fun e w' => e = .returned (.tuple #[.string ⟨#[]⟩, .int .i64 c]) ∧ Below w.heap.size w w' := by
  have M1 := Lib.hid m1
  clear m1
  go_enter Tryz.func12, Tryz.ntmps12
  go_wp2_with fail
  with_reducible refine (M1.out _).mono ?_
  rintro e w1 ⟨rfl, hb1⟩
  have h_T : w1.heap[w.heap.size]? = some (.cells #[.int .i64 a, .int .i64 b] 30 (0, 0)) := by
    refine Hand.kb hb1 ?_; simp (disch := first | omega | (simp only [Hand.sa, Hand.ss, Hand.sd, Hand.sn]; first | done | omega)) only [Hand.q2, Hand.q1, Hand.q5, Hand.q6, Hand.q4, Hand.q3] <;> rfl
  have hB' : Below w.heap.size w w1 := Hand.stepB hb1 (by repeat (with_reducible first | apply Below.refl _ _ | apply Below.drew | apply pw_below_drewN | (apply Below.setCell; rotate_left; (dsimp only; omega)) | (apply Below.alloc; rotate_left; (first | omega | (simp only [Hand.sa, Hand.ss, Hand.sd, Hand.sn]; omega))))) (Nat.le_refl _)
  clear hb1
  have g_T := h_T
  have hB := hB'
  clear hB' h_T
  obtain ⟨z_T, z1_T, z2_T, y0_T, y1_T⟩ := Hand.hz g_T
  obtain ⟨c_T_0, f_T_0, c_T_1, f_T_1⟩ := Hand.hc2 g_T
  have zw : w.heap.size ≤ w1.heap.size := hB.size
  have HG := Lib.hid (And.intro g_T (hB))
  clear g_T hB
  go_wp2
  go_ret2
  obtain ⟨g_T, hB⟩ := HG.out
  exact ⟨rfl, hB⟩
set_option maxHeartbeats 800000 in
set_option maxRecDepth 100000 in
theorem clock_arg1 (a b : Int) (b0 : 1 ≤ b) (b1 : b ≤ 1048576) (hz : (1000 % b == 0) = false) (w : World)
    (m1 : ∀ w, Calls Tryz.prog 35 #[.agg #[.int .i64 a, .int .i64 b]] w fun e w' => e = .returned (.int .i64 0) ∧ Below w.heap.size w w') :
    Calls Tryz.prog 12 #[.int .i64 1, .agg #[.int .i64 a, .int .i64 b]] w fun e w' => e = .returned (.tuple #[.string ⟨#[]⟩, .int .i64 1]) ∧ Below w.heap.size w w' := by
  have hz1 : ¬ (1000 % b = 0) := by simpa using hz
  have hb2 : ¬ b = 0 := by omega
  have M1 := Lib.hid m1
  clear m1
  go_enter Tryz.func12, Tryz.ntmps12
  go_wp2_with fail
  with_reducible refine (M1.out _).mono ?_
  rintro e w1 ⟨rfl, hb1⟩
  have h_T : w1.heap[w.heap.size]? = some (.cells #[.int .i64 a, .int .i64 b] 30 (0, 0)) := by
    refine Hand.kb hb1 ?_; simp (disch := first | omega | (simp only [Hand.sa, Hand.ss, Hand.sd, Hand.sn]; first | done | omega)) only [Hand.q2, Hand.q1, Hand.q5, Hand.q6, Hand.q4, Hand.q3] <;> rfl
  have hB' : Below w.heap.size w w1 := Hand.stepB hb1 (by repeat (with_reducible first | apply Below.refl _ _ | apply Below.drew | apply pw_below_drewN | (apply Below.setCell; rotate_left; (dsimp only; omega)) | (apply Below.alloc; rotate_left; (first | omega | (simp only [Hand.sa, Hand.ss, Hand.sd, Hand.sn]; omega))))) (Nat.le_refl _)
  clear hb1
  have g_T := h_T
  have hB := hB'
  clear hB' h_T
  obtain ⟨z_T, z1_T, z2_T, y0_T, y1_T⟩ := Hand.hz g_T
  obtain ⟨c_T_0, f_T_0, c_T_1, f_T_1⟩ := Hand.hc2 g_T
  have zw : w.heap.size ≤ w1.heap.size := hB.size
  have HG := Lib.hid (And.intro g_T (hB))
  clear g_T hB
  go_wp2
  go_ret2
  obtain ⟨g_T, hB⟩ := HG.out
  exact ⟨rfl, hB⟩
set_option maxHeartbeats 800000 in
set_option maxRecDepth 100000 in
theorem clock_time2 (a b c : Int) (hc : (c == 0) = false) (w : World)
    (m1 : ∀ w, Calls Tryz.prog 35 #[.agg #[.int .i64 a, .int .i64 b]] w fun e w' => e = .returned (.int .i64 c) ∧ Below w.heap.size w w') :
    Calls Tryz.prog 12 #[.int .i64 2, .agg #[.int .i64 a, .int .i64 b]] w fun e w' => e = .returned (.tuple #[.string ⟨#[]⟩, .int .i64 c]) ∧ Below w.heap.size w w' := by
  have M1 := Lib.hid m1
  clear m1
  go_enter Tryz.func12, Tryz.ntmps12
  go_wp2_with fail
  with_reducible refine (M1.out _).mono ?_
  rintro e w1 ⟨rfl, hb1⟩
  have h_T : w1.heap[w.heap.size]? = some (.cells #[.int .i64 a, .int .i64 b] 30 (0, 0)) := by
    refine Hand.kb hb1 ?_; simp (disch := first | omega | (simp only [Hand.sa, Hand.ss, Hand.sd, Hand.sn]; first | done | omega)) only [Hand.q2, Hand.q1, Hand.q5, Hand.q6, Hand.q4, Hand.q3] <;> rfl
  have hB' : Below w.heap.size w w1 := Hand.stepB hb1 (by repeat (with_reducible first | apply Below.refl _ _ | apply Below.drew | apply pw_below_drewN | (apply Below.setCell; rotate_left; (dsimp only; omega)) | (apply Below.alloc; rotate_left; (first | omega | (simp only [Hand.sa, Hand.ss, Hand.sd, Hand.sn]; omega))))) (Nat.le_refl _)
  clear hb1
  have g_T := h_T
  have hB := hB'
  clear hB' h_T
  obtain ⟨z_T, z1_T, z2_T, y0_T, y1_T⟩ := Hand.hz g_T
  obtain ⟨c_T_0, f_T_0, c_T_1, f_T_1⟩ := Hand.hc2 g_T
  have zw : w.heap.size ≤ w1.heap.size := hB.size
  have HG := Lib.hid (And.intro g_T (hB))
  clear g_T hB
  go_wp2
  go_ret2
  obtain ⟨g_T, hB⟩ := HG.out
  exact ⟨rfl, hB⟩
set_option maxHeartbeats 800000 in
set_option maxRecDepth 100000 in
theorem clock_arg2 (a b : Int) (b0 : 1 ≤ b) (b1 : b ≤ 1048576) (hz : (1000 % b == 0) = false) (w : World)
    (m1 : ∀ w, Calls Tryz.prog 35 #[.agg #[.int .i64 a, .int .i64 b]] w fun e w' => e = .returned (.int .i64 0) ∧ Below w.heap.size w w') :
    Calls Tryz.prog 12 #[.int .i64 2, .agg #[.int .i64 a, .int .i64 b]] w fun e w' => e = .returned (.tuple #[.string ⟨#[]⟩, .int .i64 1]) ∧ Below w.heap.size w w' := by
  have hz1 : ¬ (1000 % b = 0) := by simpa using hz
  have hb2 : ¬ b = 0 := by omega
  have M1 := Lib.hid m1
  clear m1
  go_enter Tryz.func12, Tryz.ntmps12
  go_wp2_with fail
  with_reducible refine (M1.out _).mono ?_
  rintro e w1 ⟨rfl, hb1⟩
  have h_T : w1.heap[w.heap.size]? = some (.cells #[.int .i64 a, .int .i64 b] 30 (0, 0)) := by
    refine Hand.kb hb1 ?_; simp (disch := first | omega | (simp only [Hand.sa, Hand.ss, Hand.sd, Hand.sn]; first | done | omega)) only [Hand.q2, Hand.q1, Hand.q5, Hand.q6, Hand.q4, Hand.q3] <;> rfl
  have hB' : Below w.heap.size w w1 := Hand.stepB hb1 (by repeat (with_reducible first | apply Below.refl _ _ | apply Below.drew | apply pw_below_drewN | (apply Below.setCell; rotate_left; (dsimp only; omega)) | (apply Below.alloc; rotate_left; (first | omega | (simp only [Hand.sa, Hand.ss, Hand.sd, Hand.sn]; omega))))) (Nat.le_refl _)
  clear hb1
  have g_T := h_T
  have hB := hB'
  clear hB' h_T
  obtain ⟨z_T, z1_T, z2_T, y0_T, y1_T⟩ := Hand.hz g_T
  obtain ⟨c_T_0, f_T_0, c_T_1, f_T_1⟩ := Hand.hc2 g_T
  have zw : w.heap.size ≤ w1.heap.size := hB.size
  have HG := Lib.hid (And.intro g_T (hB))
  clear g_T hB
  go_wp2
  go_ret2
  obtain ⟨g_T, hB⟩ := HG.out
  exact ⟨rfl, hB⟩
set_option maxHeartbeats 800000 in
set_option maxRecDepth 100000 in
theorem clock_time4 (a b c : Int) (hc : (c == 0) = false) (w : World)
    (m1 : ∀ w, Calls Tryz.prog 35 #[.agg #[.int .i64 a, .int .i64 b]] w fun e w' => e = .returned (.int .i64 c) ∧ Below w.heap.size w w') :
    Calls Tryz.prog 12 #[.int .i64 4, .agg #[.int .i64 a, .int .i64 b]] w fun e w' => e = .returned (.tuple #[.string ⟨#[]⟩, .int .i64 c]) ∧ Below w.heap.size w w' := by
  have M1 := Lib.hid m1
  clear m1
  go_enter Tryz.func12, Tryz.ntmps12
  go_wp2_with fail
  with_reducible refine (M1.out _).mono ?_
  rintro e w1 ⟨rfl, hb1⟩
  have h_T : w1.heap[w.heap.size]? = some (.cells #[.int .i64 a, .int .i64 b] 30 (0, 0)) := by
    refine Hand.kb hb1 ?_; simp (disch := first | omega | (simp only [Hand.sa, Hand.ss, Hand.sd, Hand.sn]; first | done | omega)) only [Hand.q2, Hand.q1, Hand.q5, Hand.q6, Hand.q4, Hand.q3] <;> rfl
  have hB' : Below w.heap.size w w1 := Hand.stepB hb1 (by repeat (with_reducible first | apply Below.refl _ _ | apply Below.drew | apply pw_below_drewN | (apply Below.setCell; rotate_left; (dsimp only; omega)) | (apply Below.alloc; rotate_left; (first | omega | (simp only [Hand.sa, Hand.ss, Hand.sd, Hand.sn]; omega))))) (Nat.le_refl _)
  clear hb1
  have g_T := h_T
  have hB := hB'
  clear hB' h_T
  obtain ⟨z_T, z1_T, z2_T, y0_T, y1_T⟩ := Hand.hz g_T
  obtain ⟨c_T_0, f_T_0, c_T_1, f_T_1⟩ := Hand.hc2 g_T
  have zw : w.heap.size ≤ w1.heap.size := hB.size
  have HG := Lib.hid (And.intro g_T (hB))
  clear g_T hB
  go_wp2
  go_ret2
  obtain ⟨g_T, hB⟩ := HG.out
  exact ⟨rfl, hB⟩
set_option maxHeartbeats 800000 in
set_option maxRecDepth 100000 in
theorem clock_arg4 (a b : Int) (b0 : 1 ≤ b) (b1 : b ≤ 1048576) (hz : (100 % b == 0) = false) (w : World)
    (m1 : ∀ w, Calls Tryz.prog 35 #[.agg #[.int .i64 a, .int .i64 b]] w fun e w' => e = .returned (.int .i64 0) ∧ Below w.heap.size w w') :
    Calls Tryz.prog 12 #[.int .i64 4, .agg #[.int .i64 a, .int .i64 b]] w fun e w' => e = .returned (.tuple #[.string ⟨#[]⟩, .int .i64 1]) ∧ Below w.heap.size w w' := by
  have hz1 : ¬ (100 % b = 0) := by simpa using hz
  have hb2 : ¬ b = 0 := by omega
  have M1 := Lib.hid m1
  clear m1
  go_enter Tryz.func12, Tryz.ntmps12
  go_wp2_with fail
  with_reducible refine (M1.out _).mono ?_
  rintro e w1 ⟨rfl, hb1⟩
  have h_T : w1.heap[w.heap.size]? = some (.cells #[.int .i64 a, .int .i64 b] 30 (0, 0)) := by
    refine Hand.kb hb1 ?_; simp (disch := first | omega | (simp only [Hand.sa, Hand.ss, Hand.sd, Hand.sn]; first | done | omega)) only [Hand.q2, Hand.q1, Hand.q5, Hand.q6, Hand.q4, Hand.q3] <;> rfl
  have hB' : Below w.heap.size w w1 := Hand.stepB hb1 (by repeat (with_reducible first | apply Below.refl _ _ | apply Below.drew | apply pw_below_drewN | (apply Below.setCell; rotate_left; (dsimp only; omega)) | (apply Below.alloc; rotate_left; (first | omega | (simp only [Hand.sa, Hand.ss, Hand.sd, Hand.sn]; omega))))) (Nat.le_refl _)
  clear hb1
  have g_T := h_T
  have hB := hB'
  clear hB' h_T
  obtain ⟨z_T, z1_T, z2_T, y0_T, y1_T⟩ := Hand.hz g_T
  obtain ⟨c_T_0, f_T_0, c_T_1, f_T_1⟩ := Hand.hc2 g_T
  have zw : w.heap.size ≤ w1.heap.size := hB.size
  have HG := Lib.hid (And.intro g_T (hB))
  clear g_T hB
  go_wp2
  go_ret2
  obtain ⟨g_T, hB⟩ := HG.out
  exact ⟨rfl, hB⟩
set_option maxHeartbeats 800000 in
set_option maxRecDepth 100000 in
theorem clock_ok1 (a b q k s h m se rs : Int) (S1 S2 S3 S4 D : ByteArray) (b0 : 1 ≤ b) (b1 : b ≤ 1048576) (hz : (1000 % b == 0) = true) (hq : 1000 / b = q) (q0 : 0 ≤ q) (q1 : q ≤ 1000) (hk : a * q = k) (k0 : 0 ≤ k) (k1 : k ≤ 1000000000) (hs : k / 1000 = s) (s0 : 0 ≤ s) (s1 : s ≤ 1000000000) (hh : s / 3600 = h) (hm : s / 60 % 60 = m) (hse : s % 60 = se) (hrs : k % 1000 = rs)
    (q1 : S1.size ≤ 21) (q2 : S2.size ≤ 21) (q3 : S3.size ≤ 21) (q4 : S4.size ≤ 21) (hD : (D.size : Int) = 3) (w : World) (ht : TabN w)
    (m1 : ∀ w, Calls Tryz.prog 35 #[.agg #[.int .i64 a, .int .i64 b]] w fun e w' => e = .returned (.int .i64 0) ∧ Below w.heap.size w w')
    (m4 : ∀ w, TabN w → Calls Tryz.prog 36 #[.int .i64 h, .int .i64 2] w fun e w' => e = .returned (.string S1) ∧ Below w.heap.size w w')
    (m5 : ∀ w, TabN w → Calls Tryz.prog 36 #[.int .i64 m, .int .i64 2] w fun e w' => e = .returned (.string S2) ∧ Below w.heap.size w w')
    (m6 : ∀ w, TabN w → Calls Tryz.prog 36 #[.int .i64 se, .int .i64 2] w fun e w' => e = .returned (.string S3) ∧ Below w.heap.size w w')
    (m8 : ∀ w, TabN w → Calls Tryz.prog 37 #[.int .i64 999, .int .i64 10] w fun e w' => e = .returned (.string D) ∧ Below w.heap.size w w')
    (m9 : ∀ w, TabN w → Calls Tryz.prog 36 #[.int .i64 rs, .int .i64 3] w fun e w' => e = .returned (.string S4) ∧ Below w.heap.size w w') :
    Calls Tryz.prog 12 #[.int .i64 1, .agg #[.int .i64 a, .int .i64 b]] w fun e w' => e = .returned (.tuple #[.string (S1 ++ (⟨#[58]⟩ : ByteArray) ++ S2 ++ (⟨#[58]⟩ : ByteArray) ++ S3 ++ (⟨#[44]⟩ : ByteArray) ++ S4), .int .i64 0]) ∧ Below w.heap.size w w' := by
  have hz1 : 1000 % b = 0 := by simpa using hz
  have hb2 : ¬ b = 0 := by omega
  have HT0 := Lib.hid ht
  have M1 := Lib.hid m1
  have M4 := Lib.hid m4
  have M5 := Lib.hid m5
  have M6 := Lib.hid m6
  have M8 := Lib.hid m8
  have M9 := Lib.hid m9
  clear m1 m4 m5 m6 m8 m9 ht
  go_enter Tryz.func12, Tryz.ntmps12
  go_wp2_with fail
  with_reducible refine (M1.out _).mono ?_
  rintro e w1 ⟨rfl, hb1⟩
  have h_T : w1.heap[w.heap.size]? = some (.cells #[.int .i64 a, .int .i64 b] 30 (0, 0)) := by
    refine Hand.kb hb1 ?_; simp (disch := first | omega | (simp only [Hand.sa, Hand.ss, Hand.sd, Hand.sn]; first | done | omega)) only [Hand.q2, Hand.q1, Hand.q5, Hand.q6, Hand.q4, Hand.q3] <;> rfl
  have hB' : Below w.heap.size w w1 := Hand.stepB hb1 (by repeat (with_reducible first | apply Below.refl _ _ | apply Below.drew | apply pw_below_drewN | (apply Below.setCell; rotate_left; (dsimp only; omega)) | (apply Below.alloc; rotate_left; (first | omega | (simp only [Hand.sa, Hand.ss, Hand.sd, Hand.sn]; omega))))) (Nat.le_refl _)
  clear hb1
  have g_T := h_T
  have hB := hB'
  clear hB' h_T
  obtain ⟨z_T, z1_T, z2_T, y0_T, y1_T⟩ := Hand.hz g_T
  obtain ⟨c_T_0, f_T_0, c_T_1, f_T_1⟩ := Hand.hc2 g_T
  have zw : w.heap.size ≤ w1.heap.size := hB.size
  have HG := Lib.hid (And.intro g_T (hB))
  clear g_T hB
  go_wp2
  have f1 : IntKind.i64.wrap (Int.tdiv 1000 b) = q := by rw [Int.tdiv_eq_ediv_of_nonneg (by omega), hq, IntKind.wrap_i64]; omega
  have f2 : IntKind.i64.wrap (a * q) = k := by rw [hk, IntKind.wrap_i64]; omega
  go_quiet (fail)
  clear f1 f2
  go_wp2
  obtain ⟨g_T, hB⟩ := HG.out
  obtain ⟨W, hW⟩ : ∃ W_, W_ = w1.drewN nq := ⟨_, rfl⟩
  rw [← hW]
  have h_T : W.heap[w.heap.size]? = some (.cells #[.int .i64 a, .int .i64 b] 30 (0, 0)) := by
    rw [hW]
    first | (simp (disch := first | with_reducible assumption | (with_reducible first | exact Nat.ne_of_lt (by assumption) | exact Nat.ne_of_gt (by assumption) | exact Ne.symm (by assumption)) | ((fail_if_success (refine Hand.trip (by with_reducible rfl) ?_)); first | omega | (simp only [Hand.sa, Hand.ss, Hand.sd, Hand.sn]; first | done | with_reducible assumption | omega))) only [Hand.q2, Hand.q1, Hand.q5, Hand.q6, Hand.q4, Hand.q3, g_T]; done) | (simp (disch := first | with_reducible assumption | (with_reducible first | exact Nat.ne_of_lt (by assumption) | exact Nat.ne_of_gt (by assumption) | exact Ne.symm (by assumption)) | ((fail_if_success (refine Hand.trip (by with_reducible rfl) ?_)); first | omega | (simp only [Hand.sa, Hand.ss, Hand.sd, Hand.sn]; first | done | with_reducible assumption | omega))) only [Hand.q2, Hand.q1, Hand.q5, Hand.q6, Hand.q4, Hand.q3, g_T]; rfl)
  have hB' : Below w.heap.size w W := by
    rw [hW]
    repeat (first | exact hB | (with_reducible first | apply Below.drew | apply pw_below_drewN | refine Below.setCell ?_ (by dsimp only; omega) _ | refine Below.alloc ?_ (by first | omega | (simp only [Hand.sa, Hand.ss, Hand.sd, Hand.sn]; omega)) _))
  clear HG hB g_T zw z_T z1_T z2_T y0_T y1_T c_T_0 f_T_0 c_T_1 f_T_1
  clear hW
  have g_T := h_T
  have hB := hB'
  clear hB' h_T
  obtain ⟨z_T, z1_T, z2_T, y0_T, y1_T⟩ := Hand.hz g_T
  obtain ⟨c_T_0, f_T_0, c_T_1, f_T_1⟩ := Hand.hc2 g_T
  have zw : w.heap.size ≤ W.heap.size := hB.size
  have HG := Lib.hid (And.intro g_T (hB))
  clear g_T hB
  have e1 : IntKind.i64.wrap (s.tdiv 3600) = h := by rw [Int.tdiv_eq_ediv_of_nonneg s0, hh, IntKind.wrap_i64]; omega
  have e2 : (IntKind.i64.wrap (s.tdiv 60)).tmod 60 = m := by rw [Int.tdiv_eq_ediv_of_nonneg s0, show IntKind.i64.wrap (s / 60) = s / 60 by rw [IntKind.wrap_i64]; omega, Int.tmod_eq_emod_of_nonneg (by omega), hm]
  have e3 : s.tmod 60 = se := by rw [Int.tmod_eq_emod_of_nonneg s0, hse]
  have e4 : k.tmod 1000 = rs := by rw [Int.tmod_eq_emod_of_nonneg k0, hrs]
  have e5 : IntKind.i64.wrap 999 = 999 := by decide
  have hD2 : D.size = 3 := by omega
  have p0 : (9223372036854775807 < S1.size + 1) = False := eq_false (by omega)
  have p1 : (9223372036854775807 < S1.size + 1 + S2.size) = False := eq_false (by omega)
  have p2 : (9223372036854775807 < S1.size + 1 + S2.size + 1) = False := eq_false (by omega)
  have p3 : (9223372036854775807 < S1.size + 1 + S2.size + 1 + S3.size) = False := eq_false (by omega)
  have p4 : (9223372036854775807 < S1.size + 1 + S2.size + 1 + S3.size + 1) = False := eq_false (by omega)
  have p5 : (9223372036854775807 < S1.size + 1 + S2.size + 1 + S3.size + 1 + S4.size) = False := eq_false (by omega)
  have HT3 := Lib.hid (show TabN W from (tab_below HT0.out (HG.out.2)))
  have HBW := Lib.hid (HG.out.2)
  have HK := Lib.hid (And.intro c_T_0 (c_T_1))
  have BD : Below W.heap.size W W.drew := Below.drew (Below.refl _ _)
  have BR : Below W.heap.size W W := Below.refl _ _
  go_region_held3 (fun w_ => Below w.heap.size w w_ ∧ w_.cell? ⟨w.heap.size, 0, none⟩ = some (.int .i64 a) ∧ w_.cell? ⟨w.heap.size, 1, none⟩ = some (.int .i64 b)) (first | with_reducible (refine ⟨?_, (Below.cell BR (p := ⟨w.heap.size, 0, none⟩) z_T).trans (HK.out.1), (Below.cell BR (p := ⟨w.heap.size, 1, none⟩) z_T).trans (HK.out.2)⟩; apply (HBW.out.trans (Below.mono BR zw))) | with_reducible (refine ⟨?_, (Below.cell BD (p := ⟨w.heap.size, 0, none⟩) z_T).trans (HK.out.1), (Below.cell BD (p := ⟨w.heap.size, 1, none⟩) z_T).trans (HK.out.2)⟩; apply (HBW.out.trans (Below.mono BD zw))) | with_reducible (refine ⟨?_, (Below.cell BB (p := ⟨w.heap.size, 0, none⟩) z_T).trans (HK.out.1), (Below.cell BB (p := ⟨w.heap.size, 1, none⟩) z_T).trans (HK.out.2)⟩; apply (HBW.out.trans (Below.mono BB zw))) | (refine ⟨?_, ?_, ?_⟩; (focus (repeat (with_reducible first | apply (HBW.out.trans (Below.mono BB zw)) | apply Below.drew | (apply Below.setCell; rotate_left; (dsimp only; omega)) | (apply Below.alloc; rotate_left; (first | omega | (simp only [Hand.sa, Hand.ss, Hand.sd, Hand.sn]; omega)))))); (repeat (with_reducible first | exact (Below.cell BB (p := ⟨w.heap.size, 0, none⟩) z_T).trans (HK.out.1) | refine Hand.cell_alloc ?_ | refine Hand.cell_drew ?_ | refine Hand.cell_far (by omega) ?_)); (repeat (with_reducible first | exact (Below.cell BB (p := ⟨w.heap.size, 1, none⟩) z_T).trans (HK.out.2) | refine Hand.cell_alloc ?_ | refine Hand.cell_drew ?_ | refine Hand.cell_far (by omega) ?_)))) (first | (go_at_call 36; ((with_reducible refine (M4.out _ (tab_below HT3.out (by assumption))).mono ?_); rintro e w4 ⟨rfl, hb_⟩; have BB : Below W.heap.size W w4 := Hand.stepB hb_ (by assumption) (Nat.le_refl _); have zB_w4 := Below.size BB; clear hb_)) | (go_at_call 36; ((with_reducible refine (M5.out _ (tab_below HT3.out (by assumption))).mono ?_); rintro e w5 ⟨rfl, hb_⟩; have BB : Below W.heap.size W w5 := Hand.stepB hb_ (by assumption) (Nat.le_refl _); have zB_w5 := Below.size BB; clear hb_)) | (go_at_call 36; ((with_reducible refine (M6.out _ (tab_below HT3.out (by assumption))).mono ?_); rintro e w6 ⟨rfl, hb_⟩; have BB : Below W.heap.size W w6 := Hand.stepB hb_ (by assumption) (Nat.le_refl _); have zB_w6 := Below.size BB; clear hb_)) | (go_at_call 37; ((with_reducible refine (M8.out _ (tab_below HT3.out (by assumption))).mono ?_); rintro e w8 ⟨rfl, hb_⟩; have BB : Below W.heap.size W w8 := Hand.stepB hb_ (by assumption) (Nat.le_refl _); have zB_w8 := Below.size BB; clear hb_)) | (go_at_call 36; ((with_reducible refine (M9.out _ (tab_below HT3.out (by assumption))).mono ?_); rintro e w9 ⟨rfl, hb_⟩; have BB : Below W.heap.size W w9 := Hand.stepB hb_ (by assumption) (Nat.le_refl _); have zB_w9 := Below.size BB; clear hb_)))
  go_wp2
  go_ret2
  obtain ⟨g_T, hB⟩ := HG.out
  exact ⟨rfl, hB.trans (Below.mono BB zw)⟩
set_option maxHeartbeats 800000 in
set_option maxRecDepth 100000 in
theorem clock_ok2 (a b q k s h m se rs : Int) (S1 S2 S3 S4 D : ByteArray) (b0 : 1 ≤ b) (b1 : b ≤ 1048576) (hz : (1000 % b == 0) = true) (hq : 1000 / b = q) (q0 : 0 ≤ q) (q1 : q ≤ 1000) (hk : a * q = k) (k0 : 0 ≤ k) (k1 : k ≤ 1000000000) (hs : k / 1000 = s) (s0 : 0 ≤ s) (s1 : s ≤ 1000000000) (hh : s / 3600 = h) (hm : s / 60 % 60 = m) (hse : s % 60 = se) (hrs : k % 1000 = rs)
    (q1 : S1.size ≤ 21) (q2 : S2.size ≤ 21) (q3 : S3.size ≤ 21) (q4 : S4.size ≤ 21) (hD : (D.size : Int) = 3) (w : World) (ht : TabN w)
    (m1 : ∀ w, Calls Tryz.prog 35 #[.agg #[.int .i64 a, .int .i64 b]] w fun e w' => e = .returned (.int .i64 0) ∧ Below w.heap.size w w')
    (m4 : ∀ w, TabN w → Calls Tryz.prog 36 #[.int .i64 h, .int .i64 2] w fun e w' => e = .returned (.string S1) ∧ Below w.heap.size w w')
    (m5 : ∀ w, TabN w → Calls Tryz.prog 36 #[.int .i64 m, .int .i64 2] w fun e w' => e = .returned (.string S2) ∧ Below w.heap.size w w')
    (m6 : ∀ w, TabN w → Calls Tryz.prog 36 #[.int .i64 se, .int .i64 2] w fun e w' => e = .returned (.string S3) ∧ Below w.heap.size w w')
    (m8 : ∀ w, TabN w → Calls Tryz.prog 37 #[.int .i64 999, .int .i64 10] w fun e w' => e = .returned (.string D) ∧ Below w.heap.size w w')
    (m9 : ∀ w, TabN w → Calls Tryz.prog 36 #[.int .i64 rs, .int .i64 3] w fun e w' => e = .returned (.string S4) ∧ Below w.heap.size w w') :
    Calls Tryz.prog 12 #[.int .i64 2, .agg #[.int .i64 a, .int .i64 b]] w fun e w' => e = .returned (.tuple #[.string (S1 ++ (⟨#[58]⟩ : ByteArray) ++ S2 ++ (⟨#[58]⟩ : ByteArray) ++ S3 ++ (⟨#[46]⟩ : ByteArray) ++ S4), .int .i64 0]) ∧ Below w.heap.size w w' := by
  have hz1 : 1000 % b = 0 := by simpa using hz
  have hb2 : ¬ b = 0 := by omega
  have HT0 := Lib.hid ht
  have M1 := Lib.hid m1
  have M4 := Lib.hid m4
  have M5 := Lib.hid m5
  have M6 := Lib.hid m6
  have M8 := Lib.hid m8
  have M9 := Lib.hid m9
  clear m1 m4 m5 m6 m8 m9 ht
  go_enter Tryz.func12, Tryz.ntmps12
  go_wp2_with fail
  with_reducible refine (M1.out _).mono ?_
  rintro e w1 ⟨rfl, hb1⟩
  have h_T : w1.heap[w.heap.size]? = some (.cells #[.int .i64 a, .int .i64 b] 30 (0, 0)) := by
    refine Hand.kb hb1 ?_; simp (disch := first | omega | (simp only [Hand.sa, Hand.ss, Hand.sd, Hand.sn]; first | done | omega)) only [Hand.q2, Hand.q1, Hand.q5, Hand.q6, Hand.q4, Hand.q3] <;> rfl
  have hB' : Below w.heap.size w w1 := Hand.stepB hb1 (by repeat (with_reducible first | apply Below.refl _ _ | apply Below.drew | apply pw_below_drewN | (apply Below.setCell; rotate_left; (dsimp only; omega)) | (apply Below.alloc; rotate_left; (first | omega | (simp only [Hand.sa, Hand.ss, Hand.sd, Hand.sn]; omega))))) (Nat.le_refl _)
  clear hb1
  have g_T := h_T
  have hB := hB'
  clear hB' h_T
  obtain ⟨z_T, z1_T, z2_T, y0_T, y1_T⟩ := Hand.hz g_T
  obtain ⟨c_T_0, f_T_0, c_T_1, f_T_1⟩ := Hand.hc2 g_T
  have zw : w.heap.size ≤ w1.heap.size := hB.size
  have HG := Lib.hid (And.intro g_T (hB))
  clear g_T hB
  go_wp2
  have f1 : IntKind.i64.wrap (Int.tdiv 1000 b) = q := by rw [Int.tdiv_eq_ediv_of_nonneg (by omega), hq, IntKind.wrap_i64]; omega
  have f2 : IntKind.i64.wrap (a * q) = k := by rw [hk, IntKind.wrap_i64]; omega
  go_quiet (fail)
  clear f1 f2
  go_wp2
  obtain ⟨g_T, hB⟩ := HG.out
  obtain ⟨W, hW⟩ : ∃ W_, W_ = w1.drewN nq := ⟨_, rfl⟩
  rw [← hW]
  have h_T : W.heap[w.heap.size]? = some (.cells #[.int .i64 a, .int .i64 b] 30 (0, 0)) := by
    rw [hW]
    first | (simp (disch := first | with_reducible assumption | (with_reducible first | exact Nat.ne_of_lt (by assumption) | exact Nat.ne_of_gt (by assumption) | exact Ne.symm (by assumption)) | ((fail_if_success (refine Hand.trip (by with_reducible rfl) ?_)); first | omega | (simp only [Hand.sa, Hand.ss, Hand.sd, Hand.sn]; first | done | with_reducible assumption | omega))) only [Hand.q2, Hand.q1, Hand.q5, Hand.q6, Hand.q4, Hand.q3, g_T]; done) | (simp (disch := first | with_reducible assumption | (with_reducible first | exact Nat.ne_of_lt (by assumption) | exact Nat.ne_of_gt (by assumption) | exact Ne.symm (by assumption)) | ((fail_if_success (refine Hand.trip (by with_reducible rfl) ?_)); first | omega | (simp only [Hand.sa, Hand.ss, Hand.sd, Hand.sn]; first | done | with_reducible assumption | omega))) only [Hand.q2, Hand.q1, Hand.q5, Hand.q6, Hand.q4, Hand.q3, g_T]; rfl)
  have hB' : Below w.heap.size w W := by
    rw [hW]
    repeat (first | exact hB | (with_reducible first | apply Below.drew | apply pw_below_drewN | refine Below.setCell ?_ (by dsimp only; omega) _ | refine Below.alloc ?_ (by first | omega | (simp only [Hand.sa, Hand.ss, Hand.sd, Hand.sn]; omega)) _))
  clear HG hB g_T zw z_T z1_T z2_T y0_T y1_T c_T_0 f_T_0 c_T_1 f_T_1
  clear hW
  have g_T := h_T
  have hB := hB'
  clear hB' h_T
  obtain ⟨z_T, z1_T, z2_T, y0_T, y1_T⟩ := Hand.hz g_T
  obtain ⟨c_T_0, f_T_0, c_T_1, f_T_1⟩ := Hand.hc2 g_T
  have zw : w.heap.size ≤ W.heap.size := hB.size
  have HG := Lib.hid (And.intro g_T (hB))
  clear g_T hB
  have e1 : IntKind.i64.wrap (s.tdiv 3600) = h := by rw [Int.tdiv_eq_ediv_of_nonneg s0, hh, IntKind.wrap_i64]; omega
  have e2 : (IntKind.i64.wrap (s.tdiv 60)).tmod 60 = m := by rw [Int.tdiv_eq_ediv_of_nonneg s0, show IntKind.i64.wrap (s / 60) = s / 60 by rw [IntKind.wrap_i64]; omega, Int.tmod_eq_emod_of_nonneg (by omega), hm]
  have e3 : s.tmod 60 = se := by rw [Int.tmod_eq_emod_of_nonneg s0, hse]
  have e4 : k.tmod 1000 = rs := by rw [Int.tmod_eq_emod_of_nonneg k0, hrs]
  have e5 : IntKind.i64.wrap 999 = 999 := by decide
  have hD2 : D.size = 3 := by omega
  have p0 : (9223372036854775807 < S1.size + 1) = False := eq_false (by omega)
  have p1 : (9223372036854775807 < S1.size + 1 + S2.size) = False := eq_false (by omega)
  have p2 : (9223372036854775807 < S1.size + 1 + S2.size + 1) = False := eq_false (by omega)
  have p3 : (9223372036854775807 < S1.size + 1 + S2.size + 1 + S3.size) = False := eq_false (by omega)
  have p4 : (9223372036854775807 < S1.size + 1 + S2.size + 1 + S3.size + 1) = False := eq_false (by omega)
  have p5 : (9223372036854775807 < S1.size + 1 + S2.size + 1 + S3.size + 1 + S4.size) = False := eq_false (by omega)
  have HT3 := Lib.hid (show TabN W from (tab_below HT0.out (HG.out.2)))
  have HBW := Lib.hid (HG.out.2)
  have HK := Lib.hid (And.intro c_T_0 (c_T_1))
  have BD : Below W.heap.size W W.drew := Below.drew (Below.refl _ _)
  have BR : Below W.heap.size W W := Below.refl _ _
  go_region_held3 (fun w_ => Below w.heap.size w w_ ∧ w_.cell? ⟨w.heap.size, 0, none⟩ = some (.int .i64 a) ∧ w_.cell? ⟨w.heap.size, 1, none⟩ = some (.int .i64 b)) (first | with_reducible (refine ⟨?_, (Below.cell BR (p := ⟨w.heap.size, 0, none⟩) z_T).trans (HK.out.1), (Below.cell BR (p := ⟨w.heap.size, 1, none⟩) z_T).trans (HK.out.2)⟩; apply (HBW.out.trans (Below.mono BR zw))) | with_reducible (refine ⟨?_, (Below.cell BD (p := ⟨w.heap.size, 0, none⟩) z_T).trans (HK.out.1), (Below.cell BD (p := ⟨w.heap.size, 1, none⟩) z_T).trans (HK.out.2)⟩; apply (HBW.out.trans (Below.mono BD zw))) | with_reducible (refine ⟨?_, (Below.cell BB (p := ⟨w.heap.size, 0, none⟩) z_T).trans (HK.out.1), (Below.cell BB (p := ⟨w.heap.size, 1, none⟩) z_T).trans (HK.out.2)⟩; apply (HBW.out.trans (Below.mono BB zw))) | (refine ⟨?_, ?_, ?_⟩; (focus (repeat (with_reducible first | apply (HBW.out.trans (Below.mono BB zw)) | apply Below.drew | (apply Below.setCell; rotate_left; (dsimp only; omega)) | (apply Below.alloc; rotate_left; (first | omega | (simp only [Hand.sa, Hand.ss, Hand.sd, Hand.sn]; omega)))))); (repeat (with_reducible first | exact (Below.cell BB (p := ⟨w.heap.size, 0, none⟩) z_T).trans (HK.out.1) | refine Hand.cell_alloc ?_ | refine Hand.cell_drew ?_ | refine Hand.cell_far (by omega) ?_)); (repeat (with_reducible first | exact (Below.cell BB (p := ⟨w.heap.size, 1, none⟩) z_T).trans (HK.out.2) | refine Hand.cell_alloc ?_ | refine Hand.cell_drew ?_ | refine Hand.cell_far (by omega) ?_)))) (first | (go_at_call 36; ((with_reducible refine (M4.out _ (tab_below HT3.out (by assumption))).mono ?_); rintro e w4 ⟨rfl, hb_⟩; have BB : Below W.heap.size W w4 := Hand.stepB hb_ (by assumption) (Nat.le_refl _); have zB_w4 := Below.size BB; clear hb_)) | (go_at_call 36; ((with_reducible refine (M5.out _ (tab_below HT3.out (by assumption))).mono ?_); rintro e w5 ⟨rfl, hb_⟩; have BB : Below W.heap.size W w5 := Hand.stepB hb_ (by assumption) (Nat.le_refl _); have zB_w5 := Below.size BB; clear hb_)) | (go_at_call 36; ((with_reducible refine (M6.out _ (tab_below HT3.out (by assumption))).mono ?_); rintro e w6 ⟨rfl, hb_⟩; have BB : Below W.heap.size W w6 := Hand.stepB hb_ (by assumption) (Nat.le_refl _); have zB_w6 := Below.size BB; clear hb_)) | (go_at_call 37; ((with_reducible refine (M8.out _ (tab_below HT3.out (by assumption))).mono ?_); rintro e w8 ⟨rfl, hb_⟩; have BB : Below W.heap.size W w8 := Hand.stepB hb_ (by assumption) (Nat.le_refl _); have zB_w8 := Below.size BB; clear hb_)) | (go_at_call 36; ((with_reducible refine (M9.out _ (tab_below HT3.out (by assumption))).mono ?_); rintro e w9 ⟨rfl, hb_⟩; have BB : Below W.heap.size W w9 := Hand.stepB hb_ (by assumption) (Nat.le_refl _); have zB_w9 := Below.size BB; clear hb_)))
  go_wp2
  go_ret2
  obtain ⟨g_T, hB⟩ := HG.out
  exact ⟨rfl, hB.trans (Below.mono BB zw)⟩
set_option maxHeartbeats 800000 in
set_option maxRecDepth 100000 in
theorem clock_ok4 (a b q k s h m se rs : Int) (S1 S2 S3 S4 D : ByteArray) (b0 : 1 ≤ b) (b1 : b ≤ 1048576) (hz : (100 % b == 0) = true) (hq : 100 / b = q) (q0 : 0 ≤ q) (q1 : q ≤ 1000) (hk : a * q = k) (k0 : 0 ≤ k) (k1 : k ≤ 1000000000) (hs : k / 100 = s) (s0 : 0 ≤ s) (s1 : s ≤ 1000000000) (hh : s / 3600 = h) (hm : s / 60 % 60 = m) (hse : s % 60 = se) (hrs : k % 100 = rs)
    (q1 : S1.size ≤ 21) (q2 : S2.size ≤ 21) (q3 : S3.size ≤ 21) (q4 : S4.size ≤ 21) (hD : (D.size : Int) = 2) (w : World) (ht : TabN w)
    (m1 : ∀ w, Calls Tryz.prog 35 #[.agg #[.int .i64 a, .int .i64 b]] w fun e w' => e = .returned (.int .i64 0) ∧ Below w.heap.size w w')
    (m4 : ∀ w, TabN w → Calls Tryz.prog 36 #[.int .i64 h, .int .i64 1] w fun e w' => e = .returned (.string S1) ∧ Below w.heap.size w w')
    (m5 : ∀ w, TabN w → Calls Tryz.prog 36 #[.int .i64 m, .int .i64 2] w fun e w' => e = .returned (.string S2) ∧ Below w.heap.size w w')
    (m6 : ∀ w, TabN w → Calls Tryz.prog 36 #[.int .i64 se, .int .i64 2] w fun e w' => e = .returned (.string S3) ∧ Below w.heap.size w w')
    (m8 : ∀ w, TabN w → Calls Tryz.prog 37 #[.int .i64 99, .int .i64 10] w fun e w' => e = .returned (.string D) ∧ Below w.heap.size w w')
    (m9 : ∀ w, TabN w → Calls Tryz.prog 36 #[.int .i64 rs, .int .i64 2] w fun e w' => e = .returned (.string S4) ∧ Below w.heap.size w w') :
    Calls Tryz.prog 12 #[.int .i64 4, .agg #[.int .i64 a, .int .i64 b]] w fun e w' => e = .returned (.tuple #[.string (S1 ++ (⟨#[58]⟩ : ByteArray) ++ S2 ++ (⟨#[58]⟩ : ByteArray) ++ S3 ++ (⟨#[46]⟩ : ByteArray) ++ S4), .int .i64 0]) ∧ Below w.heap.size w w' := by
  have hz1 : 100 % b = 0 := by simpa using hz
  have hb2 : ¬ b = 0 := by omega
  have HT0 := Lib.hid ht
  have M1 := Lib.hid m1
  have M4 := Lib.hid m4
  have M5 := Lib.hid m5
  have M6 := Lib.hid m6
  have M8 := Lib.hid m8
  have M9 := Lib.hid m9
  clear m1 m4 m5 m6 m8 m9 ht
  go_enter Tryz.func12, Tryz.ntmps12
  go_wp2_with fail
  with_reducible refine (M1.out _).mono ?_
  rintro e w1 ⟨rfl, hb1⟩
  have h_T : w1.heap[w.heap.size]? = some (.cells #[.int .i64 a, .int .i64 b] 30 (0, 0)) := by
    refine Hand.kb hb1 ?_; simp (disch := first | omega | (simp only [Hand.sa, Hand.ss, Hand.sd, Hand.sn]; first | done | omega)) only [Hand.q2, Hand.q1, Hand.q5, Hand.q6, Hand.q4, Hand.q3] <;> rfl
  have hB' : Below w.heap.size w w1 := Hand.stepB hb1 (by repeat (with_reducible first | apply Below.refl _ _ | apply Below.drew | apply pw_below_drewN | (apply Below.setCell; rotate_left; (dsimp only; omega)) | (apply Below.alloc; rotate_left; (first | omega | (simp only [Hand.sa, Hand.ss, Hand.sd, Hand.sn]; omega))))) (Nat.le_refl _)
  clear hb1
  have g_T := h_T
  have hB := hB'
  clear hB' h_T
  obtain ⟨z_T, z1_T, z2_T, y0_T, y1_T⟩ := Hand.hz g_T
  obtain ⟨c_T_0, f_T_0, c_T_1, f_T_1⟩ := Hand.hc2 g_T
  have zw : w.heap.size ≤ w1.heap.size := hB.size
  have HG := Lib.hid (And.intro g_T (hB))
  clear g_T hB
  go_wp2
  have f1 : IntKind.i64.wrap (Int.tdiv 100 b) = q := by rw [Int.tdiv_eq_ediv_of_nonneg (by omega), hq, IntKind.wrap_i64]; omega
  have f2 : IntKind.i64.wrap (a * q) = k := by rw [hk, IntKind.wrap_i64]; omega
  go_quiet (fail)
  clear f1 f2
  go_wp2
  obtain ⟨g_T, hB⟩ := HG.out
  obtain ⟨W, hW⟩ : ∃ W_, W_ = w1.drewN nq := ⟨_, rfl⟩
  rw [← hW]
  have h_T : W.heap[w.heap.size]? = some (.cells #[.int .i64 a, .int .i64 b] 30 (0, 0)) := by
    rw [hW]
    first | (simp (disch := first | with_reducible assumption | (with_reducible first | exact Nat.ne_of_lt (by assumption) | exact Nat.ne_of_gt (by assumption) | exact Ne.symm (by assumption)) | ((fail_if_success (refine Hand.trip (by with_reducible rfl) ?_)); first | omega | (simp only [Hand.sa, Hand.ss, Hand.sd, Hand.sn]; first | done | with_reducible assumption | omega))) only [Hand.q2, Hand.q1, Hand.q5, Hand.q6, Hand.q4, Hand.q3, g_T]; done) | (simp (disch := first | with_reducible assumption | (with_reducible first | exact Nat.ne_of_lt (by assumption) | exact Nat.ne_of_gt (by assumption) | exact Ne.symm (by assumption)) | ((fail_if_success (refine Hand.trip (by with_reducible rfl) ?_)); first | omega | (simp only [Hand.sa, Hand.ss, Hand.sd, Hand.sn]; first | done | with_reducible assumption | omega))) only [Hand.q2, Hand.q1, Hand.q5, Hand.q6, Hand.q4, Hand.q3, g_T]; rfl)
  have hB' : Below w.heap.size w W := by
    rw [hW]
    repeat (first | exact hB | (with_reducible first | apply Below.drew | apply pw_below_drewN | refine Below.setCell ?_ (by dsimp only; omega) _ | refine Below.alloc ?_ (by first | omega | (simp only [Hand.sa, Hand.ss, Hand.sd, Hand.sn]; omega)) _))
  clear HG hB g_T zw z_T z1_T z2_T y0_T y1_T c_T_0 f_T_0 c_T_1 f_T_1
  clear hW
  have g_T := h_T
  have hB := hB'
  clear hB' h_T
  obtain ⟨z_T, z1_T, z2_T, y0_T, y1_T⟩ := Hand.hz g_T
  obtain ⟨c_T_0, f_T_0, c_T_1, f_T_1⟩ := Hand.hc2 g_T
  have zw : w.heap.size ≤ W.heap.size := hB.size
  have HG := Lib.hid (And.intro g_T (hB))
  clear g_T hB
  have e1 : IntKind.i64.wrap (s.tdiv 3600) = h := by rw [Int.tdiv_eq_ediv_of_nonneg s0, hh, IntKind.wrap_i64]; omega
  have e2 : (IntKind.i64.wrap (s.tdiv 60)).tmod 60 = m := by rw [Int.tdiv_eq_ediv_of_nonneg s0, show IntKind.i64.wrap (s / 60) = s / 60 by rw [IntKind.wrap_i64]; omega, Int.tmod_eq_emod_of_nonneg (by omega), hm]
  have e3 : s.tmod 60 = se := by rw [Int.tmod_eq_emod_of_nonneg s0, hse]
  have e4 : k.tmod 100 = rs := by rw [Int.tmod_eq_emod_of_nonneg k0, hrs]
  have e5 : IntKind.i64.wrap 99 = 99 := by decide
  have hD2 : D.size = 2 := by omega
  have p0 : (9223372036854775807 < S1.size + 1) = False := eq_false (by omega)
  have p1 : (9223372036854775807 < S1.size + 1 + S2.size) = False := eq_false (by omega)
  have p2 : (9223372036854775807 < S1.size + 1 + S2.size + 1) = False := eq_false (by omega)
  have p3 : (9223372036854775807 < S1.size + 1 + S2.size + 1 + S3.size) = False := eq_false (by omega)
  have p4 : (9223372036854775807 < S1.size + 1 + S2.size + 1 + S3.size + 1) = False := eq_false (by omega)
  have p5 : (9223372036854775807 < S1.size + 1 + S2.size + 1 + S3.size + 1 + S4.size) = False := eq_false (by omega)
  have HT3 := Lib.hid (show TabN W from (tab_below HT0.out (HG.out.2)))
  have HBW := Lib.hid (HG.out.2)
  have HK := Lib.hid (And.intro c_T_0 (c_T_1))
  have BD : Below W.heap.size W W.drew := Below.drew (Below.refl _ _)
  have BR : Below W.heap.size W W := Below.refl _ _
  go_region_held3 (fun w_ => Below w.heap.size w w_ ∧ w_.cell? ⟨w.heap.size, 0, none⟩ = some (.int .i64 a) ∧ w_.cell? ⟨w.heap.size, 1, none⟩ = some (.int .i64 b)) (first | with_reducible (refine ⟨?_, (Below.cell BR (p := ⟨w.heap.size, 0, none⟩) z_T).trans (HK.out.1), (Below.cell BR (p := ⟨w.heap.size, 1, none⟩) z_T).trans (HK.out.2)⟩; apply (HBW.out.trans (Below.mono BR zw))) | with_reducible (refine ⟨?_, (Below.cell BD (p := ⟨w.heap.size, 0, none⟩) z_T).trans (HK.out.1), (Below.cell BD (p := ⟨w.heap.size, 1, none⟩) z_T).trans (HK.out.2)⟩; apply (HBW.out.trans (Below.mono BD zw))) | with_reducible (refine ⟨?_, (Below.cell BB (p := ⟨w.heap.size, 0, none⟩) z_T).trans (HK.out.1), (Below.cell BB (p := ⟨w.heap.size, 1, none⟩) z_T).trans (HK.out.2)⟩; apply (HBW.out.trans (Below.mono BB zw))) | (refine ⟨?_, ?_, ?_⟩; (focus (repeat (with_reducible first | apply (HBW.out.trans (Below.mono BB zw)) | apply Below.drew | (apply Below.setCell; rotate_left; (dsimp only; omega)) | (apply Below.alloc; rotate_left; (first | omega | (simp only [Hand.sa, Hand.ss, Hand.sd, Hand.sn]; omega)))))); (repeat (with_reducible first | exact (Below.cell BB (p := ⟨w.heap.size, 0, none⟩) z_T).trans (HK.out.1) | refine Hand.cell_alloc ?_ | refine Hand.cell_drew ?_ | refine Hand.cell_far (by omega) ?_)); (repeat (with_reducible first | exact (Below.cell BB (p := ⟨w.heap.size, 1, none⟩) z_T).trans (HK.out.2) | refine Hand.cell_alloc ?_ | refine Hand.cell_drew ?_ | refine Hand.cell_far (by omega) ?_)))) (first | (go_at_call 36; ((with_reducible refine (M4.out _ (tab_below HT3.out (by assumption))).mono ?_); rintro e w4 ⟨rfl, hb_⟩; have BB : Below W.heap.size W w4 := Hand.stepB hb_ (by assumption) (Nat.le_refl _); have zB_w4 := Below.size BB; clear hb_)) | (go_at_call 36; ((with_reducible refine (M5.out _ (tab_below HT3.out (by assumption))).mono ?_); rintro e w5 ⟨rfl, hb_⟩; have BB : Below W.heap.size W w5 := Hand.stepB hb_ (by assumption) (Nat.le_refl _); have zB_w5 := Below.size BB; clear hb_)) | (go_at_call 36; ((with_reducible refine (M6.out _ (tab_below HT3.out (by assumption))).mono ?_); rintro e w6 ⟨rfl, hb_⟩; have BB : Below W.heap.size W w6 := Hand.stepB hb_ (by assumption) (Nat.le_refl _); have zB_w6 := Below.size BB; clear hb_)) | (go_at_call 37; ((with_reducible refine (M8.out _ (tab_below HT3.out (by assumption))).mono ?_); rintro e w8 ⟨rfl, hb_⟩; have BB : Below W.heap.size W w8 := Hand.stepB hb_ (by assumption) (Nat.le_refl _); have zB_w8 := Below.size BB; clear hb_)) | (go_at_call 36; ((with_reducible refine (M9.out _ (tab_below HT3.out (by assumption))).mono ?_); rintro e w9 ⟨rfl, hb_⟩; have BB : Below W.heap.size W w9 := Hand.stepB hb_ (by assumption) (Nat.le_refl _); have zB_w9 := Below.size BB; clear hb_)))
  go_wp2
  go_ret2
  obtain ⟨g_T, hB⟩ := HG.out
  exact ⟨rfl, hB.trans (Below.mono BB zw)⟩
end Go.Proofs.YtghiibdhibcbaaaGreatDoor.PA
namespace Go.Proofs.YtghiibdhibcbaaaGreatDoor.PA
open Go Go.RowKit Go.Proofs.YtghiibdhibcbaaaGreatDoor.CS
set_option linter.unusedSimpArgs false
set_option linter.unusedVariables false
/-- how many parts a format's second has; 0: it has no clocks -/
def partsOf (f : Int) : Int := if f = 1 then 1000 else if f = 2 then 1000 else if f = 4 then 100 else 0
def pointOf (f : Int) : UInt8 := if f = 1 then 44 else 46
def leastOf (f : Int) : Nat := if f = 4 then 1 else 2
def widthOf (f : Int) : Nat := if f = 4 then 2 else 3
def clkT (f : Int) (h m s k : Int) : List UInt8 := digL h (leastOf f) ++ 58 :: (digL m 2 ++ 58 :: (digL s 2 ++ pointOf f :: digL k (widthOf f)))
def clkL (f k : Int) : List UInt8 := clkT f (k / partsOf f / 3600) (k / partsOf f / 60 % 60) (k / partsOf f % 60) (k % partsOf f)
def clkS (f a b : Int) : List UInt8 × Int :=
  if partsOf f = 0 then ([], 5) else if timeS a b = 0 then (if partsOf f % b = 0 then (clkL f (a * (partsOf f / b)), 0) else ([], 1)) else ([], timeS a b)
theorem clk_le {G a b : Int} (hG : 1 ≤ G) (hG2 : G ≤ 1000) (h : timeS a b = 0) (hz : G % b = 0) : 0 ≤ G / b ∧ G / b ≤ 1000 ∧ 0 ≤ a * (G / b) ∧ a * (G / b) ≤ 360000 * G := by
  obtain ⟨_, b1, _, a0, a1⟩ := timeS_le h
  have q0 : 0 ≤ G / b := Int.ediv_nonneg (by omega) (by omega)
  have q1 : G / b ≤ G := Int.ediv_le_self _ (by omega)
  have e : b * (G / b) = G := Int.mul_ediv_cancel' (Int.dvd_of_emod_eq_zero hz)
  refine ⟨q0, by omega, Int.mul_nonneg a0 q0, ?_⟩
  calc a * (G / b) ≤ (360000 * b) * (G / b) := Int.mul_le_mul_of_nonneg_right a1 q0
    _ = 360000 * G := by rw [Int.mul_assoc, e]
theorem clkL_cat (f k : Int) (p : UInt8) (h : pointOf f = p) : bs (clkL f k) = bs (digL (k / partsOf f / 3600) (leastOf f)) ++ (⟨#[58]⟩ : ByteArray) ++ bs (digL (k / partsOf f / 60 % 60) 2) ++ (⟨#[58]⟩ : ByteArray) ++ bs (digL (k / partsOf f % 60) 2) ++ (⟨#[p]⟩ : ByteArray) ++ bs (digL (k % partsOf f) (widthOf f)) := by
  unfold clkL clkT
  rw [h, show (⟨#[58]⟩ : ByteArray) = bs [58] from rfl, show (⟨#[p]⟩ : ByteArray) = bs [p] from rfl]
  simp only [bs_cat, List.append_assoc, List.cons_append, List.nil_append]
theorem clock_any (f a b : Int) (w : World) (ha0 : -9223372036854775808 ≤ a) (ha1 : a ≤ 9223372036854775807) (hb0 : -9223372036854775808 ≤ b) (hb1 : b ≤ 9223372036854775807) (ht : TabN w) :
    Calls Tryz.prog 12 #[.int .i64 f, .agg #[.int .i64 a, .int .i64 b]] w fun e w' => e = .returned (.tuple #[.string (bs (clkS f a b).1), .int .i64 (clkS f a b).2]) ∧ Below w.heap.size w w' := by
  have m1 := fun w => time_any a b w ha0 ha1 hb0 hb1
  have go : ∀ (G : Int) (p : UInt8) (k0 : 1 ≤ G ∧ G ≤ 1000), partsOf f = G → pointOf f = p →
      ((c : Int) → (c == 0) = false → (∀ w, Calls Tryz.prog 35 #[.agg #[.int .i64 a, .int .i64 b]] w fun e w' => e = .returned (.int .i64 c) ∧ Below w.heap.size w w') → Calls Tryz.prog 12 #[.int .i64 f, .agg #[.int .i64 a, .int .i64 b]] w fun e w' => e = .returned (.tuple #[.string ⟨#[]⟩, .int .i64 c]) ∧ Below w.heap.size w w') →
      (timeS a b = 0 → (∀ w, Calls Tryz.prog 35 #[.agg #[.int .i64 a, .int .i64 b]] w fun e w' => e = .returned (.int .i64 0) ∧ Below w.heap.size w w') → (G % b == 0) = false → Calls Tryz.prog 12 #[.int .i64 f, .agg #[.int .i64 a, .int .i64 b]] w fun e w' => e = .returned (.tuple #[.string ⟨#[]⟩, .int .i64 1]) ∧ Below w.heap.size w w') →
      (timeS a b = 0 → (∀ w, Calls Tryz.prog 35 #[.agg #[.int .i64 a, .int .i64 b]] w fun e w' => e = .returned (.int .i64 0) ∧ Below w.heap.size w w') → (G % b == 0) = true → Calls Tryz.prog 12 #[.int .i64 f, .agg #[.int .i64 a, .int .i64 b]] w fun e w' => e = .returned (.tuple #[.string (bs (clkL f (a * (G / b)))), .int .i64 0]) ∧ Below w.heap.size w w') →
      Calls Tryz.prog 12 #[.int .i64 f, .agg #[.int .i64 a, .int .i64 b]] w fun e w' => e = .returned (.tuple #[.string (bs (clkS f a b).1), .int .i64 (clkS f a b).2]) ∧ Below w.heap.size w w' := by
    intro G p hG e1 e2 c1 c2 c3
    unfold clkS
    rw [e1, if_neg (by omega)]
    by_cases ht : timeS a b = 0
    · rw [ht] at m1
      rw [if_pos ht]
      by_cases hz : G % b = 0
      · rw [if_pos hz]; exact c3 ht m1 (by simpa using hz)
      · rw [if_neg hz]; exact c2 ht m1 (beq_f hz)
    · rw [if_neg ht]; exact c1 _ (beq_f ht) m1
  have ok : ∀ (G : Int), 1 ≤ G → G ≤ 1000 → timeS a b = 0 → (G % b == 0) = true → 1 ≤ b ∧ b ≤ 1048576 ∧ 0 ≤ G / b ∧ G / b ≤ 1000 ∧ 0 ≤ a * (G / b) ∧ a * (G / b) ≤ 1000000000 ∧ 0 ≤ a * (G / b) / G ∧ a * (G / b) / G ≤ 1000000000 ∧ 0 ≤ a * (G / b) % G ∧ a * (G / b) % G < G := by
    intro G h1 h2 ht hz
    obtain ⟨_, b1, b2, _, _⟩ := timeS_le ht
    obtain ⟨q0, q1, k0, k1⟩ := clk_le h1 h2 ht (by simpa using hz)
    have s1 : a * (G / b) / G ≤ a * (G / b) := Int.ediv_le_self _ k0
    have s0 : 0 ≤ a * (G / b) / G := Int.ediv_nonneg k0 (by omega)
    exact ⟨b1, b2, q0, q1, k0, by omega, s0, by omega, Int.emod_nonneg _ (by omega), Int.emod_lt_of_pos _ (by omega)⟩
  by_cases h1 : f = 1
  · subst h1
    refine go 1000 44 (by omega) rfl rfl (fun c hc m => clock_time1 a b c hc w m) (fun ht m hz => clock_arg1 a b (timeS_le ht).2.1 (timeS_le ht).2.2.1 hz w m) (fun tt m hz => ?_)
    obtain ⟨b1, b2, q0, q1, k0, k1, s0, s1, r0, r1⟩ := ok 1000 (by omega) (by omega) tt hz
    rw [clkL_cat 1 _ 44 rfl, show partsOf 1 = 1000 from rfl]
    exact clock_ok1 a b _ _ _ _ _ _ _ _ _ _ _ (bs (Lib.itoa 999)) b1 b2 hz rfl q0 q1 rfl k0 k1 rfl s0 s1 rfl rfl rfl rfl (digL_sz (by omega) (by omega) (by decide)) (digL_sz (by omega) (by omega) (by decide)) (digL_sz (by omega) (by omega) (by decide)) (digL_sz (by omega) (by omega) (by decide))
      (by rw [bs_size, itoa_nat (by omega), dec_len3 (by decide) (by decide)]; rfl) w ht m (digits_any _ 2 (by omega) (by omega) (by omega)) (digits_any _ 2 (by omega) (by omega) (by omega)) (digits_any _ 2 (by omega) (by omega) (by omega)) (format_any 999 (by omega) (by omega)) (digits_any _ 3 (by omega) (by omega) (by omega))
  · by_cases h2 : f = 2
    · subst h2
      refine go 1000 46 (by omega) rfl rfl (fun c hc m => clock_time2 a b c hc w m) (fun ht m hz => clock_arg2 a b (timeS_le ht).2.1 (timeS_le ht).2.2.1 hz w m) (fun tt m hz => ?_)
      obtain ⟨b1, b2, q0, q1, k0, k1, s0, s1, r0, r1⟩ := ok 1000 (by omega) (by omega) tt hz
      rw [clkL_cat 2 _ 46 rfl, show partsOf 2 = 1000 from rfl]
      exact clock_ok2 a b _ _ _ _ _ _ _ _ _ _ _ (bs (Lib.itoa 999)) b1 b2 hz rfl q0 q1 rfl k0 k1 rfl s0 s1 rfl rfl rfl rfl (digL_sz (by omega) (by omega) (by decide)) (digL_sz (by omega) (by omega) (by decide)) (digL_sz (by omega) (by omega) (by decide)) (digL_sz (by omega) (by omega) (by decide))
        (by rw [bs_size, itoa_nat (by omega), dec_len3 (by decide) (by decide)]; rfl) w ht m (digits_any _ 2 (by omega) (by omega) (by omega)) (digits_any _ 2 (by omega) (by omega) (by omega)) (digits_any _ 2 (by omega) (by omega) (by omega)) (format_any 999 (by omega) (by omega)) (digits_any _ 3 (by omega) (by omega) (by omega))
    · by_cases h4 : f = 4
      · subst h4
        refine go 100 46 (by omega) rfl rfl (fun c hc m => clock_time4 a b c hc w m) (fun ht m hz => clock_arg4 a b (timeS_le ht).2.1 (timeS_le ht).2.2.1 hz w m) (fun tt m hz => ?_)
        obtain ⟨b1, b2, q0, q1, k0, k1, s0, s1, r0, r1⟩ := ok 100 (by omega) (by omega) tt hz
        rw [clkL_cat 4 _ 46 rfl, show partsOf 4 = 100 from rfl]
        exact clock_ok4 a b _ _ _ _ _ _ _ _ _ _ _ (bs (Lib.itoa 99)) b1 b2 hz rfl q0 q1 rfl k0 k1 rfl s0 s1 rfl rfl rfl rfl (digL_sz (by omega) (by omega) (by decide)) (digL_sz (by omega) (by omega) (by decide)) (digL_sz (by omega) (by omega) (by decide)) (digL_sz (by omega) (by omega) (by decide))
          (by rw [bs_size, itoa_nat (by omega), dec_len2 (by decide) (by decide)]; rfl) w ht m (digits_any _ 1 (by omega) (by omega) (by omega)) (digits_any _ 2 (by omega) (by omega) (by omega)) (digits_any _ 2 (by omega) (by omega) (by omega)) (format_any 99 (by omega) (by omega)) (digits_any _ 2 (by omega) (by omega) (by omega))
      · have e : clkS f a b = ([], 5) := by unfold clkS partsOf; rw [if_neg h1, if_neg h2, if_neg h4, if_pos rfl]
        rw [e]; exact clock_kind a b f (beq_f h1) (beq_f h2) (beq_f h4) w
end Go.Proofs.YtghiibdhibcbaaaGreatDoor.PA
namespace Go.Proofs.YtghiibdhibcbaaaGreatDoor.PA
open Go
set_option linter.unusedSimpArgs false
set_option linter.unusedVariables false
def dg (n : Nat) : UInt8 := UInt8.ofNat (48 + n % 10)
theorem dg_nat (n : Nat) : (dg n).toNat = 48 + n % 10 := by unfold dg; exact ParD.dig_nat _ (by omega)
theorem dec1 {u : Nat} (h : u < 10) : Lib.decDigits u = [dg u] := by rw [ParD.dec_small h]; unfold dg; rw [Nat.mod_eq_of_lt h]
theorem dec2 {u : Nat} (h0 : 10 ≤ u) (h : u < 100) : Lib.decDigits u = [dg (u / 10), dg u] := by rw [ParD.dec_big (by omega), dec1 (by omega)]; rfl
theorem dec3 {u : Nat} (h0 : 100 ≤ u) (h : u < 1000) : Lib.decDigits u = [dg (u / 100), dg (u / 10), dg u] := by rw [ParD.dec_big (by omega), dec2 (by omega) (by omega), Nat.div_div_eq_div_mul]; rfl
theorem dg_0 {n : Nat} (h : n % 10 = 0) : dg n = 48 := by unfold dg; rw [h]; rfl
theorem digL1 {n : Int} (h0 : 0 ≤ n) (h1 : n < 10) : digL n 1 = [dg n.toNat] := by
  unfold digL; rw [itoa_nat h0, dec1 (by omega)]; rfl
theorem digL2 {n : Int} (h0 : 0 ≤ n) (h1 : n < 100) : digL n 2 = [dg (n.toNat / 10), dg n.toNat] := by
  unfold digL; rw [itoa_nat h0]
  by_cases h : n.toNat < 10
  · rw [dec1 h, dg_0 (n := n.toNat / 10) (by omega)]; rfl
  · rw [dec2 (by omega) (by omega)]; rfl
theorem digL3 {n : Int} (h0 : 0 ≤ n) (h1 : n < 1000) : digL n 3 = [dg (n.toNat / 100), dg (n.toNat / 10), dg n.toNat] := by
  unfold digL; rw [itoa_nat h0]
  by_cases h : n.toNat < 10
  · rw [dec1 h, dg_0 (n := n.toNat / 10) (by omega), dg_0 (n := n.toNat / 100) (by omega)]; rfl
  · by_cases h2 : n.toNat < 100
    · rw [dec2 (by omega) (by omega), dg_0 (n := n.toNat / 100) (by omega)]; rfl
    · rw [dec3 (by omega) (by omega)]; rfl
theorem digL23 {n : Int} (h0 : 100 ≤ n) (h1 : n < 1000) : digL n 2 = [dg (n.toNat / 100), dg (n.toNat / 10), dg n.toNat] := by
  unfold digL; rw [itoa_nat (by omega), dec3 (by omega) (by omega)]; rfl
theorem digL12 {n : Int} (h0 : 10 ≤ n) (h1 : n < 100) : digL n 1 = [dg (n.toNat / 10), dg n.toNat] := by
  unfold digL; rw [itoa_nat (by omega), dec2 (by omega) (by omega)]; rfl
theorem digL13 {n : Int} (h0 : 100 ≤ n) (h1 : n < 1000) : digL n 1 = [dg (n.toNat / 100), dg (n.toNat / 10), dg n.toNat] := by
  unfold digL; rw [itoa_nat (by omega), dec3 (by omega) (by omega)]; rfl
theorem known_t : timF 24000 1001 false 24 = (1001, 1000, 0) := by decide
theorem known_c : clkS 1 7 2 = ([48, 48, 58, 48, 48, 58, 48, 51, 44, 53, 48, 48], 0) := by
  have h : timeS 7 2 = 0 := by decide
  unfold clkS
  rw [if_neg (by decide), if_pos h, if_pos (by decide)]
  unfold clkL clkT
  rw [show leastOf 1 = 2 from rfl, show widthOf 1 = 3 from rfl, digL2 (by decide) (by decide), digL2 (by decide) (by decide), digL2 (by decide) (by decide), digL3 (by decide) (by decide)]
  decide
theorem known_l : lblS 30000 1001 true 1800 = ([48, 48, 58, 48, 49, 58, 48, 48, 59, 48, 50], 0) := by
  unfold lblS
  rw [if_pos (by decide), if_pos (by decide)]
  unfold labL labT
  rw [show wide (CS.full 30000 1001) = 2 from by decide, digL2 (by decide) (by decide), digL2 (by decide) (by decide), digL2 (by decide) (by decide), digL2 (by decide) (by decide)]
  decide
theorem known_n : nmbS 30000 1001 true [48, 48, 58, 48, 49, 58, 48, 48, 59, 48, 49] = (0, 15) := by decide
end Go.Proofs.YtghiibdhibcbaaaGreatDoor.PA
