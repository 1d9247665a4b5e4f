/- code: Clock. -/
import Derived.Test.YtghiibdhibcbaaaDoorCodF
import Derived.Deep.RegionHeld3
namespace Go.Proofs.YtghiibdhibcbaaaDoor.PA
open Go Go.RowKit Go.Proofs.YtghiibdhibcbaaaDoorW.PrintWords Go.Proofs.YtghiibdhibcbaaaDoorW.PrintLast Go.Proofs.YtghiibdhibcbaaaDoorW.PrintMore Go.Proofs.YtghiibdhibcbaaaDoor.CS
set_option linter.unusedSimpArgs false
set_option linter.unusedVariables false
set_option maxHeartbeats 800000 in
set_option maxRecDepth 100000 in
theorem clock_kind (a b f : Int) (h1 : (f == 1) = false) (h2 : (f == 2) = false) (h4 : (f == 4) = false) (w : World) :
    Calls Tryd.prog 23 #[.int .i64 f, .agg #[.int .i64 a, .int .i64 b]] w fun e w' => e = .returned (.tuple #[.string ⟨#[]⟩, .int .i64 5]) ∧ Below w.heap.size w w' := by
  go_enter Tryd.func23, Tryd.ntmps23
  go_wp2
  all_goals (first | (go_quiet (fail)) | skip)
  go_wp2
  go_ret2
  exact ⟨rfl, bw (Below.refl _ _)⟩
set_option maxHeartbeats 800000 in
set_option maxRecDepth 100000 in
theorem clock_time1 (a b c : Int) (hc : (c == 0) = false) (w : World)
    (m1 : ∀ w, Calls Tryd.prog 64 #[.agg #[.int .i64 a, .int .i64 b]] w fun e w' => e = .returned (.int .i64 c) ∧ Below w.heap.size w w') :
    Calls Tryd.prog 23 #[.int .i64 1, .agg #[.int .i64 a, .int .i64 b]] w fun e w' => e = .returned (.tuple #[.string ⟨#[]⟩, .int .i64 c]) ∧ Below w.heap.size w w' := by
  have M1 := Lib.hid m1
  clear m1
  go_enter Tryd.func23, Tryd.ntmps23
  go_wp2_with fail
  with_reducible refine (M1.out _).mono ?_
  rintro e w1 ⟨rfl, hb1⟩
  have h_T : w1.heap[w.heap.size]? = some (.cells #[.int .i64 a, .int .i64 b] 26 (0, 0)) := by
    refine Hand.kb hb1 ?_; simp (disch := first | omega | (simp only [Hand.sa, Hand.ss, Hand.sd, Hand.sn]; first | done | omega)) only [Hand.q2, Hand.q1, Hand.q5, Hand.q6, Hand.q4, Hand.q3] <;> rfl
  have hB' : Below w.heap.size w w1 := Hand.stepB hb1 (by repeat (with_reducible first | apply Below.refl _ _ | apply Below.drew | apply pw_below_drewN | (apply Below.setCell; rotate_left; (dsimp only; omega)) | (apply Below.alloc; rotate_left; (first | omega | (simp only [Hand.sa, Hand.ss, Hand.sd, Hand.sn]; omega))))) (Nat.le_refl _)
  clear hb1
  have g_T := h_T
  have hB := hB'
  clear hB' h_T
  obtain ⟨z_T, z1_T, z2_T, y0_T, y1_T⟩ := Hand.hz g_T
  obtain ⟨c_T_0, f_T_0, c_T_1, f_T_1⟩ := Hand.hc2 g_T
  have zw : w.heap.size ≤ w1.heap.size := hB.size
  have HG := Lib.hid (And.intro g_T (hB))
  clear g_T hB
  go_wp2
  go_ret2
  obtain ⟨g_T, hB⟩ := HG.out
  exact ⟨rfl, hB⟩
set_option maxHeartbeats 800000 in
set_option maxRecDepth 100000 in
theorem clock_arg1 (a b : Int) (b0 : 1 ≤ b) (b1 : b ≤ 1048576) (hz : (1000 % b == 0) = false) (w : World)
    (m1 : ∀ w, Calls Tryd.prog 64 #[.agg #[.int .i64 a, .int .i64 b]] w fun e w' => e = .returned (.int .i64 0) ∧ Below w.heap.size w w') :
    Calls Tryd.prog 23 #[.int .i64 1, .agg #[.int .i64 a, .int .i64 b]] w fun e w' => e = .returned (.tuple #[.string ⟨#[]⟩, .int .i64 1]) ∧ Below w.heap.size w w' := by
  have hz1 : ¬ (1000 % b = 0) := by simpa using hz
  have hb2 : ¬ b = 0 := by omega
  have M1 := Lib.hid m1
  clear m1
  go_enter Tryd.func23, Tryd.ntmps23
  go_wp2_with fail
  with_reducible refine (M1.out _).mono ?_
  rintro e w1 ⟨rfl, hb1⟩
  have h_T : w1.heap[w.heap.size]? = some (.cells #[.int .i64 a, .int .i64 b] 26 (0, 0)) := by
    refine Hand.kb hb1 ?_; simp (disch := first | omega | (simp only [Hand.sa, Hand.ss, Hand.sd, Hand.sn]; first | done | omega)) only [Hand.q2, Hand.q1, Hand.q5, Hand.q6, Hand.q4, Hand.q3] <;> rfl
  have hB' : Below w.heap.size w w1 := Hand.stepB hb1 (by repeat (with_reducible first | apply Below.refl _ _ | apply Below.drew | apply pw_below_drewN | (apply Below.setCell; rotate_left; (dsimp only; omega)) | (apply Below.alloc; rotate_left; (first | omega | (simp only [Hand.sa, Hand.ss, Hand.sd, Hand.sn]; omega))))) (Nat.le_refl _)
  clear hb1
  have g_T := h_T
  have hB := hB'
  clear hB' h_T
  obtain ⟨z_T, z1_T, z2_T, y0_T, y1_T⟩ := Hand.hz g_T
  obtain ⟨c_T_0, f_T_0, c_T_1, f_T_1⟩ := Hand.hc2 g_T
  have zw : w.heap.size ≤ w1.heap.size := hB.size
  have HG := Lib.hid (And.intro g_T (hB))
  clear g_T hB
  go_wp2
  go_ret2
  obtain ⟨g_T, hB⟩ := HG.out
  exact ⟨rfl, hB⟩
set_option maxHeartbeats 800000 in
set_option maxRecDepth 100000 in
theorem clock_time2 (a b c : Int) (hc : (c == 0) = false) (w : World)
    (m1 : ∀ w, Calls Tryd.prog 64 #[.agg #[.int .i64 a, .int .i64 b]] w fun e w' => e = .returned (.int .i64 c) ∧ Below w.heap.size w w') :
    Calls Tryd.prog 23 #[.int .i64 2, .agg #[.int .i64 a, .int .i64 b]] w fun e w' => e = .returned (.tuple #[.string ⟨#[]⟩, .int .i64 c]) ∧ Below w.heap.size w w' := by
  have M1 := Lib.hid m1
  clear m1
  go_enter Tryd.func23, Tryd.ntmps23
  go_wp2_with fail
  with_reducible refine (M1.out _).mono ?_
  rintro e w1 ⟨rfl, hb1⟩
  have h_T : w1.heap[w.heap.size]? = some (.cells #[.int .i64 a, .int .i64 b] 26 (0, 0)) := by
    refine Hand.kb hb1 ?_; simp (disch := first | omega | (simp only [Hand.sa, Hand.ss, Hand.sd, Hand.sn]; first | done | omega)) only [Hand.q2, Hand.q1, Hand.q5, Hand.q6, Hand.q4, Hand.q3] <;> rfl
  have hB' : Below w.heap.size w w1 := Hand.stepB hb1 (by repeat (with_reducible first | apply Below.refl _ _ | apply Below.drew | apply pw_below_drewN | (apply Below.setCell; rotate_left; (dsimp only; omega)) | (apply Below.alloc; rotate_left; (first | omega | (simp only [Hand.sa, Hand.ss, Hand.sd, Hand.sn]; omega))))) (Nat.le_refl _)
  clear hb1
  have g_T := h_T
  have hB := hB'
  clear hB' h_T
  obtain ⟨z_T, z1_T, z2_T, y0_T, y1_T⟩ := Hand.hz g_T
  obtain ⟨c_T_0, f_T_0, c_T_1, f_T_1⟩ := Hand.hc2 g_T
  have zw : w.heap.size ≤ w1.heap.size := hB.size
  have HG := Lib.hid (And.intro g_T (hB))
  clear g_T hB
  go_wp2
  go_ret2
  obtain ⟨g_T, hB⟩ := HG.out
  exact ⟨rfl, hB⟩
set_option maxHeartbeats 800000 in
set_option maxRecDepth 100000 in
theorem clock_arg2 (a b : Int) (b0 : 1 ≤ b) (b1 : b ≤ 1048576) (hz : (1000 % b == 0) = false) (w : World)
    (m1 : ∀ w, Calls Tryd.prog 64 #[.agg #[.int .i64 a, .int .i64 b]] w fun e w' => e = .returned (.int .i64 0) ∧ Below w.heap.size w w') :
    Calls Tryd.prog 23 #[.int .i64 2, .agg #[.int .i64 a, .int .i64 b]] w fun e w' => e = .returned (.tuple #[.string ⟨#[]⟩, .int .i64 1]) ∧ Below w.heap.size w w' := by
  have hz1 : ¬ (1000 % b = 0) := by simpa using hz
  have hb2 : ¬ b = 0 := by omega
  have M1 := Lib.hid m1
  clear m1
  go_enter Tryd.func23, Tryd.ntmps23
  go_wp2_with fail
  with_reducible refine (M1.out _).mono ?_
  rintro e w1 ⟨rfl, hb1⟩
  have h_T : w1.heap[w.heap.size]? = some (.cells #[.int .i64 a, .int .i64 b] 26 (0, 0)) := by
    refine Hand.kb hb1 ?_; simp (disch := first | omega | (simp only [Hand.sa, Hand.ss, Hand.sd, Hand.sn]; first | done | omega)) only [Hand.q2, Hand.q1, Hand.q5, Hand.q6, Hand.q4, Hand.q3] <;> rfl
  have hB' : Below w.heap.size w w1 := Hand.stepB hb1 (by repeat (with_reducible first | apply Below.refl _ _ | apply Below.drew | apply pw_below_drewN | (apply Below.setCell; rotate_left; (dsimp only; omega)) | (apply Below.alloc; rotate_left; (first | omega | (simp only [Hand.sa, Hand.ss, Hand.sd, Hand.sn]; omega))))) (Nat.le_refl _)
  clear hb1
  have g_T := h_T
  have hB := hB'
  clear hB' h_T
  obtain ⟨z_T, z1_T, z2_T, y0_T, y1_T⟩ := Hand.hz g_T
  obtain ⟨c_T_0, f_T_0, c_T_1, f_T_1⟩ := Hand.hc2 g_T
  have zw : w.heap.size ≤ w1.heap.size := hB.size
  have HG := Lib.hid (And.intro g_T (hB))
  clear g_T hB
  go_wp2
  go_ret2
  obtain ⟨g_T, hB⟩ := HG.out
  exact ⟨rfl, hB⟩
set_option maxHeartbeats 800000 in
set_option maxRecDepth 100000 in
theorem clock_time4 (a b c : Int) (hc : (c == 0) = false) (w : World)
    (m1 : ∀ w, Calls Tryd.prog 64 #[.agg #[.int .i64 a, .int .i64 b]] w fun e w' => e = .returned (.int .i64 c) ∧ Below w.heap.size w w') :
    Calls Tryd.prog 23 #[.int .i64 4, .agg #[.int .i64 a, .int .i64 b]] w fun e w' => e = .returned (.tuple #[.string ⟨#[]⟩, .int .i64 c]) ∧ Below w.heap.size w w' := by
  have M1 := Lib.hid m1
  clear m1
  go_enter Tryd.func23, Tryd.ntmps23
  go_wp2_with fail
  with_reducible refine (M1.out _).mono ?_
  rintro e w1 ⟨rfl, hb1⟩
  have h_T : w1.heap[w.heap.size]? = some (.cells #[.int .i64 a, .int .i64 b] 26 (0, 0)) := by
    refine Hand.kb hb1 ?_; simp (disch := first | omega | (simp only [Hand.sa, Hand.ss, Hand.sd, Hand.sn]; first | done | omega)) only [Hand.q2, Hand.q1, Hand.q5, Hand.q6, Hand.q4, Hand.q3] <;> rfl
  have hB' : Below w.heap.size w w1 := Hand.stepB hb1 (by repeat (with_reducible first | apply Below.refl _ _ | apply Below.drew | apply pw_below_drewN | (apply Below.setCell; rotate_left; (dsimp only; omega)) | (apply Below.alloc; rotate_left; (first | omega | (simp only [Hand.sa, Hand.ss, Hand.sd, Hand.sn]; omega))))) (Nat.le_refl _)
  clear hb1
  have g_T := h_T
  have hB := hB'
  clear hB' h_T
  obtain ⟨z_T, z1_T, z2_T, y0_T, y1_T⟩ := Hand.hz g_T
  obtain ⟨c_T_0, f_T_0, c_T_1, f_T_1⟩ := Hand.hc2 g_T
  have zw : w.heap.size ≤ w1.heap.size := hB.size
  have HG := Lib.hid (And.intro g_T (hB))
  clear g_T hB
  go_wp2
  go_ret2
  obtain ⟨g_T, hB⟩ := HG.out
  exact ⟨rfl, hB⟩
set_option maxHeartbeats 800000 in
set_option maxRecDepth 100000 in
theorem clock_arg4 (a b : Int) (b0 : 1 ≤ b) (b1 : b ≤ 1048576) (hz : (100 % b == 0) = false) (w : World)
    (m1 : ∀ w, Calls Tryd.prog 64 #[.agg #[.int .i64 a, .int .i64 b]] w fun e w' => e = .returned (.int .i64 0) ∧ Below w.heap.size w w') :
    Calls Tryd.prog 23 #[.int .i64 4, .agg #[.int .i64 a, .int .i64 b]] w fun e w' => e = .returned (.tuple #[.string ⟨#[]⟩, .int .i64 1]) ∧ Below w.heap.size w w' := by
  have hz1 : ¬ (100 % b = 0) := by simpa using hz
  have hb2 : ¬ b = 0 := by omega
  have M1 := Lib.hid m1
  clear m1
  go_enter Tryd.func23, Tryd.ntmps23
  go_wp2_with fail
  with_reducible refine (M1.out _).mono ?_
  rintro e w1 ⟨rfl, hb1⟩
  have h_T : w1.heap[w.heap.size]? = some (.cells #[.int .i64 a, .int .i64 b] 26 (0, 0)) := by
    refine Hand.kb hb1 ?_; simp (disch := first | omega | (simp only [Hand.sa, Hand.ss, Hand.sd, Hand.sn]; first | done | omega)) only [Hand.q2, Hand.q1, Hand.q5, Hand.q6, Hand.q4, Hand.q3] <;> rfl
  have hB' : Below w.heap.size w w1 := Hand.stepB hb1 (by repeat (with_reducible first | apply Below.refl _ _ | apply Below.drew | apply pw_below_drewN | (apply Below.setCell; rotate_left; (dsimp only; omega)) | (apply Below.alloc; rotate_left; (first | omega | (simp only [Hand.sa, Hand.ss, Hand.sd, Hand.sn]; omega))))) (Nat.le_refl _)
  clear hb1
  have g_T := h_T
  have hB := hB'
  clear hB' h_T
  obtain ⟨z_T, z1_T, z2_T, y0_T, y1_T⟩ := Hand.hz g_T
  obtain ⟨c_T_0, f_T_0, c_T_1, f_T_1⟩ := Hand.hc2 g_T
  have zw : w.heap.size ≤ w1.heap.size := hB.size
  have HG := Lib.hid (And.intro g_T (hB))
  clear g_T hB
  go_wp2
  go_ret2
  obtain ⟨g_T, hB⟩ := HG.out
  exact ⟨rfl, hB⟩
set_option maxHeartbeats 800000 in
set_option maxRecDepth 100000 in
theorem clock_ok1 (a b q k s h m se rs : Int) (S1 S2 S3 S4 D : ByteArray) (b0 : 1 ≤ b) (b1 : b ≤ 1048576) (hz : (1000 % b == 0) = true) (hq : 1000 / b = q) (q0 : 0 ≤ q) (q1 : q ≤ 1000) (hk : a * q = k) (k0 : 0 ≤ k) (k1 : k ≤ 1000000000) (hs : k / 1000 = s) (s0 : 0 ≤ s) (s1 : s ≤ 1000000000) (hh : s / 3600 = h) (hm : s / 60 % 60 = m) (hse : s % 60 = se) (hrs : k % 1000 = rs)
    (q1 : S1.size ≤ 21) (q2 : S2.size ≤ 21) (q3 : S3.size ≤ 21) (q4 : S4.size ≤ 21) (hD : (D.size : Int) = 3) (w : World) (ht : TabN w)
    (m1 : ∀ w, Calls Tryd.prog 64 #[.agg #[.int .i64 a, .int .i64 b]] w fun e w' => e = .returned (.int .i64 0) ∧ Below w.heap.size w w')
    (m4 : ∀ w, TabN w → Calls Tryd.prog 46 #[.int .i64 h, .int .i64 2] w fun e w' => e = .returned (.string S1) ∧ Below w.heap.size w w')
    (m5 : ∀ w, TabN w → Calls Tryd.prog 46 #[.int .i64 m, .int .i64 2] w fun e w' => e = .returned (.string S2) ∧ Below w.heap.size w w')
    (m6 : ∀ w, TabN w → Calls Tryd.prog 46 #[.int .i64 se, .int .i64 2] w fun e w' => e = .returned (.string S3) ∧ Below w.heap.size w w')
    (m8 : ∀ w, TabN w → Calls Tryd.prog 65 #[.int .i64 999, .int .i64 10] w fun e w' => e = .returned (.string D) ∧ Below w.heap.size w w')
    (m9 : ∀ w, TabN w → Calls Tryd.prog 46 #[.int .i64 rs, .int .i64 3] w fun e w' => e = .returned (.string S4) ∧ Below w.heap.size w w') :
    Calls Tryd.prog 23 #[.int .i64 1, .agg #[.int .i64 a, .int .i64 b]] w fun e w' => e = .returned (.tuple #[.string (S1 ++ (⟨#[58]⟩ : ByteArray) ++ S2 ++ (⟨#[58]⟩ : ByteArray) ++ S3 ++ (⟨#[44]⟩ : ByteArray) ++ S4), .int .i64 0]) ∧ Below w.heap.size w w' := by
  have hz1 : 1000 % b = 0 := by simpa using hz
  have hb2 : ¬ b = 0 := by omega
  have HT0 := Lib.hid ht
  have M1 := Lib.hid m1
  have M4 := Lib.hid m4
  have M5 := Lib.hid m5
  have M6 := Lib.hid m6
  have M8 := Lib.hid m8
  have M9 := Lib.hid m9
  clear m1 m4 m5 m6 m8 m9 ht
  go_enter Tryd.func23, Tryd.ntmps23
  go_wp2_with fail
  with_reducible refine (M1.out _).mono ?_
  rintro e w1 ⟨rfl, hb1⟩
  have h_T : w1.heap[w.heap.size]? = some (.cells #[.int .i64 a, .int .i64 b] 26 (0, 0)) := by
    refine Hand.kb hb1 ?_; simp (disch := first | omega | (simp only [Hand.sa, Hand.ss, Hand.sd, Hand.sn]; first | done | omega)) only [Hand.q2, Hand.q1, Hand.q5, Hand.q6, Hand.q4, Hand.q3] <;> rfl
  have hB' : Below w.heap.size w w1 := Hand.stepB hb1 (by repeat (with_reducible first | apply Below.refl _ _ | apply Below.drew | apply pw_below_drewN | (apply Below.setCell; rotate_left; (dsimp only; omega)) | (apply Below.alloc; rotate_left; (first | omega | (simp only [Hand.sa, Hand.ss, Hand.sd, Hand.sn]; omega))))) (Nat.le_refl _)
  clear hb1
  have g_T := h_T
  have hB := hB'
  clear hB' h_T
  obtain ⟨z_T, z1_T, z2_T, y0_T, y1_T⟩ := Hand.hz g_T
  obtain ⟨c_T_0, f_T_0, c_T_1, f_T_1⟩ := Hand.hc2 g_T
  have zw : w.heap.size ≤ w1.heap.size := hB.size
  have HG := Lib.hid (And.intro g_T (hB))
  clear g_T hB
  go_wp2
  have f1 : IntKind.i64.wrap (Int.tdiv 1000 b) = q := by rw [Int.tdiv_eq_ediv_of_nonneg (by omega), hq, IntKind.wrap_i64]; omega
  have f2 : IntKind.i64.wrap (a * q) = k := by rw [hk, IntKind.wrap_i64]; omega
  go_quiet (fail)
  clear f1 f2
  go_wp2
  obtain ⟨g_T, hB⟩ := HG.out
  obtain ⟨W, hW⟩ : ∃ W_, W_ = w1.drewN nq := ⟨_, rfl⟩
  rw [← hW]
  have h_T : W.heap[w.heap.size]? = some (.cells #[.int .i64 a, .int .i64 b] 26 (0, 0)) := by
    rw [hW]
    first | (simp (disch := first | with_reducible assumption | (with_reducible first | exact Nat.ne_of_lt (by assumption) | exact Nat.ne_of_gt (by assumption) | exact Ne.symm (by assumption)) | ((fail_if_success (refine Hand.trip (by with_reducible rfl) ?_)); first | omega | (simp only [Hand.sa, Hand.ss, Hand.sd, Hand.sn]; first | done | with_reducible assumption | omega))) only [Hand.q2, Hand.q1, Hand.q5, Hand.q6, Hand.q4, Hand.q3, g_T]; done) | (simp (disch := first | with_reducible assumption | (with_reducible first | exact Nat.ne_of_lt (by assumption) | exact Nat.ne_of_gt (by assumption) | exact Ne.symm (by assumption)) | ((fail_if_success (refine Hand.trip (by with_reducible rfl) ?_)); first | omega | (simp only [Hand.sa, Hand.ss, Hand.sd, Hand.sn]; first | done | with_reducible assumption | omega))) only [Hand.q2, Hand.q1, Hand.q5, Hand.q6, Hand.q4, Hand.q3, g_T]; rfl)
  have hB' : Below w.heap.size w W := by
    rw [hW]
    repeat (first | exact hB | (with_reducible first | apply Below.drew | apply pw_below_drewN | refine Below.setCell ?_ (by dsimp only; omega) _ | refine Below.alloc ?_ (by first | omega | (simp only [Hand.sa, Hand.ss, Hand.sd, Hand.sn]; omega)) _))
  clear HG hB g_T zw z_T z1_T z2_T y0_T y1_T c_T_0 f_T_0 c_T_1 f_T_1
  clear hW
  have g_T := h_T
  have hB := hB'
  clear hB' h_T
  obtain ⟨z_T, z1_T, z2_T, y0_T, y1_T⟩ := Hand.hz g_T
  obtain ⟨c_T_0, f_T_0, c_T_1, f_T_1⟩ := Hand.hc2 g_T
  have zw : w.heap.size ≤ W.heap.size := hB.size
  have HG := Lib.hid (And.intro g_T (hB))
  clear g_T hB
  have e1 : IntKind.i64.wrap (s.tdiv 3600) = h := by rw [Int.tdiv_eq_ediv_of_nonneg s0, hh, IntKind.wrap_i64]; omega
  have e2 : (IntKind.i64.wrap (s.tdiv 60)).tmod 60 = m := by rw [Int.tdiv_eq_ediv_of_nonneg s0, show IntKind.i64.wrap (s / 60) = s / 60 by rw [IntKind.wrap_i64]; omega, Int.tmod_eq_emod_of_nonneg (by omega), hm]
  have e3 : s.tmod 60 = se := by rw [Int.tmod_eq_emod_of_nonneg s0, hse]
  have e4 : k.tmod 1000 = rs := by rw [Int.tmod_eq_emod_of_nonneg k0, hrs]
  have e5 : IntKind.i64.wrap 999 = 999 := by decide
  have hD2 : D.size = 3 := by omega
  have p0 : (9223372036854775807 < S1.size + 1) = False := eq_false (by omega)
  have p1 : (9223372036854775807 < S1.size + 1 + S2.size) = False := eq_false (by omega)
  have p2 : (9223372036854775807 < S1.size + 1 + S2.size + 1) = False := eq_false (by omega)
  have p3 : (9223372036854775807 < S1.size + 1 + S2.size + 1 + S3.size) = False := eq_false (by omega)
  have p4 : (9223372036854775807 < S1.size + 1 + S2.size + 1 + S3.size + 1) = False := eq_false (by omega)
  have p5 : (9223372036854775807 < S1.size + 1 + S2.size + 1 + S3.size + 1 + S4.size) = False := eq_false (by omega)
  have HT3 := Lib.hid (show TabN W from (tab_below HT0.out (HG.out.2)))
  have HBW := Lib.hid (HG.out.2)
  have HK := Lib.hid (And.intro c_T_0 (c_T_1))
  have BD : Below W.heap.size W W.drew := Below.drew (Below.refl _ _)
  have BR : Below W.heap.size W W := Below.refl _ _
  go_region_held3 (fun w_ => Below w.heap.size w w_ ∧ w_.cell? ⟨w.heap.size, 0, none⟩ = some (.int .i64 a) ∧ w_.cell? ⟨w.heap.size, 1, none⟩ = some (.int .i64 b)) (first | with_reducible (refine ⟨?_, (Below.cell BR (p := ⟨w.heap.size, 0, none⟩) z_T).trans (HK.out.1), (Below.cell BR (p := ⟨w.heap.size, 1, none⟩) z_T).trans (HK.out.2)⟩; apply (HBW.out.trans (Below.mono BR zw))) | with_reducible (refine ⟨?_, (Below.cell BD (p := ⟨w.heap.size, 0, none⟩) z_T).trans (HK.out.1), (Below.cell BD (p := ⟨w.heap.size, 1, none⟩) z_T).trans (HK.out.2)⟩; apply (HBW.out.trans (Below.mono BD zw))) | with_reducible (refine ⟨?_, (Below.cell BB (p := ⟨w.heap.size, 0, none⟩) z_T).trans (HK.out.1), (Below.cell BB (p := ⟨w.heap.size, 1, none⟩) z_T).trans (HK.out.2)⟩; apply (HBW.out.trans (Below.mono BB zw))) | (refine ⟨?_, ?_, ?_⟩; (focus (repeat (with_reducible first | apply (HBW.out.trans (Below.mono BB zw)) | apply Below.drew | (apply Below.setCell; rotate_left; (dsimp only; omega)) | (apply Below.alloc; rotate_left; (first | omega | (simp only [Hand.sa, Hand.ss, Hand.sd, Hand.sn]; omega)))))); (repeat (with_reducible first | exact (Below.cell BB (p := ⟨w.heap.size, 0, none⟩) z_T).trans (HK.out.1) | refine Hand.cell_alloc ?_ | refine Hand.cell_drew ?_ | refine Hand.cell_far (by omega) ?_)); (repeat (with_reducible first | exact (Below.cell BB (p := ⟨w.heap.size, 1, none⟩) z_T).trans (HK.out.2) | refine Hand.cell_alloc ?_ | refine Hand.cell_drew ?_ | refine Hand.cell_far (by omega) ?_)))) (first | (go_at_call 46; ((with_reducible refine (M4.out _ (tab_below HT3.out (by assumption))).mono ?_); rintro e w4 ⟨rfl, hb_⟩; have BB : Below W.heap.size W w4 := Hand.stepB hb_ (by assumption) (Nat.le_refl _); have zB_w4 := Below.size BB; clear hb_)) | (go_at_call 46; ((with_reducible refine (M5.out _ (tab_below HT3.out (by assumption))).mono ?_); rintro e w5 ⟨rfl, hb_⟩; have BB : Below W.heap.size W w5 := Hand.stepB hb_ (by assumption) (Nat.le_refl _); have zB_w5 := Below.size BB; clear hb_)) | (go_at_call 46; ((with_reducible refine (M6.out _ (tab_below HT3.out (by assumption))).mono ?_); rintro e w6 ⟨rfl, hb_⟩; have BB : Below W.heap.size W w6 := Hand.stepB hb_ (by assumption) (Nat.le_refl _); have zB_w6 := Below.size BB; clear hb_)) | (go_at_call 65; ((with_reducible refine (M8.out _ (tab_below HT3.out (by assumption))).mono ?_); rintro e w8 ⟨rfl, hb_⟩; have BB : Below W.heap.size W w8 := Hand.stepB hb_ (by assumption) (Nat.le_refl _); have zB_w8 := Below.size BB; clear hb_)) | (go_at_call 46; ((with_reducible refine (M9.out _ (tab_below HT3.out (by assumption))).mono ?_); rintro e w9 ⟨rfl, hb_⟩; have BB : Below W.heap.size W w9 := Hand.stepB hb_ (by assumption) (Nat.le_refl _); have zB_w9 := Below.size BB; clear hb_)))
  go_wp2
  go_ret2
  obtain ⟨g_T, hB⟩ := HG.out
  exact ⟨rfl, hB.trans (Below.mono BB zw)⟩
set_option maxHeartbeats 800000 in
set_option maxRecDepth 100000 in
theorem clock_ok2 (a b q k s h m se rs : Int) (S1 S2 S3 S4 D : ByteArray) (b0 : 1 ≤ b) (b1 : b ≤ 1048576) (hz : (1000 % b == 0) = true) (hq : 1000 / b = q) (q0 : 0 ≤ q) (q1 : q ≤ 1000) (hk : a * q = k) (k0 : 0 ≤ k) (k1 : k ≤ 1000000000) (hs : k / 1000 = s) (s0 : 0 ≤ s) (s1 : s ≤ 1000000000) (hh : s / 3600 = h) (hm : s / 60 % 60 = m) (hse : s % 60 = se) (hrs : k % 1000 = rs)
    (q1 : S1.size ≤ 21) (q2 : S2.size ≤ 21) (q3 : S3.size ≤ 21) (q4 : S4.size ≤ 21) (hD : (D.size : Int) = 3) (w : World) (ht : TabN w)
    (m1 : ∀ w, Calls Tryd.prog 64 #[.agg #[.int .i64 a, .int .i64 b]] w fun e w' => e = .returned (.int .i64 0) ∧ Below w.heap.size w w')
    (m4 : ∀ w, TabN w → Calls Tryd.prog 46 #[.int .i64 h, .int .i64 2] w fun e w' => e = .returned (.string S1) ∧ Below w.heap.size w w')
    (m5 : ∀ w, TabN w → Calls Tryd.prog 46 #[.int .i64 m, .int .i64 2] w fun e w' => e = .returned (.string S2) ∧ Below w.heap.size w w')
    (m6 : ∀ w, TabN w → Calls Tryd.prog 46 #[.int .i64 se, .int .i64 2] w fun e w' => e = .returned (.string S3) ∧ Below w.heap.size w w')
    (m8 : ∀ w, TabN w → Calls Tryd.prog 65 #[.int .i64 999, .int .i64 10] w fun e w' => e = .returned (.string D) ∧ Below w.heap.size w w')
    (m9 : ∀ w, TabN w → Calls Tryd.prog 46 #[.int .i64 rs, .int .i64 3] w fun e w' => e = .returned (.string S4) ∧ Below w.heap.size w w') :
    Calls Tryd.prog 23 #[.int .i64 2, .agg #[.int .i64 a, .int .i64 b]] w fun e w' => e = .returned (.tuple #[.string (S1 ++ (⟨#[58]⟩ : ByteArray) ++ S2 ++ (⟨#[58]⟩ : ByteArray) ++ S3 ++ (⟨#[46]⟩ : ByteArray) ++ S4), .int .i64 0]) ∧ Below w.heap.size w w' := by
  have hz1 : 1000 % b = 0 := by simpa using hz
  have hb2 : ¬ b = 0 := by omega
  have HT0 := Lib.hid ht
  have M1 := Lib.hid m1
  have M4 := Lib.hid m4
  have M5 := Lib.hid m5
  have M6 := Lib.hid m6
  have M8 := Lib.hid m8
  have M9 := Lib.hid m9
  clear m1 m4 m5 m6 m8 m9 ht
  go_enter Tryd.func23, Tryd.ntmps23
  go_wp2_with fail
  with_reducible refine (M1.out _).mono ?_
  rintro e w1 ⟨rfl, hb1⟩
  have h_T : w1.heap[w.heap.size]? = some (.cells #[.int .i64 a, .int .i64 b] 26 (0, 0)) := by
    refine Hand.kb hb1 ?_; simp (disch := first | omega | (simp only [Hand.sa, Hand.ss, Hand.sd, Hand.sn]; first | done | omega)) only [Hand.q2, Hand.q1, Hand.q5, Hand.q6, Hand.q4, Hand.q3] <;> rfl
  have hB' : Below w.heap.size w w1 := Hand.stepB hb1 (by repeat (with_reducible first | apply Below.refl _ _ | apply Below.drew | apply pw_below_drewN | (apply Below.setCell; rotate_left; (dsimp only; omega)) | (apply Below.alloc; rotate_left; (first | omega | (simp only [Hand.sa, Hand.ss, Hand.sd, Hand.sn]; omega))))) (Nat.le_refl _)
  clear hb1
  have g_T := h_T
  have hB := hB'
  clear hB' h_T
  obtain ⟨z_T, z1_T, z2_T, y0_T, y1_T⟩ := Hand.hz g_T
  obtain ⟨c_T_0, f_T_0, c_T_1, f_T_1⟩ := Hand.hc2 g_T
  have zw : w.heap.size ≤ w1.heap.size := hB.size
  have HG := Lib.hid (And.intro g_T (hB))
  clear g_T hB
  go_wp2
  have f1 : IntKind.i64.wrap (Int.tdiv 1000 b) = q := by rw [Int.tdiv_eq_ediv_of_nonneg (by omega), hq, IntKind.wrap_i64]; omega
  have f2 : IntKind.i64.wrap (a * q) = k := by rw [hk, IntKind.wrap_i64]; omega
  go_quiet (fail)
  clear f1 f2
  go_wp2
  obtain ⟨g_T, hB⟩ := HG.out
  obtain ⟨W, hW⟩ : ∃ W_, W_ = w1.drewN nq := ⟨_, rfl⟩
  rw [← hW]
  have h_T : W.heap[w.heap.size]? = some (.cells #[.int .i64 a, .int .i64 b] 26 (0, 0)) := by
    rw [hW]
    first | (simp (disch := first | with_reducible assumption | (with_reducible first | exact Nat.ne_of_lt (by assumption) | exact Nat.ne_of_gt (by assumption) | exact Ne.symm (by assumption)) | ((fail_if_success (refine Hand.trip (by with_reducible rfl) ?_)); first | omega | (simp only [Hand.sa, Hand.ss, Hand.sd, Hand.sn]; first | done | with_reducible assumption | omega))) only [Hand.q2, Hand.q1, Hand.q5, Hand.q6, Hand.q4, Hand.q3, g_T]; done) | (simp (disch := first | with_reducible assumption | (with_reducible first | exact Nat.ne_of_lt (by assumption) | exact Nat.ne_of_gt (by assumption) | exact Ne.symm (by assumption)) | ((fail_if_success (refine Hand.trip (by with_reducible rfl) ?_)); first | omega | (simp only [Hand.sa, Hand.ss, Hand.sd, Hand.sn]; first | done | with_reducible assumption | omega))) only [Hand.q2, Hand.q1, Hand.q5, Hand.q6, Hand.q4, Hand.q3, g_T]; rfl)
  have hB' : Below w.heap.size w W := by
    rw [hW]
    repeat (first | exact hB | (with_reducible first | apply Below.drew | apply pw_below_drewN | refine Below.setCell ?_ (by dsimp only; omega) _ | refine Below.alloc ?_ (by first | omega | (simp only [Hand.sa, Hand.ss, Hand.sd, Hand.sn]; omega)) _))
  clear HG hB g_T zw z_T z1_T z2_T y0_T y1_T c_T_0 f_T_0 c_T_1 f_T_1
  clear hW
  have g_T := h_T
  have hB := hB'
  clear hB' h_T
  obtain ⟨z_T, z1_T, z2_T, y0_T, y1_T⟩ := Hand.hz g_T
  obtain ⟨c_T_0, f_T_0, c_T_1, f_T_1⟩ := Hand.hc2 g_T
  have zw : w.heap.size ≤ W.heap.size := hB.size
  have HG := Lib.hid (And.intro g_T (hB))
  clear g_T hB
  have e1 : IntKind.i64.wrap (s.tdiv 3600) = h := by rw [Int.tdiv_eq_ediv_of_nonneg s0, hh, IntKind.wrap_i64]; omega
  have e2 : (IntKind.i64.wrap (s.tdiv 60)).tmod 60 = m := by rw [Int.tdiv_eq_ediv_of_nonneg s0, show IntKind.i64.wrap (s / 60) = s / 60 by rw [IntKind.wrap_i64]; omega, Int.tmod_eq_emod_of_nonneg (by omega), hm]
  have e3 : s.tmod 60 = se := by rw [Int.tmod_eq_emod_of_nonneg s0, hse]
  have e4 : k.tmod 1000 = rs := by rw [Int.tmod_eq_emod_of_nonneg k0, hrs]
  have e5 : IntKind.i64.wrap 999 = 999 := by decide
  have hD2 : D.size = 3 := by omega
  have p0 : (9223372036854775807 < S1.size + 1) = False := eq_false (by omega)
  have p1 : (9223372036854775807 < S1.size + 1 + S2.size) = False := eq_false (by omega)
  have p2 : (9223372036854775807 < S1.size + 1 + S2.size + 1) = False := eq_false (by omega)
  have p3 : (9223372036854775807 < S1.size + 1 + S2.size + 1 + S3.size) = False := eq_false (by omega)
  have p4 : (9223372036854775807 < S1.size + 1 + S2.size + 1 + S3.size + 1) = False := eq_false (by omega)
  have p5 : (9223372036854775807 < S1.size + 1 + S2.size + 1 + S3.size + 1 + S4.size) = False := eq_false (by omega)
  have HT3 := Lib.hid (show TabN W from (tab_below HT0.out (HG.out.2)))
  have HBW := Lib.hid (HG.out.2)
  have HK := Lib.hid (And.intro c_T_0 (c_T_1))
  have BD : Below W.heap.size W W.drew := Below.drew (Below.refl _ _)
  have BR : Below W.heap.size W W := Below.refl _ _
  go_region_held3 (fun w_ => Below w.heap.size w w_ ∧ w_.cell? ⟨w.heap.size, 0, none⟩ = some (.int .i64 a) ∧ w_.cell? ⟨w.heap.size, 1, none⟩ = some (.int .i64 b)) (first | with_reducible (refine ⟨?_, (Below.cell BR (p := ⟨w.heap.size, 0, none⟩) z_T).trans (HK.out.1), (Below.cell BR (p := ⟨w.heap.size, 1, none⟩) z_T).trans (HK.out.2)⟩; apply (HBW.out.trans (Below.mono BR zw))) | with_reducible (refine ⟨?_, (Below.cell BD (p := ⟨w.heap.size, 0, none⟩) z_T).trans (HK.out.1), (Below.cell BD (p := ⟨w.heap.size, 1, none⟩) z_T).trans (HK.out.2)⟩; apply (HBW.out.trans (Below.mono BD zw))) | with_reducible (refine ⟨?_, (Below.cell BB (p := ⟨w.heap.size, 0, none⟩) z_T).trans (HK.out.1), (Below.cell BB (p := ⟨w.heap.size, 1, none⟩) z_T).trans (HK.out.2)⟩; apply (HBW.out.trans (Below.mono BB zw))) | (refine ⟨?_, ?_, ?_⟩; (focus (repeat (with_reducible first | apply (HBW.out.trans (Below.mono BB zw)) | apply Below.drew | (apply Below.setCell; rotate_left; (dsimp only; omega)) | (apply Below.alloc; rotate_left; (first | omega | (simp only [Hand.sa, Hand.ss, Hand.sd, Hand.sn]; omega)))))); (repeat (with_reducible first | exact (Below.cell BB (p := ⟨w.heap.size, 0, none⟩) z_T).trans (HK.out.1) | refine Hand.cell_alloc ?_ | refine Hand.cell_drew ?_ | refine Hand.cell_far (by omega) ?_)); (repeat (with_reducible first | exact (Below.cell BB (p := ⟨w.heap.size, 1, none⟩) z_T).trans (HK.out.2) | refine Hand.cell_alloc ?_ | refine Hand.cell_drew ?_ | refine Hand.cell_far (by omega) ?_)))) (first | (go_at_call 46; ((with_reducible refine (M4.out _ (tab_below HT3.out (by assumption))).mono ?_); rintro e w4 ⟨rfl, hb_⟩; have BB : Below W.heap.size W w4 := Hand.stepB hb_ (by assumption) (Nat.le_refl _); have zB_w4 := Below.size BB; clear hb_)) | (go_at_call 46; ((with_reducible refine (M5.out _ (tab_below HT3.out (by assumption))).mono ?_); rintro e w5 ⟨rfl, hb_⟩; have BB : Below W.heap.size W w5 := Hand.stepB hb_ (by assumption) (Nat.le_refl _); have zB_w5 := Below.size BB; clear hb_)) | (go_at_call 46; ((with_reducible refine (M6.out _ (tab_below HT3.out (by assumption))).mono ?_); rintro e w6 ⟨rfl, hb_⟩; have BB : Below W.heap.size W w6 := Hand.stepB hb_ (by assumption) (Nat.le_refl _); have zB_w6 := Below.size BB; clear hb_)) | (go_at_call 65; ((with_reducible refine (M8.out _ (tab_below HT3.out (by assumption))).mono ?_); rintro e w8 ⟨rfl, hb_⟩; have BB : Below W.heap.size W w8 := Hand.stepB hb_ (by assumption) (Nat.le_refl _); have zB_w8 := Below.size BB; clear hb_)) | (go_at_call 46; ((with_reducible refine (M9.out _ (tab_below HT3.out (by assumption))).mono ?_); rintro e w9 ⟨rfl, hb_⟩; have BB : Below W.heap.size W w9 := Hand.stepB hb_ (by assumption) (Nat.le_refl _); have zB_w9 := Below.size BB; clear hb_)))
  go_wp2
  go_ret2
  obtain ⟨g_T, hB⟩ := HG.out
  exact ⟨rfl, hB.trans (Below.mono BB zw)⟩
set_option maxHeartbeats 800000 in
set_option maxRecDepth 100000 in
theorem clock_ok4 (a b q k s h m se rs : Int) (S1 S2 S3 S4 D : ByteArray) (b0 : 1 ≤ b) (b1 : b ≤ 1048576) (hz : (100 % b == 0) = true) (hq : 100 / b = q) (q0 : 0 ≤ q) (q1 : q ≤ 1000) (hk : a * q = k) (k0 : 0 ≤ k) (k1 : k ≤ 1000000000) (hs : k / 100 = s) (s0 : 0 ≤ s) (s1 : s ≤ 1000000000) (hh : s / 3600 = h) (hm : s / 60 % 60 = m) (hse : s % 60 = se) (hrs : k % 100 = rs)
    (q1 : S1.size ≤ 21) (q2 : S2.size ≤ 21) (q3 : S3.size ≤ 21) (q4 : S4.size ≤ 21) (hD : (D.size : Int) = 2) (w : World) (ht : TabN w)
    (m1 : ∀ w, Calls Tryd.prog 64 #[.agg #[.int .i64 a, .int .i64 b]] w fun e w' => e = .returned (.int .i64 0) ∧ Below w.heap.size w w')
    (m4 : ∀ w, TabN w → Calls Tryd.prog 46 #[.int .i64 h, .int .i64 1] w fun e w' => e = .returned (.string S1) ∧ Below w.heap.size w w')
    (m5 : ∀ w, TabN w → Calls Tryd.prog 46 #[.int .i64 m, .int .i64 2] w fun e w' => e = .returned (.string S2) ∧ Below w.heap.size w w')
    (m6 : ∀ w, TabN w → Calls Tryd.prog 46 #[.int .i64 se, .int .i64 2] w fun e w' => e = .returned (.string S3) ∧ Below w.heap.size w w')
    (m8 : ∀ w, TabN w → Calls Tryd.prog 65 #[.int .i64 99, .int .i64 10] w fun e w' => e = .returned (.string D) ∧ Below w.heap.size w w')
    (m9 : ∀ w, TabN w → Calls Tryd.prog 46 #[.int .i64 rs, .int .i64 2] w fun e w' => e = .returned (.string S4) ∧ Below w.heap.size w w') :
    Calls Tryd.prog 23 #[.int .i64 4, .agg #[.int .i64 a, .int .i64 b]] w fun e w' => e = .returned (.tuple #[.string (S1 ++ (⟨#[58]⟩ : ByteArray) ++ S2 ++ (⟨#[58]⟩ : ByteArray) ++ S3 ++ (⟨#[46]⟩ : ByteArray) ++ S4), .int .i64 0]) ∧ Below w.heap.size w w' := by
  have hz1 : 100 % b = 0 := by simpa using hz
  have hb2 : ¬ b = 0 := by omega
  have HT0 := Lib.hid ht
  have M1 := Lib.hid m1
  have M4 := Lib.hid m4
  have M5 := Lib.hid m5
  have M6 := Lib.hid m6
  have M8 := Lib.hid m8
  have M9 := Lib.hid m9
  clear m1 m4 m5 m6 m8 m9 ht
  go_enter Tryd.func23, Tryd.ntmps23
  go_wp2_with fail
  with_reducible refine (M1.out _).mono ?_
  rintro e w1 ⟨rfl, hb1⟩
  have h_T : w1.heap[w.heap.size]? = some (.cells #[.int .i64 a, .int .i64 b] 26 (0, 0)) := by
    refine Hand.kb hb1 ?_; simp (disch := first | omega | (simp only [Hand.sa, Hand.ss, Hand.sd, Hand.sn]; first | done | omega)) only [Hand.q2, Hand.q1, Hand.q5, Hand.q6, Hand.q4, Hand.q3] <;> rfl
  have hB' : Below w.heap.size w w1 := Hand.stepB hb1 (by repeat (with_reducible first | apply Below.refl _ _ | apply Below.drew | apply pw_below_drewN | (apply Below.setCell; rotate_left; (dsimp only; omega)) | (apply Below.alloc; rotate_left; (first | omega | (simp only [Hand.sa, Hand.ss, Hand.sd, Hand.sn]; omega))))) (Nat.le_refl _)
  clear hb1
  have g_T := h_T
  have hB := hB'
  clear hB' h_T
  obtain ⟨z_T, z1_T, z2_T, y0_T, y1_T⟩ := Hand.hz g_T
  obtain ⟨c_T_0, f_T_0, c_T_1, f_T_1⟩ := Hand.hc2 g_T
  have zw : w.heap.size ≤ w1.heap.size := hB.size
  have HG := Lib.hid (And.intro g_T (hB))
  clear g_T hB
  go_wp2
  have f1 : IntKind.i64.wrap (Int.tdiv 100 b) = q := by rw [Int.tdiv_eq_ediv_of_nonneg (by omega), hq, IntKind.wrap_i64]; omega
  have f2 : IntKind.i64.wrap (a * q) = k := by rw [hk, IntKind.wrap_i64]; omega
  go_quiet (fail)
  clear f1 f2
  go_wp2
  obtain ⟨g_T, hB⟩ := HG.out
  obtain ⟨W, hW⟩ : ∃ W_, W_ = w1.drewN nq := ⟨_, rfl⟩
  rw [← hW]
  have h_T : W.heap[w.heap.size]? = some (.cells #[.int .i64 a, .int .i64 b] 26 (0, 0)) := by
    rw [hW]
    first | (simp (disch := first | with_reducible assumption | (with_reducible first | exact Nat.ne_of_lt (by assumption) | exact Nat.ne_of_gt (by assumption) | exact Ne.symm (by assumption)) | ((fail_if_success (refine Hand.trip (by with_reducible rfl) ?_)); first | omega | (simp only [Hand.sa, Hand.ss, Hand.sd, Hand.sn]; first | done | with_reducible assumption | omega))) only [Hand.q2, Hand.q1, Hand.q5, Hand.q6, Hand.q4, Hand.q3, g_T]; done) | (simp (disch := first | with_reducible assumption | (with_reducible first | exact Nat.ne_of_lt (by assumption) | exact Nat.ne_of_gt (by assumption) | exact Ne.symm (by assumption)) | ((fail_if_success (refine Hand.trip (by with_reducible rfl) ?_)); first | omega | (simp only [Hand.sa, Hand.ss, Hand.sd, Hand.sn]; first | done | with_reducible assumption | omega))) only [Hand.q2, Hand.q1, Hand.q5, Hand.q6, Hand.q4, Hand.q3, g_T]; rfl)
  have hB' : Below w.heap.size w W := by
    rw [hW]
    repeat (first | exact hB | (with_reducible first | apply Below.drew | apply pw_below_drewN | refine Below.setCell ?_ (by dsimp only; omega) _ | refine Below.alloc ?_ (by first | omega | (simp only [Hand.sa, Hand.ss, Hand.sd, Hand.sn]; omega)) _))
  clear HG hB g_T zw z_T z1_T z2_T y0_T y1_T c_T_0 f_T_0 c_T_1 f_T_1
  clear hW
  have g_T := h_T
  have hB := hB'
  clear hB' h_T
  obtain ⟨z_T, z1_T, z2_T, y0_T, y1_T⟩ := Hand.hz g_T
  obtain ⟨c_T_0, f_T_0, c_T_1, f_T_1⟩ := Hand.hc2 g_T
  have zw : w.heap.size ≤ W.heap.size := hB.size
  have HG := Lib.hid (And.intro g_T (hB))
  clear g_T hB
  have e1 : IntKind.i64.wrap (s.tdiv 3600) = h := by rw [Int.tdiv_eq_ediv_of_nonneg s0, hh, IntKind.wrap_i64]; omega
  have e2 : (IntKind.i64.wrap (s.tdiv 60)).tmod 60 = m := by rw [Int.tdiv_eq_ediv_of_nonneg s0, show IntKind.i64.wrap (s / 60) = s / 60 by rw [IntKind.wrap_i64]; omega, Int.tmod_eq_emod_of_nonneg (by omega), hm]
  have e3 : s.tmod 60 = se := by rw [Int.tmod_eq_emod_of_nonneg s0, hse]
  have e4 : k.tmod 100 = rs := by rw [Int.tmod_eq_emod_of_nonneg k0, hrs]
  have e5 : IntKind.i64.wrap 99 = 99 := by decide
  have hD2 : D.size = 2 := by omega
  have p0 : (9223372036854775807 < S1.size + 1) = False := eq_false (by omega)
  have p1 : (9223372036854775807 < S1.size + 1 + S2.size) = False := eq_false (by omega)
  have p2 : (9223372036854775807 < S1.size + 1 + S2.size + 1) = False := eq_false (by omega)
  have p3 : (9223372036854775807 < S1.size + 1 + S2.size + 1 + S3.size) = False := eq_false (by omega)
  have p4 : (9223372036854775807 < S1.size + 1 + S2.size + 1 + S3.size + 1) = False := eq_false (by omega)
  have p5 : (9223372036854775807 < S1.size + 1 + S2.size + 1 + S3.size + 1 + S4.size) = False := eq_false (by omega)
  have HT3 := Lib.hid (show TabN W from (tab_below HT0.out (HG.out.2)))
  have HBW := Lib.hid (HG.out.2)
  have HK := Lib.hid (And.intro c_T_0 (c_T_1))
  have BD : Below W.heap.size W W.drew := Below.drew (Below.refl _ _)
  have BR : Below W.heap.size W W := Below.refl _ _
  go_region_held3 (fun w_ => Below w.heap.size w w_ ∧ w_.cell? ⟨w.heap.size, 0, none⟩ = some (.int .i64 a) ∧ w_.cell? ⟨w.heap.size, 1, none⟩ = some (.int .i64 b)) (first | with_reducible (refine ⟨?_, (Below.cell BR (p := ⟨w.heap.size, 0, none⟩) z_T).trans (HK.out.1), (Below.cell BR (p := ⟨w.heap.size, 1, none⟩) z_T).trans (HK.out.2)⟩; apply (HBW.out.trans (Below.mono BR zw))) | with_reducible (refine ⟨?_, (Below.cell BD (p := ⟨w.heap.size, 0, none⟩) z_T).trans (HK.out.1), (Below.cell BD (p := ⟨w.heap.size, 1, none⟩) z_T).trans (HK.out.2)⟩; apply (HBW.out.trans (Below.mono BD zw))) | with_reducible (refine ⟨?_, (Below.cell BB (p := ⟨w.heap.size, 0, none⟩) z_T).trans (HK.out.1), (Below.cell BB (p := ⟨w.heap.size, 1, none⟩) z_T).trans (HK.out.2)⟩; apply (HBW.out.trans (Below.mono BB zw))) | (refine ⟨?_, ?_, ?_⟩; (focus (repeat (with_reducible first | apply (HBW.out.trans (Below.mono BB zw)) | apply Below.drew | (apply Below.setCell; rotate_left; (dsimp only; omega)) | (apply Below.alloc; rotate_left; (first | omega | (simp only [Hand.sa, Hand.ss, Hand.sd, Hand.sn]; omega)))))); (repeat (with_reducible first | exact (Below.cell BB (p := ⟨w.heap.size, 0, none⟩) z_T).trans (HK.out.1) | refine Hand.cell_alloc ?_ | refine Hand.cell_drew ?_ | refine Hand.cell_far (by omega) ?_)); (repeat (with_reducible first | exact (Below.cell BB (p := ⟨w.heap.size, 1, none⟩) z_T).trans (HK.out.2) | refine Hand.cell_alloc ?_ | refine Hand.cell_drew ?_ | refine Hand.cell_far (by omega) ?_)))) (first | (go_at_call 46; ((with_reducible refine (M4.out _ (tab_below HT3.out (by assumption))).mono ?_); rintro e w4 ⟨rfl, hb_⟩; have BB : Below W.heap.size W w4 := Hand.stepB hb_ (by assumption) (Nat.le_refl _); have zB_w4 := Below.size BB; clear hb_)) | (go_at_call 46; ((with_reducible refine (M5.out _ (tab_below HT3.out (by assumption))).mono ?_); rintro e w5 ⟨rfl, hb_⟩; have BB : Below W.heap.size W w5 := Hand.stepB hb_ (by assumption) (Nat.le_refl _); have zB_w5 := Below.size BB; clear hb_)) | (go_at_call 46; ((with_reducible refine (M6.out _ (tab_below HT3.out (by assumption))).mono ?_); rintro e w6 ⟨rfl, hb_⟩; have BB : Below W.heap.size W w6 := Hand.stepB hb_ (by assumption) (Nat.le_refl _); have zB_w6 := Below.size BB; clear hb_)) | (go_at_call 65; ((with_reducible refine (M8.out _ (tab_below HT3.out (by assumption))).mono ?_); rintro e w8 ⟨rfl, hb_⟩; have BB : Below W.heap.size W w8 := Hand.stepB hb_ (by assumption) (Nat.le_refl _); have zB_w8 := Below.size BB; clear hb_)) | (go_at_call 46; ((with_reducible refine (M9.out _ (tab_below HT3.out (by assumption))).mono ?_); rintro e w9 ⟨rfl, hb_⟩; have BB : Below W.heap.size W w9 := Hand.stepB hb_ (by assumption) (Nat.le_refl _); have zB_w9 := Below.size BB; clear hb_)))
  go_wp2
  go_ret2
  obtain ⟨g_T, hB⟩ := HG.out
  exact ⟨rfl, hB.trans (Below.mono BB zw)⟩
end Go.Proofs.YtghiibdhibcbaaaDoor.PA
