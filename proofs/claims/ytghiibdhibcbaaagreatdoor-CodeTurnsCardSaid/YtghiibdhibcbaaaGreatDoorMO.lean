/- The reference: Clock. The reference: Clock told at all inputs. RateText, of code and of the reference. RateText told at all inputs. -/
import Derived.Test.YtghiibdhibcbaaaGreatDoorMI
import Derived.Deep.RegionHeld3
namespace Go.Proofs.YtghiibdhibcbaaaGreatDoor.PA
open Go Go.RowKit Go.Proofs.YtghiibdhibcbaaaGreatDoorW.PrintWords Go.Proofs.YtghiibdhibcbaaaGreatDoorW.PrintLast Go.Proofs.YtghiibdhibcbaaaGreatDoorW.PrintMore Go.Proofs.YtghiibdhibcbaaaGreatDoor.CS
set_option linter.unusedSimpArgs false
set_option linter.unusedVariables false
set_option maxHeartbeats 800000 in
set_option maxRecDepth 100000 in
theorem rclock_kind (a b f : Int) (w : World)
    (m0 : ∀ w, Calls Tryz.prog 27 #[.int .i64 f] w fun e w' => e = .returned (.int .i64 0) ∧ Below w.heap.size w w') :
    Calls Tryz.prog 7 #[.int .i64 f, .agg #[.int .i64 a, .int .i64 b]] w fun e w' => e = .returned (.tuple #[.string ⟨#[]⟩, .int .i64 5]) ∧ Below w.heap.size w w' := by
  have M0 := Lib.hid m0
  clear m0
  go_enter Tryz.func7, Tryz.ntmps7
  go_wp2_with fail
  with_reducible refine (M0.out _).mono ?_
  rintro e w1 ⟨rfl, hb1⟩
  have h_T : w1.heap[w.heap.size]? = some (.cells #[.int .i64 a, .int .i64 b] 30 (0, 0)) := by
    refine Hand.kb hb1 ?_; simp (disch := first | omega | (simp only [Hand.sa, Hand.ss, Hand.sd, Hand.sn]; first | done | omega)) only [Hand.q2, Hand.q1, Hand.q5, Hand.q6, Hand.q4, Hand.q3] <;> rfl
  have hB' : Below w.heap.size w w1 := Hand.stepB hb1 (by repeat (with_reducible first | apply Below.refl _ _ | apply Below.drew | apply pw_below_drewN | (apply Below.setCell; rotate_left; (dsimp only; omega)) | (apply Below.alloc; rotate_left; (first | omega | (simp only [Hand.sa, Hand.ss, Hand.sd, Hand.sn]; omega))))) (Nat.le_refl _)
  clear hb1
  have g_T := h_T
  have hB := hB'
  clear hB' h_T
  obtain ⟨z_T, z1_T, z2_T, y0_T, y1_T⟩ := Hand.hz g_T
  obtain ⟨c_T_0, f_T_0, c_T_1, f_T_1⟩ := Hand.hc2 g_T
  have zw : w.heap.size ≤ w1.heap.size := hB.size
  have HG := Lib.hid (And.intro g_T (hB))
  clear g_T hB
  go_wp2
  go_ret2
  obtain ⟨g_T, hB⟩ := HG.out
  exact ⟨rfl, hB⟩
set_option maxHeartbeats 800000 in
set_option maxRecDepth 100000 in
theorem rclock_time1 (a b c : Int) (hc : (c == 0) = false) (w : World)
    (m0 : ∀ w, Calls Tryz.prog 27 #[.int .i64 1] w fun e w' => e = .returned (.int .i64 1000) ∧ Below w.heap.size w w')
    (m1 : ∀ w, Calls Tryz.prog 28 #[.agg #[.int .i64 a, .int .i64 b]] w fun e w' => e = .returned (.int .i64 c) ∧ Below w.heap.size w w') :
    Calls Tryz.prog 7 #[.int .i64 1, .agg #[.int .i64 a, .int .i64 b]] w fun e w' => e = .returned (.tuple #[.string ⟨#[]⟩, .int .i64 c]) ∧ Below w.heap.size w w' := by
  have M0 := Lib.hid m0
  have M1 := Lib.hid m1
  clear m0 m1
  go_enter Tryz.func7, Tryz.ntmps7
  go_wp2_with fail
  with_reducible refine (M0.out _).mono ?_
  rintro e w1 ⟨rfl, hb1⟩
  have h_T : w1.heap[w.heap.size]? = some (.cells #[.int .i64 a, .int .i64 b] 30 (0, 0)) := by
    refine Hand.kb hb1 ?_; simp (disch := first | omega | (simp only [Hand.sa, Hand.ss, Hand.sd, Hand.sn]; first | done | omega)) only [Hand.q2, Hand.q1, Hand.q5, Hand.q6, Hand.q4, Hand.q3] <;> rfl
  have hB' : Below w.heap.size w w1 := Hand.stepB hb1 (by repeat (with_reducible first | apply Below.refl _ _ | apply Below.drew | apply pw_below_drewN | (apply Below.setCell; rotate_left; (dsimp only; omega)) | (apply Below.alloc; rotate_left; (first | omega | (simp only [Hand.sa, Hand.ss, Hand.sd, Hand.sn]; omega))))) (Nat.le_refl _)
  clear hb1
  have g_T := h_T
  have hB := hB'
  clear hB' h_T
  obtain ⟨z_T, z1_T, z2_T, y0_T, y1_T⟩ := Hand.hz g_T
  obtain ⟨c_T_0, f_T_0, c_T_1, f_T_1⟩ := Hand.hc2 g_T
  have zw : w.heap.size ≤ w1.heap.size := hB.size
  have HG := Lib.hid (And.intro g_T (hB))
  clear g_T hB
  go_wp2_with fail
  with_reducible refine (M1.out _).mono ?_
  rintro e w2 ⟨rfl, hb2⟩
  obtain ⟨g_T, hB⟩ := HG.out
  have h_T : w2.heap[w.heap.size]? = some (.cells #[.int .i64 a, .int .i64 b] 30 (0, 0)) := by
    refine Hand.kb hb2 ?_; first | with_reducible exact g_T | (simp (disch := first | omega | (simp only [Hand.sa, Hand.ss, Hand.sd, Hand.sn]; first | done | omega)) only [Hand.q2, Hand.q1, Hand.q5, Hand.q6, Hand.q4, Hand.q3, g_T] <;> rfl)
  have hB' : Below w.heap.size w w2 := Hand.stepB hb2 (by repeat (with_reducible first | apply hB | apply Below.drew | apply pw_below_drewN | (apply Below.setCell; rotate_left; (dsimp only; omega)) | (apply Below.alloc; rotate_left; (first | omega | (simp only [Hand.sa, Hand.ss, Hand.sd, Hand.sn]; omega))))) (Nat.le_refl _)
  clear HG hB g_T zw z_T z1_T z2_T y0_T y1_T c_T_0 f_T_0 c_T_1 f_T_1
  clear hb2
  have g_T := h_T
  have hB := hB'
  clear hB' h_T
  obtain ⟨z_T, z1_T, z2_T, y0_T, y1_T⟩ := Hand.hz g_T
  obtain ⟨c_T_0, f_T_0, c_T_1, f_T_1⟩ := Hand.hc2 g_T
  have zw : w.heap.size ≤ w2.heap.size := hB.size
  have HG := Lib.hid (And.intro g_T (hB))
  clear g_T hB
  go_wp2
  go_ret2
  obtain ⟨g_T, hB⟩ := HG.out
  exact ⟨rfl, hB⟩
set_option maxHeartbeats 800000 in
set_option maxRecDepth 100000 in
theorem rclock_arg1 (a b : Int) (b0 : 1 ≤ b) (b1 : b ≤ 1048576) (hz : (1000 % b == 0) = false) (w : World)
    (m0 : ∀ w, Calls Tryz.prog 27 #[.int .i64 1] w fun e w' => e = .returned (.int .i64 1000) ∧ Below w.heap.size w w')
    (m1 : ∀ w, Calls Tryz.prog 28 #[.agg #[.int .i64 a, .int .i64 b]] w fun e w' => e = .returned (.int .i64 0) ∧ Below w.heap.size w w') :
    Calls Tryz.prog 7 #[.int .i64 1, .agg #[.int .i64 a, .int .i64 b]] w fun e w' => e = .returned (.tuple #[.string ⟨#[]⟩, .int .i64 1]) ∧ Below w.heap.size w w' := by
  have hz1 : ¬ (1000 % b = 0) := by simpa using hz
  have hb2 : ¬ b = 0 := by omega
  have M0 := Lib.hid m0
  have M1 := Lib.hid m1
  clear m0 m1
  go_enter Tryz.func7, Tryz.ntmps7
  go_wp2_with fail
  with_reducible refine (M0.out _).mono ?_
  rintro e w1 ⟨rfl, hb1⟩
  have h_T : w1.heap[w.heap.size]? = some (.cells #[.int .i64 a, .int .i64 b] 30 (0, 0)) := by
    refine Hand.kb hb1 ?_; simp (disch := first | omega | (simp only [Hand.sa, Hand.ss, Hand.sd, Hand.sn]; first | done | omega)) only [Hand.q2, Hand.q1, Hand.q5, Hand.q6, Hand.q4, Hand.q3] <;> rfl
  have hB' : Below w.heap.size w w1 := Hand.stepB hb1 (by repeat (with_reducible first | apply Below.refl _ _ | apply Below.drew | apply pw_below_drewN | (apply Below.setCell; rotate_left; (dsimp only; omega)) | (apply Below.alloc; rotate_left; (first | omega | (simp only [Hand.sa, Hand.ss, Hand.sd, Hand.sn]; omega))))) (Nat.le_refl _)
  clear hb1
  have g_T := h_T
  have hB := hB'
  clear hB' h_T
  obtain ⟨z_T, z1_T, z2_T, y0_T, y1_T⟩ := Hand.hz g_T
  obtain ⟨c_T_0, f_T_0, c_T_1, f_T_1⟩ := Hand.hc2 g_T
  have zw : w.heap.size ≤ w1.heap.size := hB.size
  have HG := Lib.hid (And.intro g_T (hB))
  clear g_T hB
  go_wp2_with fail
  with_reducible refine (M1.out _).mono ?_
  rintro e w2 ⟨rfl, hb2⟩
  obtain ⟨g_T, hB⟩ := HG.out
  have h_T : w2.heap[w.heap.size]? = some (.cells #[.int .i64 a, .int .i64 b] 30 (0, 0)) := by
    refine Hand.kb hb2 ?_; first | with_reducible exact g_T | (simp (disch := first | omega | (simp only [Hand.sa, Hand.ss, Hand.sd, Hand.sn]; first | done | omega)) only [Hand.q2, Hand.q1, Hand.q5, Hand.q6, Hand.q4, Hand.q3, g_T] <;> rfl)
  have hB' : Below w.heap.size w w2 := Hand.stepB hb2 (by repeat (with_reducible first | apply hB | apply Below.drew | apply pw_below_drewN | (apply Below.setCell; rotate_left; (dsimp only; omega)) | (apply Below.alloc; rotate_left; (first | omega | (simp only [Hand.sa, Hand.ss, Hand.sd, Hand.sn]; omega))))) (Nat.le_refl _)
  clear HG hB g_T zw z_T z1_T z2_T y0_T y1_T c_T_0 f_T_0 c_T_1 f_T_1
  clear hb2
  have g_T := h_T
  have hB := hB'
  clear hB' h_T
  obtain ⟨z_T, z1_T, z2_T, y0_T, y1_T⟩ := Hand.hz g_T
  obtain ⟨c_T_0, f_T_0, c_T_1, f_T_1⟩ := Hand.hc2 g_T
  have zw : w.heap.size ≤ w2.heap.size := hB.size
  have HG := Lib.hid (And.intro g_T (hB))
  clear g_T hB
  go_wp2
  go_ret2
  obtain ⟨g_T, hB⟩ := HG.out
  exact ⟨rfl, hB⟩
set_option maxHeartbeats 1600000 in
set_option maxRecDepth 100000 in
theorem rclock_ok1 (a b q k s h m se rs : Int) (S0 S1 S2 S3 S4 : ByteArray) (b0 : 1 ≤ b) (b1 : b ≤ 1048576) (hz : (1000 % b == 0) = true) (hq : 1000 / b = q) (q0 : 0 ≤ q) (q1 : q ≤ 1000) (hk : a * q = k) (k0 : 0 ≤ k) (k1 : k ≤ 1000000000) (hs : k / 1000 = s) (s0 : 0 ≤ s) (s1 : s ≤ 1000000000) (hh : s / 3600 = h) (hm : s / 60 % 60 = m) (hse : s % 60 = se) (hrs : k % 1000 = rs)
    (q1 : S1.size ≤ 21) (q2 : S2.size ≤ 21) (q3 : S3.size ≤ 21) (q4 : S4.size ≤ 21) (w : World)
    (m0 : ∀ w, Calls Tryz.prog 27 #[.int .i64 1] w fun e w' => e = .returned (.int .i64 1000) ∧ Below w.heap.size w w')
    (m1 : ∀ w, Calls Tryz.prog 28 #[.agg #[.int .i64 a, .int .i64 b]] w fun e w' => e = .returned (.int .i64 0) ∧ Below w.heap.size w w')
    (m3 : ∀ w, Calls Tryz.prog 25 #[.int .i64 h, .int .i64 2] w fun e w' => e = .returned (.string S1) ∧ Below w.heap.size w w')
    (m5 : ∀ w, Calls Tryz.prog 25 #[.int .i64 m, .int .i64 2] w fun e w' => e = .returned (.string S2) ∧ Below w.heap.size w w')
    (m6 : ∀ w, Calls Tryz.prog 25 #[.int .i64 se, .int .i64 2] w fun e w' => e = .returned (.string S3) ∧ Below w.heap.size w w')
    (m9 : ∀ w, Calls Tryz.prog 25 #[.int .i64 rs, .int .i64 3] w fun e w' => e = .returned (.string S4) ∧ Below w.heap.size w w') :
    Calls Tryz.prog 7 #[.int .i64 1, .agg #[.int .i64 a, .int .i64 b]] w fun e w' => e = .returned (.tuple #[.string (S1 ++ (⟨#[58]⟩ : ByteArray) ++ S2 ++ (⟨#[58]⟩ : ByteArray) ++ S3 ++ (⟨#[44]⟩ : ByteArray) ++ S4), .int .i64 0]) ∧ Below w.heap.size w w' := by
  have hz1 : 1000 % b = 0 := by simpa using hz
  have hb2 : ¬ b = 0 := by omega
  have M0 := Lib.hid m0
  have M1 := Lib.hid m1
  have M3 := Lib.hid m3
  have M5 := Lib.hid m5
  have M6 := Lib.hid m6
  have M9 := Lib.hid m9
  clear m0 m1 m3 m5 m6 m9
  go_enter Tryz.func7, Tryz.ntmps7
  go_wp2_with fail
  with_reducible refine (M0.out _).mono ?_
  rintro e w1 ⟨rfl, hb1⟩
  have h_T : w1.heap[w.heap.size]? = some (.cells #[.int .i64 a, .int .i64 b] 30 (0, 0)) := by
    refine Hand.kb hb1 ?_; simp (disch := first | omega | (simp only [Hand.sa, Hand.ss, Hand.sd, Hand.sn]; first | done | omega)) only [Hand.q2, Hand.q1, Hand.q5, Hand.q6, Hand.q4, Hand.q3] <;> rfl
  have hB' : Below w.heap.size w w1 := Hand.stepB hb1 (by repeat (with_reducible first | apply Below.refl _ _ | apply Below.drew | apply pw_below_drewN | (apply Below.setCell; rotate_left; (dsimp only; omega)) | (apply Below.alloc; rotate_left; (first | omega | (simp only [Hand.sa, Hand.ss, Hand.sd, Hand.sn]; omega))))) (Nat.le_refl _)
  clear hb1
  have g_T := h_T
  have hB := hB'
  clear hB' h_T
  obtain ⟨z_T, z1_T, z2_T, y0_T, y1_T⟩ := Hand.hz g_T
  obtain ⟨c_T_0, f_T_0, c_T_1, f_T_1⟩ := Hand.hc2 g_T
  have zw : w.heap.size ≤ w1.heap.size := hB.size
  have HG := Lib.hid (And.intro g_T (hB))
  clear g_T hB
  go_wp2_with fail
  with_reducible refine (M1.out _).mono ?_
  rintro e w2 ⟨rfl, hb2⟩
  obtain ⟨g_T, hB⟩ := HG.out
  have h_T : w2.heap[w.heap.size]? = some (.cells #[.int .i64 a, .int .i64 b] 30 (0, 0)) := by
    refine Hand.kb hb2 ?_; first | with_reducible exact g_T | (simp (disch := first | omega | (simp only [Hand.sa, Hand.ss, Hand.sd, Hand.sn]; first | done | omega)) only [Hand.q2, Hand.q1, Hand.q5, Hand.q6, Hand.q4, Hand.q3, g_T] <;> rfl)
  have hB' : Below w.heap.size w w2 := Hand.stepB hb2 (by repeat (with_reducible first | apply hB | apply Below.drew | apply pw_below_drewN | (apply Below.setCell; rotate_left; (dsimp only; omega)) | (apply Below.alloc; rotate_left; (first | omega | (simp only [Hand.sa, Hand.ss, Hand.sd, Hand.sn]; omega))))) (Nat.le_refl _)
  clear HG hB g_T zw z_T z1_T z2_T y0_T y1_T c_T_0 f_T_0 c_T_1 f_T_1
  clear hb2
  have g_T := h_T
  have hB := hB'
  clear hB' h_T
  obtain ⟨z_T, z1_T, z2_T, y0_T, y1_T⟩ := Hand.hz g_T
  obtain ⟨c_T_0, f_T_0, c_T_1, f_T_1⟩ := Hand.hc2 g_T
  have zw : w.heap.size ≤ w2.heap.size := hB.size
  have HG := Lib.hid (And.intro g_T (hB))
  clear g_T hB
  go_wp2
  have f1 : IntKind.i64.wrap (Int.tdiv 1000 b) = q := by rw [Int.tdiv_eq_ediv_of_nonneg (by omega), hq, IntKind.wrap_i64]; omega
  have f2 : IntKind.i64.wrap (a * q) = k := by rw [hk, IntKind.wrap_i64]; omega
  go_quiet (fail)
  clear f1 f2
  go_wp2_with fail
  with_reducible refine (M3.out _).mono ?_
  rintro e w3 ⟨rfl, hb3⟩
  obtain ⟨g_T, hB⟩ := HG.out
  have h_T : w3.heap[w.heap.size]? = some (.cells #[.int .i64 a, .int .i64 b] 30 (0, 0)) := by
    refine Hand.kb hb3 ?_; first | with_reducible exact g_T | (simp (disch := first | omega | (simp only [Hand.sa, Hand.ss, Hand.sd, Hand.sn]; first | done | omega)) only [Hand.q2, Hand.q1, Hand.q5, Hand.q6, Hand.q4, Hand.q3, g_T] <;> rfl)
  have hB' : Below w.heap.size w w3 := Hand.stepB hb3 (by repeat (with_reducible first | apply hB | apply Below.drew | apply pw_below_drewN | (apply Below.setCell; rotate_left; (dsimp only; omega)) | (apply Below.alloc; rotate_left; (first | omega | (simp only [Hand.sa, Hand.ss, Hand.sd, Hand.sn]; omega))))) (Nat.le_refl _)
  clear HG hB g_T zw z_T z1_T z2_T y0_T y1_T c_T_0 f_T_0 c_T_1 f_T_1
  clear hb3
  have g_T := h_T
  have hB := hB'
  clear hB' h_T
  obtain ⟨z_T, z1_T, z2_T, y0_T, y1_T⟩ := Hand.hz g_T
  obtain ⟨c_T_0, f_T_0, c_T_1, f_T_1⟩ := Hand.hc2 g_T
  have zw : w.heap.size ≤ w3.heap.size := hB.size
  have HG := Lib.hid (And.intro g_T (hB))
  clear g_T hB
  go_wp2
  have e2 : (IntKind.i64.wrap (s.tdiv 60)).tmod 60 = m := by rw [Int.tdiv_eq_ediv_of_nonneg s0, show IntKind.i64.wrap (s / 60) = s / 60 by rw [IntKind.wrap_i64]; omega, Int.tmod_eq_emod_of_nonneg (by omega), hm]
  have e3 : s.tmod 60 = se := by rw [Int.tmod_eq_emod_of_nonneg s0, hse]
  have e4 : k.tmod 1000 = rs := by rw [Int.tmod_eq_emod_of_nonneg k0, hrs]
  have p0 : (9223372036854775807 < S1.size + 1) = False := eq_false (by omega)
  have p1 : (9223372036854775807 < S1.size + 1 + S2.size) = False := eq_false (by omega)
  have p2 : (9223372036854775807 < S1.size + 1 + S2.size + 1) = False := eq_false (by omega)
  have p3 : (9223372036854775807 < S1.size + 1 + S2.size + 1 + S3.size) = False := eq_false (by omega)
  have p4 : (9223372036854775807 < S1.size + 1 + S2.size + 1 + S3.size + 1) = False := eq_false (by omega)
  have p5 : (9223372036854775807 < S1.size + 1 + S2.size + 1 + S3.size + 1 + S4.size) = False := eq_false (by omega)
  have HBW := Lib.hid (HG.out.2)
  have HK := Lib.hid (And.intro c_T_0 (c_T_1))
  have BD : Below w3.heap.size w3 w3.drew := Below.drew (Below.refl _ _)
  have BR : Below w3.heap.size w3 w3 := Below.refl _ _
  go_region_held3 (fun w_ => Below w.heap.size w w_ ∧ w_.cell? ⟨w.heap.size, 0, none⟩ = some (.int .i64 a) ∧ w_.cell? ⟨w.heap.size, 1, none⟩ = some (.int .i64 b)) (first | with_reducible (refine ⟨?_, (Below.cell BR (p := ⟨w.heap.size, 0, none⟩) z_T).trans (HK.out.1), (Below.cell BR (p := ⟨w.heap.size, 1, none⟩) z_T).trans (HK.out.2)⟩; apply (HBW.out.trans (Below.mono BR zw))) | with_reducible (refine ⟨?_, (Below.cell BD (p := ⟨w.heap.size, 0, none⟩) z_T).trans (HK.out.1), (Below.cell BD (p := ⟨w.heap.size, 1, none⟩) z_T).trans (HK.out.2)⟩; apply (HBW.out.trans (Below.mono BD zw))) | with_reducible (refine ⟨?_, (Below.cell BB (p := ⟨w.heap.size, 0, none⟩) z_T).trans (HK.out.1), (Below.cell BB (p := ⟨w.heap.size, 1, none⟩) z_T).trans (HK.out.2)⟩; apply (HBW.out.trans (Below.mono BB zw))) | (refine ⟨?_, ?_, ?_⟩; (focus (repeat (with_reducible first | apply (HBW.out.trans (Below.mono BB zw)) | apply Below.drew | (apply Below.setCell; rotate_left; (dsimp only; omega)) | (apply Below.alloc; rotate_left; (first | omega | (simp only [Hand.sa, Hand.ss, Hand.sd, Hand.sn]; omega)))))); (repeat (with_reducible first | exact (Below.cell BB (p := ⟨w.heap.size, 0, none⟩) z_T).trans (HK.out.1) | refine Hand.cell_alloc ?_ | refine Hand.cell_drew ?_ | refine Hand.cell_far (by omega) ?_)); (repeat (with_reducible first | exact (Below.cell BB (p := ⟨w.heap.size, 1, none⟩) z_T).trans (HK.out.2) | refine Hand.cell_alloc ?_ | refine Hand.cell_drew ?_ | refine Hand.cell_far (by omega) ?_)))) (first | (go_at_call 25; ((with_reducible refine (M5.out _).mono ?_); rintro e w5 ⟨rfl, hb_⟩; have BB : Below w3.heap.size w3 w5 := Hand.stepB hb_ (by assumption) (Nat.le_refl _); have zB_w5 := Below.size BB; clear hb_)) | (go_at_call 25; ((with_reducible refine (M6.out _).mono ?_); rintro e w6 ⟨rfl, hb_⟩; have BB : Below w3.heap.size w3 w6 := Hand.stepB hb_ (by assumption) (Nat.le_refl _); have zB_w6 := Below.size BB; clear hb_)) | (go_at_call 25; ((with_reducible refine (M9.out _).mono ?_); rintro e w9 ⟨rfl, hb_⟩; have BB : Below w3.heap.size w3 w9 := Hand.stepB hb_ (by assumption) (Nat.le_refl _); have zB_w9 := Below.size BB; clear hb_)))
  go_wp2
  go_ret2
  obtain ⟨g_T, hB⟩ := HG.out
  exact ⟨rfl, hB.trans (Below.mono BB zw)⟩
set_option maxHeartbeats 800000 in
set_option maxRecDepth 100000 in
theorem rclock_time2 (a b c : Int) (hc : (c == 0) = false) (w : World)
    (m0 : ∀ w, Calls Tryz.prog 27 #[.int .i64 2] w fun e w' => e = .returned (.int .i64 1000) ∧ Below w.heap.size w w')
    (m1 : ∀ w, Calls Tryz.prog 28 #[.agg #[.int .i64 a, .int .i64 b]] w fun e w' => e = .returned (.int .i64 c) ∧ Below w.heap.size w w') :
    Calls Tryz.prog 7 #[.int .i64 2, .agg #[.int .i64 a, .int .i64 b]] w fun e w' => e = .returned (.tuple #[.string ⟨#[]⟩, .int .i64 c]) ∧ Below w.heap.size w w' := by
  have M0 := Lib.hid m0
  have M1 := Lib.hid m1
  clear m0 m1
  go_enter Tryz.func7, Tryz.ntmps7
  go_wp2_with fail
  with_reducible refine (M0.out _).mono ?_
  rintro e w1 ⟨rfl, hb1⟩
  have h_T : w1.heap[w.heap.size]? = some (.cells #[.int .i64 a, .int .i64 b] 30 (0, 0)) := by
    refine Hand.kb hb1 ?_; simp (disch := first | omega | (simp only [Hand.sa, Hand.ss, Hand.sd, Hand.sn]; first | done | omega)) only [Hand.q2, Hand.q1, Hand.q5, Hand.q6, Hand.q4, Hand.q3] <;> rfl
  have hB' : Below w.heap.size w w1 := Hand.stepB hb1 (by repeat (with_reducible first | apply Below.refl _ _ | apply Below.drew | apply pw_below_drewN | (apply Below.setCell; rotate_left; (dsimp only; omega)) | (apply Below.alloc; rotate_left; (first | omega | (simp only [Hand.sa, Hand.ss, Hand.sd, Hand.sn]; omega))))) (Nat.le_refl _)
  clear hb1
  have g_T := h_T
  have hB := hB'
  clear hB' h_T
  obtain ⟨z_T, z1_T, z2_T, y0_T, y1_T⟩ := Hand.hz g_T
  obtain ⟨c_T_0, f_T_0, c_T_1, f_T_1⟩ := Hand.hc2 g_T
  have zw : w.heap.size ≤ w1.heap.size := hB.size
  have HG := Lib.hid (And.intro g_T (hB))
  clear g_T hB
  go_wp2_with fail
  with_reducible refine (M1.out _).mono ?_
  rintro e w2 ⟨rfl, hb2⟩
  obtain ⟨g_T, hB⟩ := HG.out
  have h_T : w2.heap[w.heap.size]? = some (.cells #[.int .i64 a, .int .i64 b] 30 (0, 0)) := by
    refine Hand.kb hb2 ?_; first | with_reducible exact g_T | (simp (disch := first | omega | (simp only [Hand.sa, Hand.ss, Hand.sd, Hand.sn]; first | done | omega)) only [Hand.q2, Hand.q1, Hand.q5, Hand.q6, Hand.q4, Hand.q3, g_T] <;> rfl)
  have hB' : Below w.heap.size w w2 := Hand.stepB hb2 (by repeat (with_reducible first | apply hB | apply Below.drew | apply pw_below_drewN | (apply Below.setCell; rotate_left; (dsimp only; omega)) | (apply Below.alloc; rotate_left; (first | omega | (simp only [Hand.sa, Hand.ss, Hand.sd, Hand.sn]; omega))))) (Nat.le_refl _)
  clear HG hB g_T zw z_T z1_T z2_T y0_T y1_T c_T_0 f_T_0 c_T_1 f_T_1
  clear hb2
  have g_T := h_T
  have hB := hB'
  clear hB' h_T
  obtain ⟨z_T, z1_T, z2_T, y0_T, y1_T⟩ := Hand.hz g_T
  obtain ⟨c_T_0, f_T_0, c_T_1, f_T_1⟩ := Hand.hc2 g_T
  have zw : w.heap.size ≤ w2.heap.size := hB.size
  have HG := Lib.hid (And.intro g_T (hB))
  clear g_T hB
  go_wp2
  go_ret2
  obtain ⟨g_T, hB⟩ := HG.out
  exact ⟨rfl, hB⟩
set_option maxHeartbeats 800000 in
set_option maxRecDepth 100000 in
theorem rclock_arg2 (a b : Int) (b0 : 1 ≤ b) (b1 : b ≤ 1048576) (hz : (1000 % b == 0) = false) (w : World)
    (m0 : ∀ w, Calls Tryz.prog 27 #[.int .i64 2] w fun e w' => e = .returned (.int .i64 1000) ∧ Below w.heap.size w w')
    (m1 : ∀ w, Calls Tryz.prog 28 #[.agg #[.int .i64 a, .int .i64 b]] w fun e w' => e = .returned (.int .i64 0) ∧ Below w.heap.size w w') :
    Calls Tryz.prog 7 #[.int .i64 2, .agg #[.int .i64 a, .int .i64 b]] w fun e w' => e = .returned (.tuple #[.string ⟨#[]⟩, .int .i64 1]) ∧ Below w.heap.size w w' := by
  have hz1 : ¬ (1000 % b = 0) := by simpa using hz
  have hb2 : ¬ b = 0 := by omega
  have M0 := Lib.hid m0
  have M1 := Lib.hid m1
  clear m0 m1
  go_enter Tryz.func7, Tryz.ntmps7
  go_wp2_with fail
  with_reducible refine (M0.out _).mono ?_
  rintro e w1 ⟨rfl, hb1⟩
  have h_T : w1.heap[w.heap.size]? = some (.cells #[.int .i64 a, .int .i64 b] 30 (0, 0)) := by
    refine Hand.kb hb1 ?_; simp (disch := first | omega | (simp only [Hand.sa, Hand.ss, Hand.sd, Hand.sn]; first | done | omega)) only [Hand.q2, Hand.q1, Hand.q5, Hand.q6, Hand.q4, Hand.q3] <;> rfl
  have hB' : Below w.heap.size w w1 := Hand.stepB hb1 (by repeat (with_reducible first | apply Below.refl _ _ | apply Below.drew | apply pw_below_drewN | (apply Below.setCell; rotate_left; (dsimp only; omega)) | (apply Below.alloc; rotate_left; (first | omega | (simp only [Hand.sa, Hand.ss, Hand.sd, Hand.sn]; omega))))) (Nat.le_refl _)
  clear hb1
  have g_T := h_T
  have hB := hB'
  clear hB' h_T
  obtain ⟨z_T, z1_T, z2_T, y0_T, y1_T⟩ := Hand.hz g_T
  obtain ⟨c_T_0, f_T_0, c_T_1, f_T_1⟩ := Hand.hc2 g_T
  have zw : w.heap.size ≤ w1.heap.size := hB.size
  have HG := Lib.hid (And.intro g_T (hB))
  clear g_T hB
  go_wp2_with fail
  with_reducible refine (M1.out _).mono ?_
  rintro e w2 ⟨rfl, hb2⟩
  obtain ⟨g_T, hB⟩ := HG.out
  have h_T : w2.heap[w.heap.size]? = some (.cells #[.int .i64 a, .int .i64 b] 30 (0, 0)) := by
    refine Hand.kb hb2 ?_; first | with_reducible exact g_T | (simp (disch := first | omega | (simp only [Hand.sa, Hand.ss, Hand.sd, Hand.sn]; first | done | omega)) only [Hand.q2, Hand.q1, Hand.q5, Hand.q6, Hand.q4, Hand.q3, g_T] <;> rfl)
  have hB' : Below w.heap.size w w2 := Hand.stepB hb2 (by repeat (with_reducible first | apply hB | apply Below.drew | apply pw_below_drewN | (apply Below.setCell; rotate_left; (dsimp only; omega)) | (apply Below.alloc; rotate_left; (first | omega | (simp only [Hand.sa, Hand.ss, Hand.sd, Hand.sn]; omega))))) (Nat.le_refl _)
  clear HG hB g_T zw z_T z1_T z2_T y0_T y1_T c_T_0 f_T_0 c_T_1 f_T_1
  clear hb2
  have g_T := h_T
  have hB := hB'
  clear hB' h_T
  obtain ⟨z_T, z1_T, z2_T, y0_T, y1_T⟩ := Hand.hz g_T
  obtain ⟨c_T_0, f_T_0, c_T_1, f_T_1⟩ := Hand.hc2 g_T
  have zw : w.heap.size ≤ w2.heap.size := hB.size
  have HG := Lib.hid (And.intro g_T (hB))
  clear g_T hB
  go_wp2
  go_ret2
  obtain ⟨g_T, hB⟩ := HG.out
  exact ⟨rfl, hB⟩
set_option maxHeartbeats 1600000 in
set_option maxRecDepth 100000 in
theorem rclock_ok2 (a b q k s h m se rs : Int) (S0 S1 S2 S3 S4 : ByteArray) (b0 : 1 ≤ b) (b1 : b ≤ 1048576) (hz : (1000 % b == 0) = true) (hq : 1000 / b = q) (q0 : 0 ≤ q) (q1 : q ≤ 1000) (hk : a * q = k) (k0 : 0 ≤ k) (k1 : k ≤ 1000000000) (hs : k / 1000 = s) (s0 : 0 ≤ s) (s1 : s ≤ 1000000000) (hh : s / 3600 = h) (hm : s / 60 % 60 = m) (hse : s % 60 = se) (hrs : k % 1000 = rs)
    (q1 : S1.size ≤ 21) (q2 : S2.size ≤ 21) (q3 : S3.size ≤ 21) (q4 : S4.size ≤ 21) (w : World)
    (m0 : ∀ w, Calls Tryz.prog 27 #[.int .i64 2] w fun e w' => e = .returned (.int .i64 1000) ∧ Below w.heap.size w w')
    (m1 : ∀ w, Calls Tryz.prog 28 #[.agg #[.int .i64 a, .int .i64 b]] w fun e w' => e = .returned (.int .i64 0) ∧ Below w.heap.size w w')
    (m3 : ∀ w, Calls Tryz.prog 25 #[.int .i64 h, .int .i64 2] w fun e w' => e = .returned (.string S1) ∧ Below w.heap.size w w')
    (m5 : ∀ w, Calls Tryz.prog 25 #[.int .i64 m, .int .i64 2] w fun e w' => e = .returned (.string S2) ∧ Below w.heap.size w w')
    (m6 : ∀ w, Calls Tryz.prog 25 #[.int .i64 se, .int .i64 2] w fun e w' => e = .returned (.string S3) ∧ Below w.heap.size w w')
    (m9 : ∀ w, Calls Tryz.prog 25 #[.int .i64 rs, .int .i64 3] w fun e w' => e = .returned (.string S4) ∧ Below w.heap.size w w') :
    Calls Tryz.prog 7 #[.int .i64 2, .agg #[.int .i64 a, .int .i64 b]] w fun e w' => e = .returned (.tuple #[.string (S1 ++ (⟨#[58]⟩ : ByteArray) ++ S2 ++ (⟨#[58]⟩ : ByteArray) ++ S3 ++ (⟨#[46]⟩ : ByteArray) ++ S4), .int .i64 0]) ∧ Below w.heap.size w w' := by
  have hz1 : 1000 % b = 0 := by simpa using hz
  have hb2 : ¬ b = 0 := by omega
  have M0 := Lib.hid m0
  have M1 := Lib.hid m1
  have M3 := Lib.hid m3
  have M5 := Lib.hid m5
  have M6 := Lib.hid m6
  have M9 := Lib.hid m9
  clear m0 m1 m3 m5 m6 m9
  go_enter Tryz.func7, Tryz.ntmps7
  go_wp2_with fail
  with_reducible refine (M0.out _).mono ?_
  rintro e w1 ⟨rfl, hb1⟩
  have h_T : w1.heap[w.heap.size]? = some (.cells #[.int .i64 a, .int .i64 b] 30 (0, 0)) := by
    refine Hand.kb hb1 ?_; simp (disch := first | omega | (simp only [Hand.sa, Hand.ss, Hand.sd, Hand.sn]; first | done | omega)) only [Hand.q2, Hand.q1, Hand.q5, Hand.q6, Hand.q4, Hand.q3] <;> rfl
  have hB' : Below w.heap.size w w1 := Hand.stepB hb1 (by repeat (with_reducible first | apply Below.refl _ _ | apply Below.drew | apply pw_below_drewN | (apply Below.setCell; rotate_left; (dsimp only; omega)) | (apply Below.alloc; rotate_left; (first | omega | (simp only [Hand.sa, Hand.ss, Hand.sd, Hand.sn]; omega))))) (Nat.le_refl _)
  clear hb1
  have g_T := h_T
  have hB := hB'
  clear hB' h_T
  obtain ⟨z_T, z1_T, z2_T, y0_T, y1_T⟩ := Hand.hz g_T
  obtain ⟨c_T_0, f_T_0, c_T_1, f_T_1⟩ := Hand.hc2 g_T
  have zw : w.heap.size ≤ w1.heap.size := hB.size
  have HG := Lib.hid (And.intro g_T (hB))
  clear g_T hB
  go_wp2_with fail
  with_reducible refine (M1.out _).mono ?_
  rintro e w2 ⟨rfl, hb2⟩
  obtain ⟨g_T, hB⟩ := HG.out
  have h_T : w2.heap[w.heap.size]? = some (.cells #[.int .i64 a, .int .i64 b] 30 (0, 0)) := by
    refine Hand.kb hb2 ?_; first | with_reducible exact g_T | (simp (disch := first | omega | (simp only [Hand.sa, Hand.ss, Hand.sd, Hand.sn]; first | done | omega)) only [Hand.q2, Hand.q1, Hand.q5, Hand.q6, Hand.q4, Hand.q3, g_T] <;> rfl)
  have hB' : Below w.heap.size w w2 := Hand.stepB hb2 (by repeat (with_reducible first | apply hB | apply Below.drew | apply pw_below_drewN | (apply Below.setCell; rotate_left; (dsimp only; omega)) | (apply Below.alloc; rotate_left; (first | omega | (simp only [Hand.sa, Hand.ss, Hand.sd, Hand.sn]; omega))))) (Nat.le_refl _)
  clear HG hB g_T zw z_T z1_T z2_T y0_T y1_T c_T_0 f_T_0 c_T_1 f_T_1
  clear hb2
  have g_T := h_T
  have hB := hB'
  clear hB' h_T
  obtain ⟨z_T, z1_T, z2_T, y0_T, y1_T⟩ := Hand.hz g_T
  obtain ⟨c_T_0, f_T_0, c_T_1, f_T_1⟩ := Hand.hc2 g_T
  have zw : w.heap.size ≤ w2.heap.size := hB.size
  have HG := Lib.hid (And.intro g_T (hB))
  clear g_T hB
  go_wp2
  have f1 : IntKind.i64.wrap (Int.tdiv 1000 b) = q := by rw [Int.tdiv_eq_ediv_of_nonneg (by omega), hq, IntKind.wrap_i64]; omega
  have f2 : IntKind.i64.wrap (a * q) = k := by rw [hk, IntKind.wrap_i64]; omega
  go_quiet (fail)
  clear f1 f2
  go_wp2_with fail
  with_reducible refine (M3.out _).mono ?_
  rintro e w3 ⟨rfl, hb3⟩
  obtain ⟨g_T, hB⟩ := HG.out
  have h_T : w3.heap[w.heap.size]? = some (.cells #[.int .i64 a, .int .i64 b] 30 (0, 0)) := by
    refine Hand.kb hb3 ?_; first | with_reducible exact g_T | (simp (disch := first | omega | (simp only [Hand.sa, Hand.ss, Hand.sd, Hand.sn]; first | done | omega)) only [Hand.q2, Hand.q1, Hand.q5, Hand.q6, Hand.q4, Hand.q3, g_T] <;> rfl)
  have hB' : Below w.heap.size w w3 := Hand.stepB hb3 (by repeat (with_reducible first | apply hB | apply Below.drew | apply pw_below_drewN | (apply Below.setCell; rotate_left; (dsimp only; omega)) | (apply Below.alloc; rotate_left; (first | omega | (simp only [Hand.sa, Hand.ss, Hand.sd, Hand.sn]; omega))))) (Nat.le_refl _)
  clear HG hB g_T zw z_T z1_T z2_T y0_T y1_T c_T_0 f_T_0 c_T_1 f_T_1
  clear hb3
  have g_T := h_T
  have hB := hB'
  clear hB' h_T
  obtain ⟨z_T, z1_T, z2_T, y0_T, y1_T⟩ := Hand.hz g_T
  obtain ⟨c_T_0, f_T_0, c_T_1, f_T_1⟩ := Hand.hc2 g_T
  have zw : w.heap.size ≤ w3.heap.size := hB.size
  have HG := Lib.hid (And.intro g_T (hB))
  clear g_T hB
  go_wp2
  have e2 : (IntKind.i64.wrap (s.tdiv 60)).tmod 60 = m := by rw [Int.tdiv_eq_ediv_of_nonneg s0, show IntKind.i64.wrap (s / 60) = s / 60 by rw [IntKind.wrap_i64]; omega, Int.tmod_eq_emod_of_nonneg (by omega), hm]
  have e3 : s.tmod 60 = se := by rw [Int.tmod_eq_emod_of_nonneg s0, hse]
  have e4 : k.tmod 1000 = rs := by rw [Int.tmod_eq_emod_of_nonneg k0, hrs]
  have p0 : (9223372036854775807 < S1.size + 1) = False := eq_false (by omega)
  have p1 : (9223372036854775807 < S1.size + 1 + S2.size) = False := eq_false (by omega)
  have p2 : (9223372036854775807 < S1.size + 1 + S2.size + 1) = False := eq_false (by omega)
  have p3 : (9223372036854775807 < S1.size + 1 + S2.size + 1 + S3.size) = False := eq_false (by omega)
  have p4 : (9223372036854775807 < S1.size + 1 + S2.size + 1 + S3.size + 1) = False := eq_false (by omega)
  have p5 : (9223372036854775807 < S1.size + 1 + S2.size + 1 + S3.size + 1 + S4.size) = False := eq_false (by omega)
  have HBW := Lib.hid (HG.out.2)
  have HK := Lib.hid (And.intro c_T_0 (c_T_1))
  have BD : Below w3.heap.size w3 w3.drew := Below.drew (Below.refl _ _)
  have BR : Below w3.heap.size w3 w3 := Below.refl _ _
  go_region_held3 (fun w_ => Below w.heap.size w w_ ∧ w_.cell? ⟨w.heap.size, 0, none⟩ = some (.int .i64 a) ∧ w_.cell? ⟨w.heap.size, 1, none⟩ = some (.int .i64 b)) (first | with_reducible (refine ⟨?_, (Below.cell BR (p := ⟨w.heap.size, 0, none⟩) z_T).trans (HK.out.1), (Below.cell BR (p := ⟨w.heap.size, 1, none⟩) z_T).trans (HK.out.2)⟩; apply (HBW.out.trans (Below.mono BR zw))) | with_reducible (refine ⟨?_, (Below.cell BD (p := ⟨w.heap.size, 0, none⟩) z_T).trans (HK.out.1), (Below.cell BD (p := ⟨w.heap.size, 1, none⟩) z_T).trans (HK.out.2)⟩; apply (HBW.out.trans (Below.mono BD zw))) | with_reducible (refine ⟨?_, (Below.cell BB (p := ⟨w.heap.size, 0, none⟩) z_T).trans (HK.out.1), (Below.cell BB (p := ⟨w.heap.size, 1, none⟩) z_T).trans (HK.out.2)⟩; apply (HBW.out.trans (Below.mono BB zw))) | (refine ⟨?_, ?_, ?_⟩; (focus (repeat (with_reducible first | apply (HBW.out.trans (Below.mono BB zw)) | apply Below.drew | (apply Below.setCell; rotate_left; (dsimp only; omega)) | (apply Below.alloc; rotate_left; (first | omega | (simp only [Hand.sa, Hand.ss, Hand.sd, Hand.sn]; omega)))))); (repeat (with_reducible first | exact (Below.cell BB (p := ⟨w.heap.size, 0, none⟩) z_T).trans (HK.out.1) | refine Hand.cell_alloc ?_ | refine Hand.cell_drew ?_ | refine Hand.cell_far (by omega) ?_)); (repeat (with_reducible first | exact (Below.cell BB (p := ⟨w.heap.size, 1, none⟩) z_T).trans (HK.out.2) | refine Hand.cell_alloc ?_ | refine Hand.cell_drew ?_ | refine Hand.cell_far (by omega) ?_)))) (first | (go_at_call 25; ((with_reducible refine (M5.out _).mono ?_); rintro e w5 ⟨rfl, hb_⟩; have BB : Below w3.heap.size w3 w5 := Hand.stepB hb_ (by assumption) (Nat.le_refl _); have zB_w5 := Below.size BB; clear hb_)) | (go_at_call 25; ((with_reducible refine (M6.out _).mono ?_); rintro e w6 ⟨rfl, hb_⟩; have BB : Below w3.heap.size w3 w6 := Hand.stepB hb_ (by assumption) (Nat.le_refl _); have zB_w6 := Below.size BB; clear hb_)) | (go_at_call 25; ((with_reducible refine (M9.out _).mono ?_); rintro e w9 ⟨rfl, hb_⟩; have BB : Below w3.heap.size w3 w9 := Hand.stepB hb_ (by assumption) (Nat.le_refl _); have zB_w9 := Below.size BB; clear hb_)))
  go_wp2
  go_ret2
  obtain ⟨g_T, hB⟩ := HG.out
  exact ⟨rfl, hB.trans (Below.mono BB zw)⟩
set_option maxHeartbeats 800000 in
set_option maxRecDepth 100000 in
theorem rclock_time4 (a b c : Int) (hc : (c == 0) = false) (w : World)
    (m0 : ∀ w, Calls Tryz.prog 27 #[.int .i64 4] w fun e w' => e = .returned (.int .i64 100) ∧ Below w.heap.size w w')
    (m1 : ∀ w, Calls Tryz.prog 28 #[.agg #[.int .i64 a, .int .i64 b]] w fun e w' => e = .returned (.int .i64 c) ∧ Below w.heap.size w w') :
    Calls Tryz.prog 7 #[.int .i64 4, .agg #[.int .i64 a, .int .i64 b]] w fun e w' => e = .returned (.tuple #[.string ⟨#[]⟩, .int .i64 c]) ∧ Below w.heap.size w w' := by
  have M0 := Lib.hid m0
  have M1 := Lib.hid m1
  clear m0 m1
  go_enter Tryz.func7, Tryz.ntmps7
  go_wp2_with fail
  with_reducible refine (M0.out _).mono ?_
  rintro e w1 ⟨rfl, hb1⟩
  have h_T : w1.heap[w.heap.size]? = some (.cells #[.int .i64 a, .int .i64 b] 30 (0, 0)) := by
    refine Hand.kb hb1 ?_; simp (disch := first | omega | (simp only [Hand.sa, Hand.ss, Hand.sd, Hand.sn]; first | done | omega)) only [Hand.q2, Hand.q1, Hand.q5, Hand.q6, Hand.q4, Hand.q3] <;> rfl
  have hB' : Below w.heap.size w w1 := Hand.stepB hb1 (by repeat (with_reducible first | apply Below.refl _ _ | apply Below.drew | apply pw_below_drewN | (apply Below.setCell; rotate_left; (dsimp only; omega)) | (apply Below.alloc; rotate_left; (first | omega | (simp only [Hand.sa, Hand.ss, Hand.sd, Hand.sn]; omega))))) (Nat.le_refl _)
  clear hb1
  have g_T := h_T
  have hB := hB'
  clear hB' h_T
  obtain ⟨z_T, z1_T, z2_T, y0_T, y1_T⟩ := Hand.hz g_T
  obtain ⟨c_T_0, f_T_0, c_T_1, f_T_1⟩ := Hand.hc2 g_T
  have zw : w.heap.size ≤ w1.heap.size := hB.size
  have HG := Lib.hid (And.intro g_T (hB))
  clear g_T hB
  go_wp2_with fail
  with_reducible refine (M1.out _).mono ?_
  rintro e w2 ⟨rfl, hb2⟩
  obtain ⟨g_T, hB⟩ := HG.out
  have h_T : w2.heap[w.heap.size]? = some (.cells #[.int .i64 a, .int .i64 b] 30 (0, 0)) := by
    refine Hand.kb hb2 ?_; first | with_reducible exact g_T | (simp (disch := first | omega | (simp only [Hand.sa, Hand.ss, Hand.sd, Hand.sn]; first | done | omega)) only [Hand.q2, Hand.q1, Hand.q5, Hand.q6, Hand.q4, Hand.q3, g_T] <;> rfl)
  have hB' : Below w.heap.size w w2 := Hand.stepB hb2 (by repeat (with_reducible first | apply hB | apply Below.drew | apply pw_below_drewN | (apply Below.setCell; rotate_left; (dsimp only; omega)) | (apply Below.alloc; rotate_left; (first | omega | (simp only [Hand.sa, Hand.ss, Hand.sd, Hand.sn]; omega))))) (Nat.le_refl _)
  clear HG hB g_T zw z_T z1_T z2_T y0_T y1_T c_T_0 f_T_0 c_T_1 f_T_1
  clear hb2
  have g_T := h_T
  have hB := hB'
  clear hB' h_T
  obtain ⟨z_T, z1_T, z2_T, y0_T, y1_T⟩ := Hand.hz g_T
  obtain ⟨c_T_0, f_T_0, c_T_1, f_T_1⟩ := Hand.hc2 g_T
  have zw : w.heap.size ≤ w2.heap.size := hB.size
  have HG := Lib.hid (And.intro g_T (hB))
  clear g_T hB
  go_wp2
  go_ret2
  obtain ⟨g_T, hB⟩ := HG.out
  exact ⟨rfl, hB⟩
set_option maxHeartbeats 800000 in
set_option maxRecDepth 100000 in
theorem rclock_arg4 (a b : Int) (b0 : 1 ≤ b) (b1 : b ≤ 1048576) (hz : (100 % b == 0) = false) (w : World)
    (m0 : ∀ w, Calls Tryz.prog 27 #[.int .i64 4] w fun e w' => e = .returned (.int .i64 100) ∧ Below w.heap.size w w')
    (m1 : ∀ w, Calls Tryz.prog 28 #[.agg #[.int .i64 a, .int .i64 b]] w fun e w' => e = .returned (.int .i64 0) ∧ Below w.heap.size w w') :
    Calls Tryz.prog 7 #[.int .i64 4, .agg #[.int .i64 a, .int .i64 b]] w fun e w' => e = .returned (.tuple #[.string ⟨#[]⟩, .int .i64 1]) ∧ Below w.heap.size w w' := by
  have hz1 : ¬ (100 % b = 0) := by simpa using hz
  have hb2 : ¬ b = 0 := by omega
  have M0 := Lib.hid m0
  have M1 := Lib.hid m1
  clear m0 m1
  go_enter Tryz.func7, Tryz.ntmps7
  go_wp2_with fail
  with_reducible refine (M0.out _).mono ?_
  rintro e w1 ⟨rfl, hb1⟩
  have h_T : w1.heap[w.heap.size]? = some (.cells #[.int .i64 a, .int .i64 b] 30 (0, 0)) := by
    refine Hand.kb hb1 ?_; simp (disch := first | omega | (simp only [Hand.sa, Hand.ss, Hand.sd, Hand.sn]; first | done | omega)) only [Hand.q2, Hand.q1, Hand.q5, Hand.q6, Hand.q4, Hand.q3] <;> rfl
  have hB' : Below w.heap.size w w1 := Hand.stepB hb1 (by repeat (with_reducible first | apply Below.refl _ _ | apply Below.drew | apply pw_below_drewN | (apply Below.setCell; rotate_left; (dsimp only; omega)) | (apply Below.alloc; rotate_left; (first | omega | (simp only [Hand.sa, Hand.ss, Hand.sd, Hand.sn]; omega))))) (Nat.le_refl _)
  clear hb1
  have g_T := h_T
  have hB := hB'
  clear hB' h_T
  obtain ⟨z_T, z1_T, z2_T, y0_T, y1_T⟩ := Hand.hz g_T
  obtain ⟨c_T_0, f_T_0, c_T_1, f_T_1⟩ := Hand.hc2 g_T
  have zw : w.heap.size ≤ w1.heap.size := hB.size
  have HG := Lib.hid (And.intro g_T (hB))
  clear g_T hB
  go_wp2_with fail
  with_reducible refine (M1.out _).mono ?_
  rintro e w2 ⟨rfl, hb2⟩
  obtain ⟨g_T, hB⟩ := HG.out
  have h_T : w2.heap[w.heap.size]? = some (.cells #[.int .i64 a, .int .i64 b] 30 (0, 0)) := by
    refine Hand.kb hb2 ?_; first | with_reducible exact g_T | (simp (disch := first | omega | (simp only [Hand.sa, Hand.ss, Hand.sd, Hand.sn]; first | done | omega)) only [Hand.q2, Hand.q1, Hand.q5, Hand.q6, Hand.q4, Hand.q3, g_T] <;> rfl)
  have hB' : Below w.heap.size w w2 := Hand.stepB hb2 (by repeat (with_reducible first | apply hB | apply Below.drew | apply pw_below_drewN | (apply Below.setCell; rotate_left; (dsimp only; omega)) | (apply Below.alloc; rotate_left; (first | omega | (simp only [Hand.sa, Hand.ss, Hand.sd, Hand.sn]; omega))))) (Nat.le_refl _)
  clear HG hB g_T zw z_T z1_T z2_T y0_T y1_T c_T_0 f_T_0 c_T_1 f_T_1
  clear hb2
  have g_T := h_T
  have hB := hB'
  clear hB' h_T
  obtain ⟨z_T, z1_T, z2_T, y0_T, y1_T⟩ := Hand.hz g_T
  obtain ⟨c_T_0, f_T_0, c_T_1, f_T_1⟩ := Hand.hc2 g_T
  have zw : w.heap.size ≤ w2.heap.size := hB.size
  have HG := Lib.hid (And.intro g_T (hB))
  clear g_T hB
  go_wp2
  go_ret2
  obtain ⟨g_T, hB⟩ := HG.out
  exact ⟨rfl, hB⟩
set_option maxHeartbeats 1600000 in
set_option maxRecDepth 100000 in
theorem rclock_ok4 (a b q k s h m se rs : Int) (S0 S1 S2 S3 S4 : ByteArray) (b0 : 1 ≤ b) (b1 : b ≤ 1048576) (hz : (100 % b == 0) = true) (hq : 100 / b = q) (q0 : 0 ≤ q) (q1 : q ≤ 1000) (hk : a * q = k) (k0 : 0 ≤ k) (k1 : k ≤ 1000000000) (hs : k / 100 = s) (s0 : 0 ≤ s) (s1 : s ≤ 1000000000) (hh : s / 3600 = h) (hm : s / 60 % 60 = m) (hse : s % 60 = se) (hrs : k % 100 = rs)
    (q1 : S1.size ≤ 21) (q2 : S2.size ≤ 21) (q3 : S3.size ≤ 21) (q4 : S4.size ≤ 21) (w : World)
    (m0 : ∀ w, Calls Tryz.prog 27 #[.int .i64 4] w fun e w' => e = .returned (.int .i64 100) ∧ Below w.heap.size w w')
    (m1 : ∀ w, Calls Tryz.prog 28 #[.agg #[.int .i64 a, .int .i64 b]] w fun e w' => e = .returned (.int .i64 0) ∧ Below w.heap.size w w')
    (m3 : ∀ w, Calls Tryz.prog 25 #[.int .i64 h, .int .i64 2] w fun e w' => e = .returned (.string S0) ∧ Below w.heap.size w w')
    (m4 : ∀ w, Calls Tryz.prog 25 #[.int .i64 h, .int .i64 1] w fun e w' => e = .returned (.string S1) ∧ Below w.heap.size w w')
    (m5 : ∀ w, Calls Tryz.prog 25 #[.int .i64 m, .int .i64 2] w fun e w' => e = .returned (.string S2) ∧ Below w.heap.size w w')
    (m6 : ∀ w, Calls Tryz.prog 25 #[.int .i64 se, .int .i64 2] w fun e w' => e = .returned (.string S3) ∧ Below w.heap.size w w')
    (m9 : ∀ w, Calls Tryz.prog 25 #[.int .i64 rs, .int .i64 2] w fun e w' => e = .returned (.string S4) ∧ Below w.heap.size w w') :
    Calls Tryz.prog 7 #[.int .i64 4, .agg #[.int .i64 a, .int .i64 b]] w fun e w' => e = .returned (.tuple #[.string (S1 ++ (⟨#[58]⟩ : ByteArray) ++ S2 ++ (⟨#[58]⟩ : ByteArray) ++ S3 ++ (⟨#[46]⟩ : ByteArray) ++ S4), .int .i64 0]) ∧ Below w.heap.size w w' := by
  have hz1 : 100 % b = 0 := by simpa using hz
  have hb2 : ¬ b = 0 := by omega
  have M0 := Lib.hid m0
  have M1 := Lib.hid m1
  have M3 := Lib.hid m3
  have M4 := Lib.hid m4
  have M5 := Lib.hid m5
  have M6 := Lib.hid m6
  have M9 := Lib.hid m9
  clear m0 m1 m3 m4 m5 m6 m9
  go_enter Tryz.func7, Tryz.ntmps7
  go_wp2_with fail
  with_reducible refine (M0.out _).mono ?_
  rintro e w1 ⟨rfl, hb1⟩
  have h_T : w1.heap[w.heap.size]? = some (.cells #[.int .i64 a, .int .i64 b] 30 (0, 0)) := by
    refine Hand.kb hb1 ?_; simp (disch := first | omega | (simp only [Hand.sa, Hand.ss, Hand.sd, Hand.sn]; first | done | omega)) only [Hand.q2, Hand.q1, Hand.q5, Hand.q6, Hand.q4, Hand.q3] <;> rfl
  have hB' : Below w.heap.size w w1 := Hand.stepB hb1 (by repeat (with_reducible first | apply Below.refl _ _ | apply Below.drew | apply pw_below_drewN | (apply Below.setCell; rotate_left; (dsimp only; omega)) | (apply Below.alloc; rotate_left; (first | omega | (simp only [Hand.sa, Hand.ss, Hand.sd, Hand.sn]; omega))))) (Nat.le_refl _)
  clear hb1
  have g_T := h_T
  have hB := hB'
  clear hB' h_T
  obtain ⟨z_T, z1_T, z2_T, y0_T, y1_T⟩ := Hand.hz g_T
  obtain ⟨c_T_0, f_T_0, c_T_1, f_T_1⟩ := Hand.hc2 g_T
  have zw : w.heap.size ≤ w1.heap.size := hB.size
  have HG := Lib.hid (And.intro g_T (hB))
  clear g_T hB
  go_wp2_with fail
  with_reducible refine (M1.out _).mono ?_
  rintro e w2 ⟨rfl, hb2⟩
  obtain ⟨g_T, hB⟩ := HG.out
  have h_T : w2.heap[w.heap.size]? = some (.cells #[.int .i64 a, .int .i64 b] 30 (0, 0)) := by
    refine Hand.kb hb2 ?_; first | with_reducible exact g_T | (simp (disch := first | omega | (simp only [Hand.sa, Hand.ss, Hand.sd, Hand.sn]; first | done | omega)) only [Hand.q2, Hand.q1, Hand.q5, Hand.q6, Hand.q4, Hand.q3, g_T] <;> rfl)
  have hB' : Below w.heap.size w w2 := Hand.stepB hb2 (by repeat (with_reducible first | apply hB | apply Below.drew | apply pw_below_drewN | (apply Below.setCell; rotate_left; (dsimp only; omega)) | (apply Below.alloc; rotate_left; (first | omega | (simp only [Hand.sa, Hand.ss, Hand.sd, Hand.sn]; omega))))) (Nat.le_refl _)
  clear HG hB g_T zw z_T z1_T z2_T y0_T y1_T c_T_0 f_T_0 c_T_1 f_T_1
  clear hb2
  have g_T := h_T
  have hB := hB'
  clear hB' h_T
  obtain ⟨z_T, z1_T, z2_T, y0_T, y1_T⟩ := Hand.hz g_T
  obtain ⟨c_T_0, f_T_0, c_T_1, f_T_1⟩ := Hand.hc2 g_T
  have zw : w.heap.size ≤ w2.heap.size := hB.size
  have HG := Lib.hid (And.intro g_T (hB))
  clear g_T hB
  go_wp2
  have f1 : IntKind.i64.wrap (Int.tdiv 100 b) = q := by rw [Int.tdiv_eq_ediv_of_nonneg (by omega), hq, IntKind.wrap_i64]; omega
  have f2 : IntKind.i64.wrap (a * q) = k := by rw [hk, IntKind.wrap_i64]; omega
  go_quiet (fail)
  clear f1 f2
  go_wp2_with fail
  with_reducible refine (M3.out _).mono ?_
  rintro e w3 ⟨rfl, hb3⟩
  obtain ⟨g_T, hB⟩ := HG.out
  have h_T : w3.heap[w.heap.size]? = some (.cells #[.int .i64 a, .int .i64 b] 30 (0, 0)) := by
    refine Hand.kb hb3 ?_; first | with_reducible exact g_T | (simp (disch := first | omega | (simp only [Hand.sa, Hand.ss, Hand.sd, Hand.sn]; first | done | omega)) only [Hand.q2, Hand.q1, Hand.q5, Hand.q6, Hand.q4, Hand.q3, g_T] <;> rfl)
  have hB' : Below w.heap.size w w3 := Hand.stepB hb3 (by repeat (with_reducible first | apply hB | apply Below.drew | apply pw_below_drewN | (apply Below.setCell; rotate_left; (dsimp only; omega)) | (apply Below.alloc; rotate_left; (first | omega | (simp only [Hand.sa, Hand.ss, Hand.sd, Hand.sn]; omega))))) (Nat.le_refl _)
  clear HG hB g_T zw z_T z1_T z2_T y0_T y1_T c_T_0 f_T_0 c_T_1 f_T_1
  clear hb3
  have g_T := h_T
  have hB := hB'
  clear hB' h_T
  obtain ⟨z_T, z1_T, z2_T, y0_T, y1_T⟩ := Hand.hz g_T
  obtain ⟨c_T_0, f_T_0, c_T_1, f_T_1⟩ := Hand.hc2 g_T
  have zw : w.heap.size ≤ w3.heap.size := hB.size
  have HG := Lib.hid (And.intro g_T (hB))
  clear g_T hB
  go_wp2_with fail
  with_reducible refine (M4.out _).mono ?_
  rintro e w4 ⟨rfl, hb4⟩
  obtain ⟨g_T, hB⟩ := HG.out
  have h_T : w4.heap[w.heap.size]? = some (.cells #[.int .i64 a, .int .i64 b] 30 (0, 0)) := by
    refine Hand.kb hb4 ?_; first | with_reducible exact g_T | (simp (disch := first | omega | (simp only [Hand.sa, Hand.ss, Hand.sd, Hand.sn]; first | done | omega)) only [Hand.q2, Hand.q1, Hand.q5, Hand.q6, Hand.q4, Hand.q3, g_T] <;> rfl)
  have hB' : Below w.heap.size w w4 := Hand.stepB hb4 (by repeat (with_reducible first | apply hB | apply Below.drew | apply pw_below_drewN | (apply Below.setCell; rotate_left; (dsimp only; omega)) | (apply Below.alloc; rotate_left; (first | omega | (simp only [Hand.sa, Hand.ss, Hand.sd, Hand.sn]; omega))))) (Nat.le_refl _)
  clear HG hB g_T zw z_T z1_T z2_T y0_T y1_T c_T_0 f_T_0 c_T_1 f_T_1
  clear hb4
  have g_T := h_T
  have hB := hB'
  clear hB' h_T
  obtain ⟨z_T, z1_T, z2_T, y0_T, y1_T⟩ := Hand.hz g_T
  obtain ⟨c_T_0, f_T_0, c_T_1, f_T_1⟩ := Hand.hc2 g_T
  have zw : w.heap.size ≤ w4.heap.size := hB.size
  have HG := Lib.hid (And.intro g_T (hB))
  clear g_T hB
  go_wp2
  have e2 : (IntKind.i64.wrap (s.tdiv 60)).tmod 60 = m := by rw [Int.tdiv_eq_ediv_of_nonneg s0, show IntKind.i64.wrap (s / 60) = s / 60 by rw [IntKind.wrap_i64]; omega, Int.tmod_eq_emod_of_nonneg (by omega), hm]
  have e3 : s.tmod 60 = se := by rw [Int.tmod_eq_emod_of_nonneg s0, hse]
  have e4 : k.tmod 100 = rs := by rw [Int.tmod_eq_emod_of_nonneg k0, hrs]
  have p0 : (9223372036854775807 < S1.size + 1) = False := eq_false (by omega)
  have p1 : (9223372036854775807 < S1.size + 1 + S2.size) = False := eq_false (by omega)
  have p2 : (9223372036854775807 < S1.size + 1 + S2.size + 1) = False := eq_false (by omega)
  have p3 : (9223372036854775807 < S1.size + 1 + S2.size + 1 + S3.size) = False := eq_false (by omega)
  have p4 : (9223372036854775807 < S1.size + 1 + S2.size + 1 + S3.size + 1) = False := eq_false (by omega)
  have p5 : (9223372036854775807 < S1.size + 1 + S2.size + 1 + S3.size + 1 + S4.size) = False := eq_false (by omega)
  have HBW := Lib.hid (HG.out.2)
  have HK := Lib.hid (And.intro c_T_0 (c_T_1))
  have BD : Below w4.heap.size w4 w4.drew := Below.drew (Below.refl _ _)
  have BR : Below w4.heap.size w4 w4 := Below.refl _ _
  go_region_held3 (fun w_ => Below w.heap.size w w_ ∧ w_.cell? ⟨w.heap.size, 0, none⟩ = some (.int .i64 a) ∧ w_.cell? ⟨w.heap.size, 1, none⟩ = some (.int .i64 b)) (first | with_reducible (refine ⟨?_, (Below.cell BR (p := ⟨w.heap.size, 0, none⟩) z_T).trans (HK.out.1), (Below.cell BR (p := ⟨w.heap.size, 1, none⟩) z_T).trans (HK.out.2)⟩; apply (HBW.out.trans (Below.mono BR zw))) | with_reducible (refine ⟨?_, (Below.cell BD (p := ⟨w.heap.size, 0, none⟩) z_T).trans (HK.out.1), (Below.cell BD (p := ⟨w.heap.size, 1, none⟩) z_T).trans (HK.out.2)⟩; apply (HBW.out.trans (Below.mono BD zw))) | with_reducible (refine ⟨?_, (Below.cell BB (p := ⟨w.heap.size, 0, none⟩) z_T).trans (HK.out.1), (Below.cell BB (p := ⟨w.heap.size, 1, none⟩) z_T).trans (HK.out.2)⟩; apply (HBW.out.trans (Below.mono BB zw))) | (refine ⟨?_, ?_, ?_⟩; (focus (repeat (with_reducible first | apply (HBW.out.trans (Below.mono BB zw)) | apply Below.drew | (apply Below.setCell; rotate_left; (dsimp only; omega)) | (apply Below.alloc; rotate_left; (first | omega | (simp only [Hand.sa, Hand.ss, Hand.sd, Hand.sn]; omega)))))); (repeat (with_reducible first | exact (Below.cell BB (p := ⟨w.heap.size, 0, none⟩) z_T).trans (HK.out.1) | refine Hand.cell_alloc ?_ | refine Hand.cell_drew ?_ | refine Hand.cell_far (by omega) ?_)); (repeat (with_reducible first | exact (Below.cell BB (p := ⟨w.heap.size, 1, none⟩) z_T).trans (HK.out.2) | refine Hand.cell_alloc ?_ | refine Hand.cell_drew ?_ | refine Hand.cell_far (by omega) ?_)))) (first | (go_at_call 25; ((with_reducible refine (M5.out _).mono ?_); rintro e w5 ⟨rfl, hb_⟩; have BB : Below w4.heap.size w4 w5 := Hand.stepB hb_ (by assumption) (Nat.le_refl _); have zB_w5 := Below.size BB; clear hb_)) | (go_at_call 25; ((with_reducible refine (M6.out _).mono ?_); rintro e w6 ⟨rfl, hb_⟩; have BB : Below w4.heap.size w4 w6 := Hand.stepB hb_ (by assumption) (Nat.le_refl _); have zB_w6 := Below.size BB; clear hb_)) | (go_at_call 25; ((with_reducible refine (M9.out _).mono ?_); rintro e w9 ⟨rfl, hb_⟩; have BB : Below w4.heap.size w4 w9 := Hand.stepB hb_ (by assumption) (Nat.le_refl _); have zB_w9 := Below.size BB; clear hb_)))
  go_wp2
  go_ret2
  obtain ⟨g_T, hB⟩ := HG.out
  exact ⟨rfl, hB.trans (Below.mono BB zw)⟩
end Go.Proofs.YtghiibdhibcbaaaGreatDoor.PA
namespace Go.Proofs.YtghiibdhibcbaaaGreatDoor.PA
open Go Go.RowKit Go.Proofs.YtghiibdhibcbaaaGreatDoor.CS
set_option linter.unusedSimpArgs false
set_option linter.unusedVariables false
theorem rdigits1 (n : Int) (n0 : 0 ≤ n) (n1 : n ≤ 1000000000) (w : World) :
    Calls Tryz.prog 25 #[.int .i64 n, .int .i64 1] w fun e w' => e = .returned (.string (bs (digL n 1))) ∧ Below w.heap.size w w' := rdigits_any n 1 (by decide) (by decide) n0 n1 w
theorem rdigits3 (n : Int) (n0 : 0 ≤ n) (n1 : n ≤ 1000000000) (w : World) :
    Calls Tryz.prog 25 #[.int .i64 n, .int .i64 3] w fun e w' => e = .returned (.string (bs (digL n 3))) ∧ Below w.heap.size w w' := rdigits_any n 3 (by decide) (by decide) n0 n1 w
theorem rclock_any (f a b : Int) (w : World) (ha0 : -9223372036854775808 ≤ a) (ha1 : a ≤ 9223372036854775807) (hb0 : -9223372036854775808 ≤ b) (hb1 : b ≤ 9223372036854775807) :
    Calls Tryz.prog 7 #[.int .i64 f, .agg #[.int .i64 a, .int .i64 b]] w fun e w' => e = .returned (.tuple #[.string (bs (clkS f a b).1), .int .i64 (clkS f a b).2]) ∧ Below w.heap.size w w' := by
  have m0 := rgridf_any f
  have m1 := fun w => rtimed_any a b ha0 ha1 hb0 hb1 w
  have ok : ∀ (G : Int), 1 ≤ G → G ≤ 1000 → timeS a b = 0 → (G % b == 0) = true → 1 ≤ b ∧ b ≤ 1048576 ∧ 0 ≤ G / b ∧ G / b ≤ 1000 ∧ 0 ≤ a * (G / b) ∧ a * (G / b) ≤ 1000000000 ∧ 0 ≤ a * (G / b) / G ∧ a * (G / b) / G ≤ 1000000000 ∧ 0 ≤ a * (G / b) % G ∧ a * (G / b) % G < G := by
    intro G h1 h2 ht hz
    obtain ⟨_, b1, b2, _, _⟩ := timeS_le ht
    obtain ⟨q0, q1, k0, k1⟩ := clk_le h1 h2 ht (by simpa using hz)
    have s1 : a * (G / b) / G ≤ a * (G / b) := Int.ediv_le_self _ k0
    have s0 : 0 ≤ a * (G / b) / G := Int.ediv_nonneg k0 (by omega)
    exact ⟨b1, b2, q0, q1, k0, by omega, s0, by omega, Int.emod_nonneg _ (by omega), Int.emod_lt_of_pos _ (by omega)⟩
  unfold clkS
  by_cases h1 : f = 1
  · subst h1
    rw [show partsOf 1 = 1000 from rfl] at m0 ⊢
    rw [if_neg (by decide)]
    by_cases ht : timeS a b = 0
    · rw [ht] at m1
      rw [if_pos ht]
      by_cases hz : (1000 : Int) % b = 0
      · have hz' : ((1000 : Int) % b == 0) = true := by simpa using hz
        obtain ⟨b1, b2, q0, q1, k0, k1, s0, s1, r0, r1⟩ := ok 1000 (by omega) (by omega) ht hz'
        rw [if_pos hz]
        dsimp only
        rw [clkL_cat 1 _ 44 rfl, show partsOf 1 = 1000 from rfl]
        exact rclock_ok1 a b _ _ _ _ _ _ _ ⟨#[]⟩ _ _ _ _ b1 b2 hz' rfl q0 q1 rfl k0 k1 rfl s0 s1 rfl rfl rfl rfl (digL_sz (by omega) (by omega) (by decide)) (digL_sz (by omega) (by omega) (by decide)) (digL_sz (by omega) (by omega) (by decide)) (digL_sz (by omega) (by omega) (by decide)) w m0 m1
          (rdigits2 _ (by omega) (by omega)) (rdigits2 _ (by omega) (by omega)) (rdigits2 _ (by omega) (by omega)) (rdigits3 _ (by omega) (by omega))
      · rw [if_neg hz]; exact rclock_arg1 a b (timeS_le ht).2.1 (timeS_le ht).2.2.1 (beq_f hz) w m0 m1
    · rw [if_neg ht]; exact rclock_time1 a b _ (beq_f ht) w m0 m1
  · by_cases h2 : f = 2
    · subst h2
      rw [show partsOf 2 = 1000 from rfl] at m0 ⊢
      rw [if_neg (by decide)]
      by_cases ht : timeS a b = 0
      · rw [ht] at m1
        rw [if_pos ht]
        by_cases hz : (1000 : Int) % b = 0
        · have hz' : ((1000 : Int) % b == 0) = true := by simpa using hz
          obtain ⟨b1, b2, q0, q1, k0, k1, s0, s1, r0, r1⟩ := ok 1000 (by omega) (by omega) ht hz'
          rw [if_pos hz]
          dsimp only
          rw [clkL_cat 2 _ 46 rfl, show partsOf 2 = 1000 from rfl]
          exact rclock_ok2 a b _ _ _ _ _ _ _ ⟨#[]⟩ _ _ _ _ b1 b2 hz' rfl q0 q1 rfl k0 k1 rfl s0 s1 rfl rfl rfl rfl (digL_sz (by omega) (by omega) (by decide)) (digL_sz (by omega) (by omega) (by decide)) (digL_sz (by omega) (by omega) (by decide)) (digL_sz (by omega) (by omega) (by decide)) w m0 m1
            (rdigits2 _ (by omega) (by omega)) (rdigits2 _ (by omega) (by omega)) (rdigits2 _ (by omega) (by omega)) (rdigits3 _ (by omega) (by omega))
        · rw [if_neg hz]; exact rclock_arg2 a b (timeS_le ht).2.1 (timeS_le ht).2.2.1 (beq_f hz) w m0 m1
      · rw [if_neg ht]; exact rclock_time2 a b _ (beq_f ht) w m0 m1
    · by_cases h4 : f = 4
      · subst h4
        rw [show partsOf 4 = 100 from rfl] at m0 ⊢
        rw [if_neg (by decide)]
        by_cases ht : timeS a b = 0
        · rw [ht] at m1
          rw [if_pos ht]
          by_cases hz : (100 : Int) % b = 0
          · have hz' : ((100 : Int) % b == 0) = true := by simpa using hz
            obtain ⟨b1, b2, q0, q1, k0, k1, s0, s1, r0, r1⟩ := ok 100 (by omega) (by omega) ht hz'
            rw [if_pos hz]
            dsimp only
            rw [clkL_cat 4 _ 46 rfl, show partsOf 4 = 100 from rfl]
            exact rclock_ok4 a b _ _ _ _ _ _ _ _ _ _ _ _ b1 b2 hz' rfl q0 q1 rfl k0 k1 rfl s0 s1 rfl rfl rfl rfl (digL_sz (by omega) (by omega) (by decide)) (digL_sz (by omega) (by omega) (by decide)) (digL_sz (by omega) (by omega) (by decide)) (digL_sz (by omega) (by omega) (by decide)) w m0 m1
              (rdigits2 _ (by omega) (by omega)) (rdigits1 _ (by omega) (by omega)) (rdigits2 _ (by omega) (by omega)) (rdigits2 _ (by omega) (by omega)) (rdigits2 _ (by omega) (by omega))
          · rw [if_neg hz]; exact rclock_arg4 a b (timeS_le ht).2.1 (timeS_le ht).2.2.1 (beq_f hz) w m0 m1
        · rw [if_neg ht]; exact rclock_time4 a b _ (beq_f ht) w m0 m1
      · have e : partsOf f = 0 := by unfold partsOf; rw [if_neg h1, if_neg h2, if_neg h4]
        rw [e] at m0 ⊢
        rw [if_pos rfl]; exact rclock_kind a b f w m0
end Go.Proofs.YtghiibdhibcbaaaGreatDoor.PA
namespace Go.Proofs.YtghiibdhibcbaaaGreatDoor.PA
open Go Go.RowKit Go.Proofs.YtghiibdhibcbaaaGreatDoorW.PrintWords Go.Proofs.YtghiibdhibcbaaaGreatDoorW.PrintLast Go.Proofs.YtghiibdhibcbaaaGreatDoorW.PrintMore Go.Proofs.YtghiibdhibcbaaaGreatDoor.CS
set_option linter.unusedSimpArgs false
set_option linter.unusedVariables false
set_option maxHeartbeats 800000 in
set_option maxRecDepth 100000 in
theorem rtext_bad (n d c : Int) (dr : Bool) (hc : (c == 0) = false) (w : World)
    (m1 : ∀ w, Calls Tryz.prog 16 #[rate n d dr] w fun e w' => e = .returned (.int .i64 c) ∧ Below w.heap.size w w') :
    Calls Tryz.prog 9 #[rate n d dr] w fun e w' => e = .returned (.tuple #[.string (⟨#[]⟩), .int .i64 14]) ∧ Below w.heap.size w w' := by
  have M1 := Lib.hid m1
  clear m1
  go_enter Tryz.func9, Tryz.ntmps9
  go_wp2_with fail
  with_reducible refine (M1.out _).mono ?_
  rintro e w1 ⟨rfl, hb1⟩
  have h_A : w1.heap[w.heap.size]? = some (.cells #[.int .i64 n, .int .i64 d, .bool dr] 23 (0, 0)) := by
    refine Hand.kb hb1 ?_; simp (disch := first | omega | (simp only [Hand.sa, Hand.ss, Hand.sd, Hand.sn]; first | done | omega)) only [Hand.q2, Hand.q1, Hand.q5, Hand.q6, Hand.q4, Hand.q3] <;> rfl
  have hB' : Below w.heap.size w w1 := Hand.stepB hb1 (by repeat (with_reducible first | apply Below.refl _ _ | apply Below.drew | apply pw_below_drewN | (apply Below.setCell; rotate_left; (dsimp only; omega)) | (apply Below.alloc; rotate_left; (first | omega | (simp only [Hand.sa, Hand.ss, Hand.sd, Hand.sn]; omega))))) (Nat.le_refl _)
  clear hb1
  have g_A := h_A
  have hB := hB'
  clear hB' h_A
  obtain ⟨z_A, z1_A, z2_A, y0_A, y1_A⟩ := Hand.hz g_A
  obtain ⟨c_A_0, f_A_0, c_A_1, f_A_1, c_A_2, f_A_2⟩ := Hand.hc3 g_A
  have zw : w.heap.size ≤ w1.heap.size := hB.size
  have HG := Lib.hid (And.intro g_A (hB))
  clear g_A hB
  go_wp2
  go_ret2
  obtain ⟨g_A, hB⟩ := HG.out
  exact ⟨rfl, hB⟩
set_option maxHeartbeats 800000 in
set_option maxRecDepth 100000 in
theorem rtext_1f (n : Int) (S1 : ByteArray) (q1 : S1.size ≤ 21) (w : World)
    (m1 : ∀ w, Calls Tryz.prog 16 #[rate n 1 false] w fun e w' => e = .returned (.int .i64 0) ∧ Below w.heap.size w w')
    (m2 : ∀ w, Calls Tryz.prog 25 #[.int .i64 n, .int .i64 1] w fun e w' => e = .returned (.string S1) ∧ Below w.heap.size w w') :
    Calls Tryz.prog 9 #[rate n 1 false] w fun e w' => e = .returned (.tuple #[.string (S1), .int .i64 0]) ∧ Below w.heap.size w w' := by
  have M1 := Lib.hid m1
  have M2 := Lib.hid m2
  clear m1 m2
  go_enter Tryz.func9, Tryz.ntmps9
  go_wp2_with fail
  with_reducible refine (M1.out _).mono ?_
  rintro e w1 ⟨rfl, hb1⟩
  have h_A : w1.heap[w.heap.size]? = some (.cells #[.int .i64 n, .int .i64 1, .bool false] 23 (0, 0)) := by
    refine Hand.kb hb1 ?_; simp (disch := first | omega | (simp only [Hand.sa, Hand.ss, Hand.sd, Hand.sn]; first | done | omega)) only [Hand.q2, Hand.q1, Hand.q5, Hand.q6, Hand.q4, Hand.q3] <;> rfl
  have hB' : Below w.heap.size w w1 := Hand.stepB hb1 (by repeat (with_reducible first | apply Below.refl _ _ | apply Below.drew | apply pw_below_drewN | (apply Below.setCell; rotate_left; (dsimp only; omega)) | (apply Below.alloc; rotate_left; (first | omega | (simp only [Hand.sa, Hand.ss, Hand.sd, Hand.sn]; omega))))) (Nat.le_refl _)
  clear hb1
  have g_A := h_A
  have hB := hB'
  clear hB' h_A
  obtain ⟨z_A, z1_A, z2_A, y0_A, y1_A⟩ := Hand.hz g_A
  obtain ⟨c_A_0, f_A_0, c_A_1, f_A_1, c_A_2, f_A_2⟩ := Hand.hc3 g_A
  have zw : w.heap.size ≤ w1.heap.size := hB.size
  have HG := Lib.hid (And.intro g_A (hB))
  clear g_A hB
  go_wp2_with fail
  with_reducible refine (M2.out _).mono ?_
  rintro e w2 ⟨rfl, hb2⟩
  obtain ⟨g_A, hB⟩ := HG.out
  have h_A : w2.heap[w.heap.size]? = some (.cells #[.int .i64 n, .int .i64 1, .bool false] 23 (0, 0)) := by
    refine Hand.kb hb2 ?_; first | with_reducible exact g_A | (simp (disch := first | omega | (simp only [Hand.sa, Hand.ss, Hand.sd, Hand.sn]; first | done | omega)) only [Hand.q2, Hand.q1, Hand.q5, Hand.q6, Hand.q4, Hand.q3, g_A] <;> rfl)
  have hB' : Below w.heap.size w w2 := Hand.stepB hb2 (by repeat (with_reducible first | apply hB | apply Below.drew | apply pw_below_drewN | (apply Below.setCell; rotate_left; (dsimp only; omega)) | (apply Below.alloc; rotate_left; (first | omega | (simp only [Hand.sa, Hand.ss, Hand.sd, Hand.sn]; omega))))) (Nat.le_refl _)
  clear HG hB g_A zw z_A z1_A z2_A y0_A y1_A c_A_0 f_A_0 c_A_1 f_A_1 c_A_2 f_A_2
  clear hb2
  have g_A := h_A
  have hB := hB'
  clear hB' h_A
  obtain ⟨z_A, z1_A, z2_A, y0_A, y1_A⟩ := Hand.hz g_A
  obtain ⟨c_A_0, f_A_0, c_A_1, f_A_1, c_A_2, f_A_2⟩ := Hand.hc3 g_A
  have zw : w.heap.size ≤ w2.heap.size := hB.size
  have HG := Lib.hid (And.intro g_A (hB))
  clear g_A hB
  go_wp2
  go_ret2
  obtain ⟨g_A, hB⟩ := HG.out
  exact ⟨rfl, hB⟩
set_option maxHeartbeats 800000 in
set_option maxRecDepth 100000 in
theorem rtext_1t (n : Int) (S1 : ByteArray) (q1 : S1.size ≤ 21) (w : World)
    (m1 : ∀ w, Calls Tryz.prog 16 #[rate n 1 true] w fun e w' => e = .returned (.int .i64 0) ∧ Below w.heap.size w w')
    (m2 : ∀ w, Calls Tryz.prog 25 #[.int .i64 n, .int .i64 1] w fun e w' => e = .returned (.string S1) ∧ Below w.heap.size w w') :
    Calls Tryz.prog 9 #[rate n 1 true] w fun e w' => e = .returned (.tuple #[.string (S1 ++ (⟨#[100]⟩ : ByteArray)), .int .i64 0]) ∧ Below w.heap.size w w' := by
  have M1 := Lib.hid m1
  have M2 := Lib.hid m2
  clear m1 m2
  go_enter Tryz.func9, Tryz.ntmps9
  go_wp2_with fail
  with_reducible refine (M1.out _).mono ?_
  rintro e w1 ⟨rfl, hb1⟩
  have h_A : w1.heap[w.heap.size]? = some (.cells #[.int .i64 n, .int .i64 1, .bool true] 23 (0, 0)) := by
    refine Hand.kb hb1 ?_; simp (disch := first | omega | (simp only [Hand.sa, Hand.ss, Hand.sd, Hand.sn]; first | done | omega)) only [Hand.q2, Hand.q1, Hand.q5, Hand.q6, Hand.q4, Hand.q3] <;> rfl
  have hB' : Below w.heap.size w w1 := Hand.stepB hb1 (by repeat (with_reducible first | apply Below.refl _ _ | apply Below.drew | apply pw_below_drewN | (apply Below.setCell; rotate_left; (dsimp only; omega)) | (apply Below.alloc; rotate_left; (first | omega | (simp only [Hand.sa, Hand.ss, Hand.sd, Hand.sn]; omega))))) (Nat.le_refl _)
  clear hb1
  have g_A := h_A
  have hB := hB'
  clear hB' h_A
  obtain ⟨z_A, z1_A, z2_A, y0_A, y1_A⟩ := Hand.hz g_A
  obtain ⟨c_A_0, f_A_0, c_A_1, f_A_1, c_A_2, f_A_2⟩ := Hand.hc3 g_A
  have zw : w.heap.size ≤ w1.heap.size := hB.size
  have HG := Lib.hid (And.intro g_A (hB))
  clear g_A hB
  go_wp2_with fail
  with_reducible refine (M2.out _).mono ?_
  rintro e w2 ⟨rfl, hb2⟩
  obtain ⟨g_A, hB⟩ := HG.out
  have h_A : w2.heap[w.heap.size]? = some (.cells #[.int .i64 n, .int .i64 1, .bool true] 23 (0, 0)) := by
    refine Hand.kb hb2 ?_; first | with_reducible exact g_A | (simp (disch := first | omega | (simp only [Hand.sa, Hand.ss, Hand.sd, Hand.sn]; first | done | omega)) only [Hand.q2, Hand.q1, Hand.q5, Hand.q6, Hand.q4, Hand.q3, g_A] <;> rfl)
  have hB' : Below w.heap.size w w2 := Hand.stepB hb2 (by repeat (with_reducible first | apply hB | apply Below.drew | apply pw_below_drewN | (apply Below.setCell; rotate_left; (dsimp only; omega)) | (apply Below.alloc; rotate_left; (first | omega | (simp only [Hand.sa, Hand.ss, Hand.sd, Hand.sn]; omega))))) (Nat.le_refl _)
  clear HG hB g_A zw z_A z1_A z2_A y0_A y1_A c_A_0 f_A_0 c_A_1 f_A_1 c_A_2 f_A_2
  clear hb2
  have g_A := h_A
  have hB := hB'
  clear hB' h_A
  obtain ⟨z_A, z1_A, z2_A, y0_A, y1_A⟩ := Hand.hz g_A
  obtain ⟨c_A_0, f_A_0, c_A_1, f_A_1, c_A_2, f_A_2⟩ := Hand.hc3 g_A
  have zw : w.heap.size ≤ w2.heap.size := hB.size
  have HG := Lib.hid (And.intro g_A (hB))
  clear g_A hB
  go_wp2
  go_ret2
  obtain ⟨g_A, hB⟩ := HG.out
  exact ⟨rfl, hB⟩
set_option maxHeartbeats 800000 in
set_option maxRecDepth 100000 in
theorem rtext_2f (n d : Int) (S1 S2 : ByteArray) (q1 : S1.size ≤ 21) (q2 : S2.size ≤ 21) (hd : (d == 1) = false) (w : World)
    (m1 : ∀ w, Calls Tryz.prog 16 #[rate n d false] w fun e w' => e = .returned (.int .i64 0) ∧ Below w.heap.size w w')
    (m2 : ∀ w, Calls Tryz.prog 25 #[.int .i64 n, .int .i64 1] w fun e w' => e = .returned (.string S1) ∧ Below w.heap.size w w')
    (m3 : ∀ w, Calls Tryz.prog 25 #[.int .i64 d, .int .i64 1] w fun e w' => e = .returned (.string S2) ∧ Below w.heap.size w w') :
    Calls Tryz.prog 9 #[rate n d false] w fun e w' => e = .returned (.tuple #[.string (S1 ++ (⟨#[47]⟩ : ByteArray) ++ S2), .int .i64 0]) ∧ Below w.heap.size w w' := by
  have hd2 : ¬ d = 1 := by simpa using hd
  have hk1 : S1.size + (1 + S2.size) ≤ 9223372036854775807 := by omega
  have M1 := Lib.hid m1
  have M2 := Lib.hid m2
  have M3 := Lib.hid m3
  clear m1 m2 m3
  go_enter Tryz.func9, Tryz.ntmps9
  go_wp2_with fail
  with_reducible refine (M1.out _).mono ?_
  rintro e w1 ⟨rfl, hb1⟩
  have h_A : w1.heap[w.heap.size]? = some (.cells #[.int .i64 n, .int .i64 d, .bool false] 23 (0, 0)) := by
    refine Hand.kb hb1 ?_; simp (disch := first | omega | (simp only [Hand.sa, Hand.ss, Hand.sd, Hand.sn]; first | done | omega)) only [Hand.q2, Hand.q1, Hand.q5, Hand.q6, Hand.q4, Hand.q3] <;> rfl
  have hB' : Below w.heap.size w w1 := Hand.stepB hb1 (by repeat (with_reducible first | apply Below.refl _ _ | apply Below.drew | apply pw_below_drewN | (apply Below.setCell; rotate_left; (dsimp only; omega)) | (apply Below.alloc; rotate_left; (first | omega | (simp only [Hand.sa, Hand.ss, Hand.sd, Hand.sn]; omega))))) (Nat.le_refl _)
  clear hb1
  have g_A := h_A
  have hB := hB'
  clear hB' h_A
  obtain ⟨z_A, z1_A, z2_A, y0_A, y1_A⟩ := Hand.hz g_A
  obtain ⟨c_A_0, f_A_0, c_A_1, f_A_1, c_A_2, f_A_2⟩ := Hand.hc3 g_A
  have zw : w.heap.size ≤ w1.heap.size := hB.size
  have HG := Lib.hid (And.intro g_A (hB))
  clear g_A hB
  go_wp2_with fail
  with_reducible refine (M2.out _).mono ?_
  rintro e w2 ⟨rfl, hb2⟩
  obtain ⟨g_A, hB⟩ := HG.out
  have h_A : w2.heap[w.heap.size]? = some (.cells #[.int .i64 n, .int .i64 d, .bool false] 23 (0, 0)) := by
    refine Hand.kb hb2 ?_; first | with_reducible exact g_A | (simp (disch := first | omega | (simp only [Hand.sa, Hand.ss, Hand.sd, Hand.sn]; first | done | omega)) only [Hand.q2, Hand.q1, Hand.q5, Hand.q6, Hand.q4, Hand.q3, g_A] <;> rfl)
  have hB' : Below w.heap.size w w2 := Hand.stepB hb2 (by repeat (with_reducible first | apply hB | apply Below.drew | apply pw_below_drewN | (apply Below.setCell; rotate_left; (dsimp only; omega)) | (apply Below.alloc; rotate_left; (first | omega | (simp only [Hand.sa, Hand.ss, Hand.sd, Hand.sn]; omega))))) (Nat.le_refl _)
  clear HG hB g_A zw z_A z1_A z2_A y0_A y1_A c_A_0 f_A_0 c_A_1 f_A_1 c_A_2 f_A_2
  clear hb2
  have g_A := h_A
  have hB := hB'
  clear hB' h_A
  obtain ⟨z_A, z1_A, z2_A, y0_A, y1_A⟩ := Hand.hz g_A
  obtain ⟨c_A_0, f_A_0, c_A_1, f_A_1, c_A_2, f_A_2⟩ := Hand.hc3 g_A
  have zw : w.heap.size ≤ w2.heap.size := hB.size
  have HG := Lib.hid (And.intro g_A (hB))
  clear g_A hB
  go_wp2_with fail
  with_reducible refine (M3.out _).mono ?_
  rintro e w3 ⟨rfl, hb3⟩
  obtain ⟨g_A, hB⟩ := HG.out
  have h_A : w3.heap[w.heap.size]? = some (.cells #[.int .i64 n, .int .i64 d, .bool false] 23 (0, 0)) := by
    refine Hand.kb hb3 ?_; first | with_reducible exact g_A | (simp (disch := first | omega | (simp only [Hand.sa, Hand.ss, Hand.sd, Hand.sn]; first | done | omega)) only [Hand.q2, Hand.q1, Hand.q5, Hand.q6, Hand.q4, Hand.q3, g_A] <;> rfl)
  have hB' : Below w.heap.size w w3 := Hand.stepB hb3 (by repeat (with_reducible first | apply hB | apply Below.drew | apply pw_below_drewN | (apply Below.setCell; rotate_left; (dsimp only; omega)) | (apply Below.alloc; rotate_left; (first | omega | (simp only [Hand.sa, Hand.ss, Hand.sd, Hand.sn]; omega))))) (Nat.le_refl _)
  clear HG hB g_A zw z_A z1_A z2_A y0_A y1_A c_A_0 f_A_0 c_A_1 f_A_1 c_A_2 f_A_2
  clear hb3
  have g_A := h_A
  have hB := hB'
  clear hB' h_A
  obtain ⟨z_A, z1_A, z2_A, y0_A, y1_A⟩ := Hand.hz g_A
  obtain ⟨c_A_0, f_A_0, c_A_1, f_A_1, c_A_2, f_A_2⟩ := Hand.hc3 g_A
  have zw : w.heap.size ≤ w3.heap.size := hB.size
  have HG := Lib.hid (And.intro g_A (hB))
  clear g_A hB
  go_wp2
  go_ret2
  obtain ⟨g_A, hB⟩ := HG.out
  exact ⟨rfl, hB⟩
set_option maxHeartbeats 800000 in
set_option maxRecDepth 100000 in
theorem rtext_2t (n d : Int) (S1 S2 : ByteArray) (q1 : S1.size ≤ 21) (q2 : S2.size ≤ 21) (hd : (d == 1) = false) (w : World)
    (m1 : ∀ w, Calls Tryz.prog 16 #[rate n d true] w fun e w' => e = .returned (.int .i64 0) ∧ Below w.heap.size w w')
    (m2 : ∀ w, Calls Tryz.prog 25 #[.int .i64 n, .int .i64 1] w fun e w' => e = .returned (.string S1) ∧ Below w.heap.size w w')
    (m3 : ∀ w, Calls Tryz.prog 25 #[.int .i64 d, .int .i64 1] w fun e w' => e = .returned (.string S2) ∧ Below w.heap.size w w') :
    Calls Tryz.prog 9 #[rate n d true] w fun e w' => e = .returned (.tuple #[.string (S1 ++ (⟨#[47]⟩ : ByteArray) ++ S2 ++ (⟨#[100]⟩ : ByteArray)), .int .i64 0]) ∧ Below w.heap.size w w' := by
  have hd2 : ¬ d = 1 := by simpa using hd
  have hk1 : S1.size + (1 + S2.size) ≤ 9223372036854775807 := by omega
  have M1 := Lib.hid m1
  have M2 := Lib.hid m2
  have M3 := Lib.hid m3
  clear m1 m2 m3
  go_enter Tryz.func9, Tryz.ntmps9
  go_wp2_with fail
  with_reducible refine (M1.out _).mono ?_
  rintro e w1 ⟨rfl, hb1⟩
  have h_A : w1.heap[w.heap.size]? = some (.cells #[.int .i64 n, .int .i64 d, .bool true] 23 (0, 0)) := by
    refine Hand.kb hb1 ?_; simp (disch := first | omega | (simp only [Hand.sa, Hand.ss, Hand.sd, Hand.sn]; first | done | omega)) only [Hand.q2, Hand.q1, Hand.q5, Hand.q6, Hand.q4, Hand.q3] <;> rfl
  have hB' : Below w.heap.size w w1 := Hand.stepB hb1 (by repeat (with_reducible first | apply Below.refl _ _ | apply Below.drew | apply pw_below_drewN | (apply Below.setCell; rotate_left; (dsimp only; omega)) | (apply Below.alloc; rotate_left; (first | omega | (simp only [Hand.sa, Hand.ss, Hand.sd, Hand.sn]; omega))))) (Nat.le_refl _)
  clear hb1
  have g_A := h_A
  have hB := hB'
  clear hB' h_A
  obtain ⟨z_A, z1_A, z2_A, y0_A, y1_A⟩ := Hand.hz g_A
  obtain ⟨c_A_0, f_A_0, c_A_1, f_A_1, c_A_2, f_A_2⟩ := Hand.hc3 g_A
  have zw : w.heap.size ≤ w1.heap.size := hB.size
  have HG := Lib.hid (And.intro g_A (hB))
  clear g_A hB
  go_wp2_with fail
  with_reducible refine (M2.out _).mono ?_
  rintro e w2 ⟨rfl, hb2⟩
  obtain ⟨g_A, hB⟩ := HG.out
  have h_A : w2.heap[w.heap.size]? = some (.cells #[.int .i64 n, .int .i64 d, .bool true] 23 (0, 0)) := by
    refine Hand.kb hb2 ?_; first | with_reducible exact g_A | (simp (disch := first | omega | (simp only [Hand.sa, Hand.ss, Hand.sd, Hand.sn]; first | done | omega)) only [Hand.q2, Hand.q1, Hand.q5, Hand.q6, Hand.q4, Hand.q3, g_A] <;> rfl)
  have hB' : Below w.heap.size w w2 := Hand.stepB hb2 (by repeat (with_reducible first | apply hB | apply Below.drew | apply pw_below_drewN | (apply Below.setCell; rotate_left; (dsimp only; omega)) | (apply Below.alloc; rotate_left; (first | omega | (simp only [Hand.sa, Hand.ss, Hand.sd, Hand.sn]; omega))))) (Nat.le_refl _)
  clear HG hB g_A zw z_A z1_A z2_A y0_A y1_A c_A_0 f_A_0 c_A_1 f_A_1 c_A_2 f_A_2
  clear hb2
  have g_A := h_A
  have hB := hB'
  clear hB' h_A
  obtain ⟨z_A, z1_A, z2_A, y0_A, y1_A⟩ := Hand.hz g_A
  obtain ⟨c_A_0, f_A_0, c_A_1, f_A_1, c_A_2, f_A_2⟩ := Hand.hc3 g_A
  have zw : w.heap.size ≤ w2.heap.size := hB.size
  have HG := Lib.hid (And.intro g_A (hB))
  clear g_A hB
  go_wp2_with fail
  with_reducible refine (M3.out _).mono ?_
  rintro e w3 ⟨rfl, hb3⟩
  obtain ⟨g_A, hB⟩ := HG.out
  have h_A : w3.heap[w.heap.size]? = some (.cells #[.int .i64 n, .int .i64 d, .bool true] 23 (0, 0)) := by
    refine Hand.kb hb3 ?_; first | with_reducible exact g_A | (simp (disch := first | omega | (simp only [Hand.sa, Hand.ss, Hand.sd, Hand.sn]; first | done | omega)) only [Hand.q2, Hand.q1, Hand.q5, Hand.q6, Hand.q4, Hand.q3, g_A] <;> rfl)
  have hB' : Below w.heap.size w w3 := Hand.stepB hb3 (by repeat (with_reducible first | apply hB | apply Below.drew | apply pw_below_drewN | (apply Below.setCell; rotate_left; (dsimp only; omega)) | (apply Below.alloc; rotate_left; (first | omega | (simp only [Hand.sa, Hand.ss, Hand.sd, Hand.sn]; omega))))) (Nat.le_refl _)
  clear HG hB g_A zw z_A z1_A z2_A y0_A y1_A c_A_0 f_A_0 c_A_1 f_A_1 c_A_2 f_A_2
  clear hb3
  have g_A := h_A
  have hB := hB'
  clear hB' h_A
  obtain ⟨z_A, z1_A, z2_A, y0_A, y1_A⟩ := Hand.hz g_A
  obtain ⟨c_A_0, f_A_0, c_A_1, f_A_1, c_A_2, f_A_2⟩ := Hand.hc3 g_A
  have zw : w.heap.size ≤ w3.heap.size := hB.size
  have HG := Lib.hid (And.intro g_A (hB))
  clear g_A hB
  go_wp2
  go_ret2
  obtain ⟨g_A, hB⟩ := HG.out
  exact ⟨rfl, hB⟩
end Go.Proofs.YtghiibdhibcbaaaGreatDoor.PA
namespace Go.Proofs.YtghiibdhibcbaaaGreatDoor.PA
open Go Go.RowKit Go.Proofs.YtghiibdhibcbaaaGreatDoor.CS
set_option linter.unusedSimpArgs false
set_option linter.unusedVariables false
/-- a rate as text -/
def rtxL (n d : Int) (dr : Bool) : List UInt8 := Lib.itoa n ++ ((if d = 1 then [] else 47 :: Lib.itoa d) ++ (if dr = true then [100] else []))
def rtxS (n d : Int) (dr : Bool) : List UInt8 × Int := if okR n d dr = true then (rtxL n d dr, 0) else ([], 14)
theorem rtxL_1f (n : Int) : bs (rtxL n 1 false) = bs (Lib.itoa n) := by unfold rtxL; simp
theorem rtxL_1t (n : Int) : bs (rtxL n 1 true) = bs (Lib.itoa n) ++ (⟨#[100]⟩ : ByteArray) := by unfold rtxL; rw [show (⟨#[100]⟩ : ByteArray) = bs [100] from rfl, bs_cat]; simp
theorem rtxL_2f (n d : Int) (h : d ≠ 1) : bs (rtxL n d false) = bs (Lib.itoa n) ++ ((⟨#[47]⟩ : ByteArray) ++ bs (Lib.itoa d)) := by unfold rtxL; rw [show (⟨#[47]⟩ : ByteArray) = bs [47] from rfl, bs_cat, bs_cat, if_neg h]; simp
theorem rtxL_2t (n d : Int) (h : d ≠ 1) : bs (rtxL n d true) = bs (Lib.itoa n) ++ ((⟨#[47]⟩ : ByteArray) ++ bs (Lib.itoa d)) ++ (⟨#[100]⟩ : ByteArray) := by
  unfold rtxL; rw [show (⟨#[47]⟩ : ByteArray) = bs [47] from rfl, show (⟨#[100]⟩ : ByteArray) = bs [100] from rfl, bs_cat, bs_cat, bs_cat, if_neg h]; simp
theorem assoc3 (a b c : ByteArray) : a ++ (b ++ c) = a ++ b ++ c := (ByteArray.append_assoc).symm
theorem digL_1 {n : Int} (h : 0 ≤ n) : digL n 1 = Lib.itoa n := by
  unfold digL
  have : 1 ≤ (Lib.itoa n).length := by have := itoa_one n; rw [bs_size] at this; exact this
  rw [show 1 - (Lib.itoa n).length = 0 by omega]; rfl
theorem rtext_any (n d : Int) (dr : Bool) (w : World) :
    Calls Tryz.prog 9 #[rate n d dr] w fun e w' => e = .returned (.tuple #[.string (bs (rtxS n d dr).1), .int .i64 (rtxS n d dr).2]) ∧ Below w.heap.size w w' := by
  have m1 := rcheck_any n d dr
  unfold checkS at m1
  unfold rtxS
  by_cases h : okR n d dr = true
  · rw [if_pos h] at m1 ⊢
    obtain ⟨n1, n2, d1, d2, _, _, _, _⟩ := okR_iff.mp h
    have m2 := rdigits1 n (by omega) (by omega)
    have m3 := rdigits1 d (by omega) (by omega)
    rw [digL_1 (by omega)] at m2 m3
    dsimp only
    by_cases hd : d = 1
    · subst hd
      cases dr
      · rw [rtxL_1f]; exact rtext_1f n _ (itoa_len _ (by omega) (by omega)) w m1 m2
      · rw [rtxL_1t]; exact rtext_1t n _ (itoa_len _ (by omega) (by omega)) w m1 m2
    · cases dr
      · rw [rtxL_2f n d hd, assoc3]; exact rtext_2f n d _ _ (itoa_len _ (by omega) (by omega)) (itoa_len _ (by omega) (by omega)) (beq_f hd) w m1 m2 m3
      · rw [rtxL_2t n d hd, assoc3]; exact rtext_2t n d _ _ (itoa_len _ (by omega) (by omega)) (itoa_len _ (by omega) (by omega)) (beq_f hd) w m1 m2 m3
  · rw [if_neg h] at m1 ⊢; exact rtext_bad n d 14 dr (by decide) w m1
end Go.Proofs.YtghiibdhibcbaaaGreatDoor.PA
