/- code: ParseClock. -/
import Derived.Test.YtghiibdhibcbaaaGreatDoorMC
import Derived.Test.YtghiibdhibcbaaaGreatDoorME
namespace Go.Proofs.YtghiibdhibcbaaaGreatDoor.PA
open Go Go.RowKit Go.Proofs.YtghiibdhibcbaaaGreatDoorW.PrintWords Go.Proofs.YtghiibdhibcbaaaGreatDoorW.PrintLast Go.Proofs.YtghiibdhibcbaaaGreatDoorW.PrintMore Go.Proofs.YtghiibdhibcbaaaGreatDoor.CS
set_option linter.unusedSimpArgs false
set_option linter.unusedVariables false
set_option maxHeartbeats 3000000 in
set_option maxRecDepth 100000 in
theorem pck_1 (rx ry re x y z q h m s k : Int) (b1 b2 b3 b4 b5 b6 b7 : Bool) (L L1 L2 L3 L4 L5 L6 L7 : ByteArray) (hway : ((b7 = true) ∧ (0 = rx) ∧ (0 = ry) ∧ (13 = re)) ∨ ((b7 = false) ∧ (L7.toList.isEmpty = false) ∧ (0 = rx) ∧ (0 = ry) ∧ (13 = re)) ∨ ((b7 = false) ∧ (L7 = ⟨#[]⟩) ∧ (0 ≤ h) ∧ (h ≤ 999) ∧ (0 ≤ m) ∧ (m < 60) ∧ (0 ≤ s) ∧ (s < 60) ∧ (0 ≤ k) ∧ (k < 1000) ∧ (x = rx) ∧ (y = ry) ∧ (0 = re) ∧ (∀ w, Calls Tryz.prog 43 #[.int .i64 (((h * 3600 + m * 60 + s) * 1000 + k)), .int .i64 1000] w fun e w' => e = .returned (.tuple #[.agg #[.int .i64 x, .int .i64 y], .int .i64 z]) ∧ Below w.heap.size w w') ∧ (∀ w, Calls Tryz.prog 35 #[.agg #[.int .i64 x, .int .i64 y]] w fun e w' => e = .returned (.int .i64 0) ∧ Below w.heap.size w w')) ∨ ((b7 = false) ∧ (L7 = ⟨#[]⟩) ∧ (0 ≤ h) ∧ (h ≤ 999) ∧ (0 ≤ m) ∧ (m < 60) ∧ (0 ≤ s) ∧ (s < 60) ∧ (0 ≤ k) ∧ (k < 1000) ∧ ((q == 0) = false) ∧ (0 = rx) ∧ (0 = ry) ∧ (q = re) ∧ (∀ w, Calls Tryz.prog 43 #[.int .i64 (((h * 3600 + m * 60 + s) * 1000 + k)), .int .i64 1000] w fun e w' => e = .returned (.tuple #[.agg #[.int .i64 x, .int .i64 y], .int .i64 z]) ∧ Below w.heap.size w w') ∧ (∀ w, Calls Tryz.prog 35 #[.agg #[.int .i64 x, .int .i64 y]] w fun e w' => e = .returned (.int .i64 q) ∧ Below w.heap.size w w'))) (w : World)
    (m3 : ∀ w0 w g, w0.heap.size ≤ g → w.heap[g]? = some (scan L false) → Below w0.heap.size w0 w → Calls Tryz.prog 39 #[.pointer (some ⟨g, 0, none⟩), .int .i64 2] w fun e w' => e = .returned (.int .i64 h) ∧ SL w0 w' g L1 b1)
    (m4 : ∀ w0 w g, w0.heap.size ≤ g → w.heap[g]? = some (scan L1 b1) → Below w0.heap.size w0 w → Calls Tryz.prog 40 #[.pointer (some ⟨g, 0, none⟩), .string ⟨#[58]⟩] w fun e w' => e = .returned (.tuple #[]) ∧ SL w0 w' g L2 b2)
    (m5 : ∀ w0 w g, w0.heap.size ≤ g → w.heap[g]? = some (scan L2 b2) → Below w0.heap.size w0 w → Calls Tryz.prog 41 #[.pointer (some ⟨g, 0, none⟩), .int .i64 2, .int .i64 60] w fun e w' => e = .returned (.int .i64 m) ∧ SL w0 w' g L3 b3)
    (m6 : ∀ w0 w g, w0.heap.size ≤ g → w.heap[g]? = some (scan L3 b3) → Below w0.heap.size w0 w → Calls Tryz.prog 40 #[.pointer (some ⟨g, 0, none⟩), .string ⟨#[58]⟩] w fun e w' => e = .returned (.tuple #[]) ∧ SL w0 w' g L4 b4)
    (m7 : ∀ w0 w g, w0.heap.size ≤ g → w.heap[g]? = some (scan L4 b4) → Below w0.heap.size w0 w → Calls Tryz.prog 41 #[.pointer (some ⟨g, 0, none⟩), .int .i64 2, .int .i64 60] w fun e w' => e = .returned (.int .i64 s) ∧ SL w0 w' g L5 b5)
    (m9 : ∀ w0 w g, w0.heap.size ≤ g → w.heap[g]? = some (scan L5 b5) → Below w0.heap.size w0 w → Calls Tryz.prog 40 #[.pointer (some ⟨g, 0, none⟩), .string ⟨#[44]⟩] w fun e w' => e = .returned (.tuple #[]) ∧ SL w0 w' g L6 b6)
    (m11 : ∀ w0 w g, w0.heap.size ≤ g → w.heap[g]? = some (scan L6 b6) → Below w0.heap.size w0 w → Calls Tryz.prog 42 #[.pointer (some ⟨g, 0, none⟩), .int .i64 3] w fun e w' => e = .returned (.int .i64 k) ∧ SL w0 w' g L7 b7) :
    Calls Tryz.prog 13 #[.int .i64 1, .string L] w fun e w' => e = .returned (.tuple #[.agg #[.int .i64 rx, .int .i64 ry], .int .i64 re]) ∧ Below w.heap.size w w' := by
  have M3 := Lib.hid m3
  have M4 := Lib.hid m4
  have M5 := Lib.hid m5
  have M6 := Lib.hid m6
  have M7 := Lib.hid m7
  have M9 := Lib.hid m9
  have M11 := Lib.hid m11
  have HWAY := Lib.hid hway
  clear m3 m4 m5 m6 m7 m9 m11 hway
  go_enter Tryz.func13, Tryz.ntmps13
  go_wp2_with fail
  obtain ⟨wb, hwb⟩ : ∃ x, x = w.alloc (.cells #[.int .i64 0, .int .i64 0] 30) := ⟨_, rfl⟩
  rw [← hwb]
  have hsz : w.heap.size + 1 = wb.heap.size := by rw [hwb]; exact (Hand.sa _ _).symm
  rw [hsz]
  have GT0 := Lib.hid (show wb.heap[w.heap.size]? = some (.cells #[.int .i64 0, .int .i64 0] 30 (0, 0)) from by rw [hwb]; exact Hand.q3 _ _ _ rfl)
  have HB0 := Lib.hid (show Below w.heap.size w wb from by rw [hwb]; exact (Below.refl _ _).alloc (Nat.le_refl _) _)
  have zT := Lib.hid hsz
  clear hwb hsz
  have g_T := GT0.out
  have hB := HB0.out
  obtain ⟨z_T, z1_T, z2_T, y0_T, y1_T⟩ := Hand.hz g_T
  obtain ⟨c_T_0, f_T_0, c_T_1, f_T_1⟩ := Hand.hc2 g_T
  have zw : w.heap.size ≤ wb.heap.size := hB.size
  have HG := Lib.hid (And.intro g_T (hB))
  clear g_T hB
  obtain ⟨W, hW⟩ : ∃ W_, W_ = wb.alloc (scan L false) := ⟨_, rfl⟩
  rw [← hW]
  have hx_W : W.heap[wb.heap.size]? = some (scan L false) := by rw [hW]; exact Hand.q3 _ _ _ rfl
  have hb_W : Below wb.heap.size wb W := by rw [hW]; exact (Below.refl _ _).alloc (Nat.le_refl _) _
  clear hW
  clear HG zw z_T z1_T z2_T y0_T y1_T c_T_0 f_T_0 c_T_1 f_T_1
  have HX := Lib.hid hx_W
  have HBX := Lib.hid hb_W
  have g_T := Hand.kb hb_W GT0.out
  have g_X := hx_W
  have hB := Hand.stepB hb_W HB0.out (Nat.le_refl _)
  clear hx_W hb_W
  obtain ⟨z_T, z1_T, z2_T, y0_T, y1_T⟩ := Hand.hz g_T
  obtain ⟨c_T_0, f_T_0, c_T_1, f_T_1⟩ := Hand.hc2 g_T
  obtain ⟨z_X, z1_X, z2_X, y0_X, y1_X⟩ := Hand.hz g_X
  obtain ⟨c_X_0, f_X_0, c_X_1, f_X_1⟩ := Hand.hc2 g_X
  have zw : w.heap.size ≤ W.heap.size := hB.size
  have HG := Lib.hid (And.intro g_T (And.intro g_X (hB)))
  clear g_T g_X hB
  go_wp2_with fail
  with_reducible refine (M3.out wb _ _ (Nat.le_refl _) (bk HX.out) (bw HBX.out)).mono ?_
  rintro e w3 ⟨rfl, hx_w3, hb_w3⟩
  clear HX HBX HG zw z_T z1_T z2_T y0_T y1_T c_T_0 f_T_0 c_T_1 f_T_1 z_X z1_X z2_X y0_X y1_X c_X_0 f_X_0 c_X_1 f_X_1
  have HX := Lib.hid hx_w3
  have HBX := Lib.hid hb_w3
  have g_T := Hand.kb hb_w3 GT0.out
  have g_X := hx_w3
  have hB := Hand.stepB hb_w3 HB0.out (Nat.le_refl _)
  clear hx_w3 hb_w3
  obtain ⟨z_T, z1_T, z2_T, y0_T, y1_T⟩ := Hand.hz g_T
  obtain ⟨c_T_0, f_T_0, c_T_1, f_T_1⟩ := Hand.hc2 g_T
  obtain ⟨z_X, z1_X, z2_X, y0_X, y1_X⟩ := Hand.hz g_X
  obtain ⟨c_X_0, f_X_0, c_X_1, f_X_1⟩ := Hand.hc2 g_X
  have zw : w.heap.size ≤ w3.heap.size := hB.size
  have HG := Lib.hid (And.intro g_T (And.intro g_X (hB)))
  clear g_T g_X hB
  go_wp2_with fail
  with_reducible refine (M4.out wb _ _ (Nat.le_refl _) (bk HX.out) (bw HBX.out)).mono ?_
  rintro e w4 ⟨rfl, hx_w4, hb_w4⟩
  clear HX HBX HG zw z_T z1_T z2_T y0_T y1_T c_T_0 f_T_0 c_T_1 f_T_1 z_X z1_X z2_X y0_X y1_X c_X_0 f_X_0 c_X_1 f_X_1
  have HX := Lib.hid hx_w4
  have HBX := Lib.hid hb_w4
  have g_T := Hand.kb hb_w4 GT0.out
  have g_X := hx_w4
  have hB := Hand.stepB hb_w4 HB0.out (Nat.le_refl _)
  clear hx_w4 hb_w4
  obtain ⟨z_T, z1_T, z2_T, y0_T, y1_T⟩ := Hand.hz g_T
  obtain ⟨c_T_0, f_T_0, c_T_1, f_T_1⟩ := Hand.hc2 g_T
  obtain ⟨z_X, z1_X, z2_X, y0_X, y1_X⟩ := Hand.hz g_X
  obtain ⟨c_X_0, f_X_0, c_X_1, f_X_1⟩ := Hand.hc2 g_X
  have zw : w.heap.size ≤ w4.heap.size := hB.size
  have HG := Lib.hid (And.intro g_T (And.intro g_X (hB)))
  clear g_T g_X hB
  go_wp2_with fail
  with_reducible refine (M5.out wb _ _ (Nat.le_refl _) (bk HX.out) (bw HBX.out)).mono ?_
  rintro e w5 ⟨rfl, hx_w5, hb_w5⟩
  clear HX HBX HG zw z_T z1_T z2_T y0_T y1_T c_T_0 f_T_0 c_T_1 f_T_1 z_X z1_X z2_X y0_X y1_X c_X_0 f_X_0 c_X_1 f_X_1
  have HX := Lib.hid hx_w5
  have HBX := Lib.hid hb_w5
  have g_T := Hand.kb hb_w5 GT0.out
  have g_X := hx_w5
  have hB := Hand.stepB hb_w5 HB0.out (Nat.le_refl _)
  clear hx_w5 hb_w5
  obtain ⟨z_T, z1_T, z2_T, y0_T, y1_T⟩ := Hand.hz g_T
  obtain ⟨c_T_0, f_T_0, c_T_1, f_T_1⟩ := Hand.hc2 g_T
  obtain ⟨z_X, z1_X, z2_X, y0_X, y1_X⟩ := Hand.hz g_X
  obtain ⟨c_X_0, f_X_0, c_X_1, f_X_1⟩ := Hand.hc2 g_X
  have zw : w.heap.size ≤ w5.heap.size := hB.size
  have HG := Lib.hid (And.intro g_T (And.intro g_X (hB)))
  clear g_T g_X hB
  go_wp2_with fail
  with_reducible refine (M6.out wb _ _ (Nat.le_refl _) (bk HX.out) (bw HBX.out)).mono ?_
  rintro e w6 ⟨rfl, hx_w6, hb_w6⟩
  clear HX HBX HG zw z_T z1_T z2_T y0_T y1_T c_T_0 f_T_0 c_T_1 f_T_1 z_X z1_X z2_X y0_X y1_X c_X_0 f_X_0 c_X_1 f_X_1
  have HX := Lib.hid hx_w6
  have HBX := Lib.hid hb_w6
  have g_T := Hand.kb hb_w6 GT0.out
  have g_X := hx_w6
  have hB := Hand.stepB hb_w6 HB0.out (Nat.le_refl _)
  clear hx_w6 hb_w6
  obtain ⟨z_T, z1_T, z2_T, y0_T, y1_T⟩ := Hand.hz g_T
  obtain ⟨c_T_0, f_T_0, c_T_1, f_T_1⟩ := Hand.hc2 g_T
  obtain ⟨z_X, z1_X, z2_X, y0_X, y1_X⟩ := Hand.hz g_X
  obtain ⟨c_X_0, f_X_0, c_X_1, f_X_1⟩ := Hand.hc2 g_X
  have zw : w.heap.size ≤ w6.heap.size := hB.size
  have HG := Lib.hid (And.intro g_T (And.intro g_X (hB)))
  clear g_T g_X hB
  go_wp2_with fail
  with_reducible refine (M7.out wb _ _ (Nat.le_refl _) (bk HX.out) (bw HBX.out)).mono ?_
  rintro e w7 ⟨rfl, hx_w7, hb_w7⟩
  clear HX HBX HG zw z_T z1_T z2_T y0_T y1_T c_T_0 f_T_0 c_T_1 f_T_1 z_X z1_X z2_X y0_X y1_X c_X_0 f_X_0 c_X_1 f_X_1
  have HX := Lib.hid hx_w7
  have HBX := Lib.hid hb_w7
  have g_T := Hand.kb hb_w7 GT0.out
  have g_X := hx_w7
  have hB := Hand.stepB hb_w7 HB0.out (Nat.le_refl _)
  clear hx_w7 hb_w7
  obtain ⟨z_T, z1_T, z2_T, y0_T, y1_T⟩ := Hand.hz g_T
  obtain ⟨c_T_0, f_T_0, c_T_1, f_T_1⟩ := Hand.hc2 g_T
  obtain ⟨z_X, z1_X, z2_X, y0_X, y1_X⟩ := Hand.hz g_X
  obtain ⟨c_X_0, f_X_0, c_X_1, f_X_1⟩ := Hand.hc2 g_X
  have zw : w.heap.size ≤ w7.heap.size := hB.size
  have HG := Lib.hid (And.intro g_T (And.intro g_X (hB)))
  clear g_T g_X hB
  go_wp2_with fail
  with_reducible refine (M9.out wb _ _ (Nat.le_refl _) (bk HX.out) (bw HBX.out)).mono ?_
  rintro e w9 ⟨rfl, hx_w9, hb_w9⟩
  clear HX HBX HG zw z_T z1_T z2_T y0_T y1_T c_T_0 f_T_0 c_T_1 f_T_1 z_X z1_X z2_X y0_X y1_X c_X_0 f_X_0 c_X_1 f_X_1
  have HX := Lib.hid hx_w9
  have HBX := Lib.hid hb_w9
  have g_T := Hand.kb hb_w9 GT0.out
  have g_X := hx_w9
  have hB := Hand.stepB hb_w9 HB0.out (Nat.le_refl _)
  clear hx_w9 hb_w9
  obtain ⟨z_T, z1_T, z2_T, y0_T, y1_T⟩ := Hand.hz g_T
  obtain ⟨c_T_0, f_T_0, c_T_1, f_T_1⟩ := Hand.hc2 g_T
  obtain ⟨z_X, z1_X, z2_X, y0_X, y1_X⟩ := Hand.hz g_X
  obtain ⟨c_X_0, f_X_0, c_X_1, f_X_1⟩ := Hand.hc2 g_X
  have zw : w.heap.size ≤ w9.heap.size := hB.size
  have HG := Lib.hid (And.intro g_T (And.intro g_X (hB)))
  clear g_T g_X hB
  go_wp2_with fail
  with_reducible refine (M11.out wb _ _ (Nat.le_refl _) (bk HX.out) (bw HBX.out)).mono ?_
  rintro e w11 ⟨rfl, hx_w11, hb_w11⟩
  clear HX HBX HG zw z_T z1_T z2_T y0_T y1_T c_T_0 f_T_0 c_T_1 f_T_1 z_X z1_X z2_X y0_X y1_X c_X_0 f_X_0 c_X_1 f_X_1
  have HX := Lib.hid hx_w11
  have HBX := Lib.hid hb_w11
  have g_T := Hand.kb hb_w11 GT0.out
  have g_X := hx_w11
  have hB := Hand.stepB hb_w11 HB0.out (Nat.le_refl _)
  clear hx_w11 hb_w11
  obtain ⟨z_T, z1_T, z2_T, y0_T, y1_T⟩ := Hand.hz g_T
  obtain ⟨c_T_0, f_T_0, c_T_1, f_T_1⟩ := Hand.hc2 g_T
  obtain ⟨z_X, z1_X, z2_X, y0_X, y1_X⟩ := Hand.hz g_X
  obtain ⟨c_X_0, f_X_0, c_X_1, f_X_1⟩ := Hand.hc2 g_X
  have zw : w.heap.size ≤ w11.heap.size := hB.size
  have HG := Lib.hid (And.intro g_T (And.intro g_X (hB)))
  clear g_T g_X hB
  rcases HWAY.out with ⟨rfl, rfl, rfl, rfl⟩ | ⟨rfl, hl, rfl, rfl, rfl⟩ | ⟨rfl, rfl, h0, h1, hm0, mb, s0, sb, k0, kf, rfl, rfl, rfl, m12, m13⟩ | ⟨rfl, rfl, h0, h1, hm0, mb, s0, sb, k0, kf, he, rfl, rfl, rfl, m12, m13⟩
  · have W_ := True.intro
    go_wp2
    obtain ⟨g_T, g_X, hB⟩ := HG.out
    refine bodyPost_ret (results_ct rfl _ _ (w.heap.size) 30 #[.int .i64 0, .int .i64 0] (0, 0) _ rfl ?_ Tryz.underlying30 rfl (by kernel_rfl)) rfl ⟨rfl, ?_⟩
    · simp (disch := omega) only [Hand.q1, g_T]; rfl
    · exact (hB.setCell (by dsimp only; omega) _).setCell (by dsimp only; omega) _
  · have W_ := True.intro
    have hl2 : ¬ L7.toList = [] := by intro e; rw [e] at hl; exact absurd hl (by decide)
    go_wp2
    obtain ⟨g_T, g_X, hB⟩ := HG.out
    refine bodyPost_ret (results_ct rfl _ _ (w.heap.size) 30 #[.int .i64 0, .int .i64 0] (0, 0) _ rfl ?_ Tryz.underlying30 rfl (by kernel_rfl)) rfl ⟨rfl, ?_⟩
    · simp (disch := omega) only [Hand.q1, g_T]; rfl
    · exact (hB.setCell (by dsimp only; omega) _).setCell (by dsimp only; omega) _
  · have W_ := True.intro
    have M12 := Lib.hid m12
    have M13 := Lib.hid m13
    clear m12 m13
    go_wp2_with fail
    with_reducible refine (M12.out _).mono ?_
    rintro e w12 ⟨rfl, hq⟩
    obtain ⟨g_T, g_X, hB⟩ := HG.out
    have h_T : w12.heap[w.heap.size]? = some (.cells #[.int .i64 0, .int .i64 0] 30 (0, 0)) := by
      refine Hand.kb hq ?_; first | with_reducible exact g_T | (simp (disch := first | omega | (simp only [Hand.sa, Hand.ss, Hand.sd, Hand.sn]; first | done | omega)) only [Hand.q2, Hand.q1, Hand.q5, Hand.q6, Hand.q4, Hand.q3, g_T] <;> rfl)
    have h_X : w12.heap[wb.heap.size]? = some (.cells #[.string ⟨#[]⟩, .bool false] 70 (0, 0)) := by
      refine Hand.kb hq ?_; simp (disch := first | omega | (simp only [Hand.sa, Hand.ss, Hand.sd, Hand.sn]; first | done | omega)) only [Hand.q2, Hand.q1, Hand.q5, Hand.q6, Hand.q4, Hand.q3, g_X] <;> rfl
    have hB' : Below w.heap.size w w12 := Hand.stepB hq (by repeat (with_reducible first | apply hB | apply Below.drew | apply pw_below_drewN | (apply Below.setCell; rotate_left; (dsimp only; omega)) | (apply Below.alloc; rotate_left; (first | omega | (simp only [Hand.sa, Hand.ss, Hand.sd, Hand.sn]; omega))))) (Nat.le_refl _)
    clear HG hB g_T g_X zw z_T z1_T z2_T y0_T y1_T c_T_0 f_T_0 c_T_1 f_T_1 z_X z1_X z2_X y0_X y1_X c_X_0 f_X_0 c_X_1 f_X_1
    clear hq
    have g_T := h_T
    have g_X := h_X
    have hB := hB'
    clear hB' h_T h_X
    obtain ⟨z_T, z1_T, z2_T, y0_T, y1_T⟩ := Hand.hz g_T
    obtain ⟨c_T_0, f_T_0, c_T_1, f_T_1⟩ := Hand.hc2 g_T
    obtain ⟨z_X, z1_X, z2_X, y0_X, y1_X⟩ := Hand.hz g_X
    obtain ⟨c_X_0, f_X_0, c_X_1, f_X_1⟩ := Hand.hc2 g_X
    have zw : w.heap.size ≤ w12.heap.size := hB.size
    have HG := Lib.hid (And.intro g_T (And.intro g_X (hB)))
    clear g_T g_X hB
    go_wp2_with fail
    with_reducible refine (M13.out _).mono ?_
    rintro e_ w13 ⟨rfl, hq⟩
    obtain ⟨g_T, g_X, hB⟩ := HG.out
    have h_T : w13.heap[w.heap.size]? = some (.cells #[.int .i64 0, .int .i64 0] 30 (0, 0)) := by
      refine Hand.kb hq ?_; first | with_reducible exact g_T | (simp (disch := first | omega | (simp only [Hand.sa, Hand.ss, Hand.sd, Hand.sn]; first | done | omega)) only [Hand.q2, Hand.q1, Hand.q5, Hand.q6, Hand.q4, Hand.q3, g_T] <;> rfl)
    have h_X : w13.heap[wb.heap.size]? = some (.cells #[.string ⟨#[]⟩, .bool false] 70 (0, 0)) := by
      refine Hand.kb hq ?_; simp (disch := first | omega | (simp only [Hand.sa, Hand.ss, Hand.sd, Hand.sn]; first | done | omega)) only [Hand.q2, Hand.q1, Hand.q5, Hand.q6, Hand.q4, Hand.q3, g_X] <;> rfl
    have h_Y : w13.heap[w12.heap.size]? = some (.cells #[.int .i64 x, .int .i64 y] 30 (0, 0)) := by
      refine Hand.kb hq ?_; simp (disch := first | omega | (simp only [Hand.sa, Hand.ss, Hand.sd, Hand.sn]; first | done | omega)) only [Hand.q2, Hand.q1, Hand.q5, Hand.q6, Hand.q4, Hand.q3] <;> rfl
    have hB' : Below w.heap.size w w13 := Hand.stepB hq (by repeat (with_reducible first | apply hB | apply Below.drew | apply pw_below_drewN | (apply Below.setCell; rotate_left; (dsimp only; omega)) | (apply Below.alloc; rotate_left; (first | omega | (simp only [Hand.sa, Hand.ss, Hand.sd, Hand.sn]; omega))))) (Nat.le_refl _)
    clear HG hB g_T g_X zw z_T z1_T z2_T y0_T y1_T c_T_0 f_T_0 c_T_1 f_T_1 z_X z1_X z2_X y0_X y1_X c_X_0 f_X_0 c_X_1 f_X_1
    clear hq
    have g_T := h_T
    have g_X := h_X
    have g_Y := h_Y
    have hB := hB'
    clear hB' h_T h_X h_Y
    obtain ⟨z_T, z1_T, z2_T, y0_T, y1_T⟩ := Hand.hz g_T
    obtain ⟨c_T_0, f_T_0, c_T_1, f_T_1⟩ := Hand.hc2 g_T
    obtain ⟨z_X, z1_X, z2_X, y0_X, y1_X⟩ := Hand.hz g_X
    obtain ⟨c_X_0, f_X_0, c_X_1, f_X_1⟩ := Hand.hc2 g_X
    obtain ⟨z_Y, z1_Y, z2_Y, y0_Y, y1_Y⟩ := Hand.hz g_Y
    obtain ⟨c_Y_0, f_Y_0, c_Y_1, f_Y_1⟩ := Hand.hc2 g_Y
    have zw : w.heap.size ≤ w13.heap.size := hB.size
    have HG := Lib.hid (And.intro g_T (And.intro g_X (And.intro g_Y (hB))))
    clear g_T g_X g_Y hB
    go_wp2
    obtain ⟨g_T, g_X, g_Y, hB⟩ := HG.out
    refine bodyPost_ret (results_ct rfl _ _ (w.heap.size) 30 #[.int .i64 x, .int .i64 y] (0, 0) _ rfl ?_ Tryz.underlying30 rfl (by kernel_rfl)) rfl ⟨rfl, ?_⟩
    · simp (disch := omega) only [Hand.q1, g_T]; rfl
    · exact (hB.setCell (by dsimp only; omega) _).setCell (by dsimp only; omega) _
  · have W_ := True.intro
    have M12 := Lib.hid m12
    have M13 := Lib.hid m13
    clear m12 m13
    have he2 : (q != 0) = true := by simpa using he
    go_wp2_with fail
    with_reducible refine (M12.out _).mono ?_
    rintro e w12 ⟨rfl, hq⟩
    obtain ⟨g_T, g_X, hB⟩ := HG.out
    have h_T : w12.heap[w.heap.size]? = some (.cells #[.int .i64 0, .int .i64 0] 30 (0, 0)) := by
      refine Hand.kb hq ?_; first | with_reducible exact g_T | (simp (disch := first | omega | (simp only [Hand.sa, Hand.ss, Hand.sd, Hand.sn]; first | done | omega)) only [Hand.q2, Hand.q1, Hand.q5, Hand.q6, Hand.q4, Hand.q3, g_T] <;> rfl)
    have h_X : w12.heap[wb.heap.size]? = some (.cells #[.string ⟨#[]⟩, .bool false] 70 (0, 0)) := by
      refine Hand.kb hq ?_; simp (disch := first | omega | (simp only [Hand.sa, Hand.ss, Hand.sd, Hand.sn]; first | done | omega)) only [Hand.q2, Hand.q1, Hand.q5, Hand.q6, Hand.q4, Hand.q3, g_X] <;> rfl
    have hB' : Below w.heap.size w w12 := Hand.stepB hq (by repeat (with_reducible first | apply hB | apply Below.drew | apply pw_below_drewN | (apply Below.setCell; rotate_left; (dsimp only; omega)) | (apply Below.alloc; rotate_left; (first | omega | (simp only [Hand.sa, Hand.ss, Hand.sd, Hand.sn]; omega))))) (Nat.le_refl _)
    clear HG hB g_T g_X zw z_T z1_T z2_T y0_T y1_T c_T_0 f_T_0 c_T_1 f_T_1 z_X z1_X z2_X y0_X y1_X c_X_0 f_X_0 c_X_1 f_X_1
    clear hq
    have g_T := h_T
    have g_X := h_X
    have hB := hB'
    clear hB' h_T h_X
    obtain ⟨z_T, z1_T, z2_T, y0_T, y1_T⟩ := Hand.hz g_T
    obtain ⟨c_T_0, f_T_0, c_T_1, f_T_1⟩ := Hand.hc2 g_T
    obtain ⟨z_X, z1_X, z2_X, y0_X, y1_X⟩ := Hand.hz g_X
    obtain ⟨c_X_0, f_X_0, c_X_1, f_X_1⟩ := Hand.hc2 g_X
    have zw : w.heap.size ≤ w12.heap.size := hB.size
    have HG := Lib.hid (And.intro g_T (And.intro g_X (hB)))
    clear g_T g_X hB
    go_wp2_with fail
    with_reducible refine (M13.out _).mono ?_
    rintro e_ w13 ⟨rfl, hq⟩
    obtain ⟨g_T, g_X, hB⟩ := HG.out
    have h_T : w13.heap[w.heap.size]? = some (.cells #[.int .i64 0, .int .i64 0] 30 (0, 0)) := by
      refine Hand.kb hq ?_; first | with_reducible exact g_T | (simp (disch := first | omega | (simp only [Hand.sa, Hand.ss, Hand.sd, Hand.sn]; first | done | omega)) only [Hand.q2, Hand.q1, Hand.q5, Hand.q6, Hand.q4, Hand.q3, g_T] <;> rfl)
    have h_X : w13.heap[wb.heap.size]? = some (.cells #[.string ⟨#[]⟩, .bool false] 70 (0, 0)) := by
      refine Hand.kb hq ?_; simp (disch := first | omega | (simp only [Hand.sa, Hand.ss, Hand.sd, Hand.sn]; first | done | omega)) only [Hand.q2, Hand.q1, Hand.q5, Hand.q6, Hand.q4, Hand.q3, g_X] <;> rfl
    have h_Y : w13.heap[w12.heap.size]? = some (.cells #[.int .i64 x, .int .i64 y] 30 (0, 0)) := by
      refine Hand.kb hq ?_; simp (disch := first | omega | (simp only [Hand.sa, Hand.ss, Hand.sd, Hand.sn]; first | done | omega)) only [Hand.q2, Hand.q1, Hand.q5, Hand.q6, Hand.q4, Hand.q3] <;> rfl
    have hB' : Below w.heap.size w w13 := Hand.stepB hq (by repeat (with_reducible first | apply hB | apply Below.drew | apply pw_below_drewN | (apply Below.setCell; rotate_left; (dsimp only; omega)) | (apply Below.alloc; rotate_left; (first | omega | (simp only [Hand.sa, Hand.ss, Hand.sd, Hand.sn]; omega))))) (Nat.le_refl _)
    clear HG hB g_T g_X zw z_T z1_T z2_T y0_T y1_T c_T_0 f_T_0 c_T_1 f_T_1 z_X z1_X z2_X y0_X y1_X c_X_0 f_X_0 c_X_1 f_X_1
    clear hq
    have g_T := h_T
    have g_X := h_X
    have g_Y := h_Y
    have hB := hB'
    clear hB' h_T h_X h_Y
    obtain ⟨z_T, z1_T, z2_T, y0_T, y1_T⟩ := Hand.hz g_T
    obtain ⟨c_T_0, f_T_0, c_T_1, f_T_1⟩ := Hand.hc2 g_T
    obtain ⟨z_X, z1_X, z2_X, y0_X, y1_X⟩ := Hand.hz g_X
    obtain ⟨c_X_0, f_X_0, c_X_1, f_X_1⟩ := Hand.hc2 g_X
    obtain ⟨z_Y, z1_Y, z2_Y, y0_Y, y1_Y⟩ := Hand.hz g_Y
    obtain ⟨c_Y_0, f_Y_0, c_Y_1, f_Y_1⟩ := Hand.hc2 g_Y
    have zw : w.heap.size ≤ w13.heap.size := hB.size
    have HG := Lib.hid (And.intro g_T (And.intro g_X (And.intro g_Y (hB))))
    clear g_T g_X g_Y hB
    go_wp2
    obtain ⟨g_T, g_X, g_Y, hB⟩ := HG.out
    refine bodyPost_ret (results_ct rfl _ _ (w.heap.size) 30 #[.int .i64 0, .int .i64 0] (0, 0) _ rfl ?_ Tryz.underlying30 rfl (by kernel_rfl)) rfl ⟨rfl, ?_⟩
    · simp (disch := omega) only [Hand.q1, g_T]; rfl
    · exact (hB.setCell (by dsimp only; omega) _).setCell (by dsimp only; omega) _
set_option maxHeartbeats 3000000 in
set_option maxRecDepth 100000 in
theorem pck_4 (rx ry re x y z q h m s k : Int) (b1 b2 b3 b4 b5 b6 b7 : Bool) (L L1 L2 L3 L4 L5 L6 L7 : ByteArray) (hway : ((b7 = true) ∧ (0 = rx) ∧ (0 = ry) ∧ (13 = re)) ∨ ((b7 = false) ∧ (L7.toList.isEmpty = false) ∧ (0 = rx) ∧ (0 = ry) ∧ (13 = re)) ∨ ((b7 = false) ∧ (L7 = ⟨#[]⟩) ∧ (0 ≤ h) ∧ (h ≤ 999) ∧ (0 ≤ m) ∧ (m < 60) ∧ (0 ≤ s) ∧ (s < 60) ∧ (0 ≤ k) ∧ (k < 100) ∧ (x = rx) ∧ (y = ry) ∧ (0 = re) ∧ (∀ w, Calls Tryz.prog 43 #[.int .i64 (((h * 3600 + m * 60 + s) * 100 + k)), .int .i64 100] w fun e w' => e = .returned (.tuple #[.agg #[.int .i64 x, .int .i64 y], .int .i64 z]) ∧ Below w.heap.size w w') ∧ (∀ w, Calls Tryz.prog 35 #[.agg #[.int .i64 x, .int .i64 y]] w fun e w' => e = .returned (.int .i64 0) ∧ Below w.heap.size w w')) ∨ ((b7 = false) ∧ (L7 = ⟨#[]⟩) ∧ (0 ≤ h) ∧ (h ≤ 999) ∧ (0 ≤ m) ∧ (m < 60) ∧ (0 ≤ s) ∧ (s < 60) ∧ (0 ≤ k) ∧ (k < 100) ∧ ((q == 0) = false) ∧ (0 = rx) ∧ (0 = ry) ∧ (q = re) ∧ (∀ w, Calls Tryz.prog 43 #[.int .i64 (((h * 3600 + m * 60 + s) * 100 + k)), .int .i64 100] w fun e w' => e = .returned (.tuple #[.agg #[.int .i64 x, .int .i64 y], .int .i64 z]) ∧ Below w.heap.size w w') ∧ (∀ w, Calls Tryz.prog 35 #[.agg #[.int .i64 x, .int .i64 y]] w fun e w' => e = .returned (.int .i64 q) ∧ Below w.heap.size w w'))) (w : World)
    (m3 : ∀ w0 w g, w0.heap.size ≤ g → w.heap[g]? = some (scan L false) → Below w0.heap.size w0 w → Calls Tryz.prog 39 #[.pointer (some ⟨g, 0, none⟩), .int .i64 1] w fun e w' => e = .returned (.int .i64 h) ∧ SL w0 w' g L1 b1)
    (m4 : ∀ w0 w g, w0.heap.size ≤ g → w.heap[g]? = some (scan L1 b1) → Below w0.heap.size w0 w → Calls Tryz.prog 40 #[.pointer (some ⟨g, 0, none⟩), .string ⟨#[58]⟩] w fun e w' => e = .returned (.tuple #[]) ∧ SL w0 w' g L2 b2)
    (m5 : ∀ w0 w g, w0.heap.size ≤ g → w.heap[g]? = some (scan L2 b2) → Below w0.heap.size w0 w → Calls Tryz.prog 41 #[.pointer (some ⟨g, 0, none⟩), .int .i64 2, .int .i64 60] w fun e w' => e = .returned (.int .i64 m) ∧ SL w0 w' g L3 b3)
    (m6 : ∀ w0 w g, w0.heap.size ≤ g → w.heap[g]? = some (scan L3 b3) → Below w0.heap.size w0 w → Calls Tryz.prog 40 #[.pointer (some ⟨g, 0, none⟩), .string ⟨#[58]⟩] w fun e w' => e = .returned (.tuple #[]) ∧ SL w0 w' g L4 b4)
    (m7 : ∀ w0 w g, w0.heap.size ≤ g → w.heap[g]? = some (scan L4 b4) → Below w0.heap.size w0 w → Calls Tryz.prog 41 #[.pointer (some ⟨g, 0, none⟩), .int .i64 2, .int .i64 60] w fun e w' => e = .returned (.int .i64 s) ∧ SL w0 w' g L5 b5)
    (m9 : ∀ w0 w g, w0.heap.size ≤ g → w.heap[g]? = some (scan L5 b5) → Below w0.heap.size w0 w → Calls Tryz.prog 40 #[.pointer (some ⟨g, 0, none⟩), .string ⟨#[46]⟩] w fun e w' => e = .returned (.tuple #[]) ∧ SL w0 w' g L6 b6)
    (m11 : ∀ w0 w g, w0.heap.size ≤ g → w.heap[g]? = some (scan L6 b6) → Below w0.heap.size w0 w → Calls Tryz.prog 42 #[.pointer (some ⟨g, 0, none⟩), .int .i64 2] w fun e w' => e = .returned (.int .i64 k) ∧ SL w0 w' g L7 b7) :
    Calls Tryz.prog 13 #[.int .i64 4, .string L] w fun e w' => e = .returned (.tuple #[.agg #[.int .i64 rx, .int .i64 ry], .int .i64 re]) ∧ Below w.heap.size w w' := by
  have M3 := Lib.hid m3
  have M4 := Lib.hid m4
  have M5 := Lib.hid m5
  have M6 := Lib.hid m6
  have M7 := Lib.hid m7
  have M9 := Lib.hid m9
  have M11 := Lib.hid m11
  have HWAY := Lib.hid hway
  clear m3 m4 m5 m6 m7 m9 m11 hway
  go_enter Tryz.func13, Tryz.ntmps13
  go_wp2_with fail
  obtain ⟨wb, hwb⟩ : ∃ x, x = w.alloc (.cells #[.int .i64 0, .int .i64 0] 30) := ⟨_, rfl⟩
  rw [← hwb]
  have hsz : w.heap.size + 1 = wb.heap.size := by rw [hwb]; exact (Hand.sa _ _).symm
  rw [hsz]
  have GT0 := Lib.hid (show wb.heap[w.heap.size]? = some (.cells #[.int .i64 0, .int .i64 0] 30 (0, 0)) from by rw [hwb]; exact Hand.q3 _ _ _ rfl)
  have HB0 := Lib.hid (show Below w.heap.size w wb from by rw [hwb]; exact (Below.refl _ _).alloc (Nat.le_refl _) _)
  have zT := Lib.hid hsz
  clear hwb hsz
  have g_T := GT0.out
  have hB := HB0.out
  obtain ⟨z_T, z1_T, z2_T, y0_T, y1_T⟩ := Hand.hz g_T
  obtain ⟨c_T_0, f_T_0, c_T_1, f_T_1⟩ := Hand.hc2 g_T
  have zw : w.heap.size ≤ wb.heap.size := hB.size
  have HG := Lib.hid (And.intro g_T (hB))
  clear g_T hB
  obtain ⟨W, hW⟩ : ∃ W_, W_ = wb.alloc (scan L false) := ⟨_, rfl⟩
  rw [← hW]
  have hx_W : W.heap[wb.heap.size]? = some (scan L false) := by rw [hW]; exact Hand.q3 _ _ _ rfl
  have hb_W : Below wb.heap.size wb W := by rw [hW]; exact (Below.refl _ _).alloc (Nat.le_refl _) _
  clear hW
  clear HG zw z_T z1_T z2_T y0_T y1_T c_T_0 f_T_0 c_T_1 f_T_1
  have HX := Lib.hid hx_W
  have HBX := Lib.hid hb_W
  have g_T := Hand.kb hb_W GT0.out
  have g_X := hx_W
  have hB := Hand.stepB hb_W HB0.out (Nat.le_refl _)
  clear hx_W hb_W
  obtain ⟨z_T, z1_T, z2_T, y0_T, y1_T⟩ := Hand.hz g_T
  obtain ⟨c_T_0, f_T_0, c_T_1, f_T_1⟩ := Hand.hc2 g_T
  obtain ⟨z_X, z1_X, z2_X, y0_X, y1_X⟩ := Hand.hz g_X
  obtain ⟨c_X_0, f_X_0, c_X_1, f_X_1⟩ := Hand.hc2 g_X
  have zw : w.heap.size ≤ W.heap.size := hB.size
  have HG := Lib.hid (And.intro g_T (And.intro g_X (hB)))
  clear g_T g_X hB
  go_wp2_with fail
  with_reducible refine (M3.out wb _ _ (Nat.le_refl _) (bk HX.out) (bw HBX.out)).mono ?_
  rintro e w3 ⟨rfl, hx_w3, hb_w3⟩
  clear HX HBX HG zw z_T z1_T z2_T y0_T y1_T c_T_0 f_T_0 c_T_1 f_T_1 z_X z1_X z2_X y0_X y1_X c_X_0 f_X_0 c_X_1 f_X_1
  have HX := Lib.hid hx_w3
  have HBX := Lib.hid hb_w3
  have g_T := Hand.kb hb_w3 GT0.out
  have g_X := hx_w3
  have hB := Hand.stepB hb_w3 HB0.out (Nat.le_refl _)
  clear hx_w3 hb_w3
  obtain ⟨z_T, z1_T, z2_T, y0_T, y1_T⟩ := Hand.hz g_T
  obtain ⟨c_T_0, f_T_0, c_T_1, f_T_1⟩ := Hand.hc2 g_T
  obtain ⟨z_X, z1_X, z2_X, y0_X, y1_X⟩ := Hand.hz g_X
  obtain ⟨c_X_0, f_X_0, c_X_1, f_X_1⟩ := Hand.hc2 g_X
  have zw : w.heap.size ≤ w3.heap.size := hB.size
  have HG := Lib.hid (And.intro g_T (And.intro g_X (hB)))
  clear g_T g_X hB
  go_wp2_with fail
  with_reducible refine (M4.out wb _ _ (Nat.le_refl _) (bk HX.out) (bw HBX.out)).mono ?_
  rintro e w4 ⟨rfl, hx_w4, hb_w4⟩
  clear HX HBX HG zw z_T z1_T z2_T y0_T y1_T c_T_0 f_T_0 c_T_1 f_T_1 z_X z1_X z2_X y0_X y1_X c_X_0 f_X_0 c_X_1 f_X_1
  have HX := Lib.hid hx_w4
  have HBX := Lib.hid hb_w4
  have g_T := Hand.kb hb_w4 GT0.out
  have g_X := hx_w4
  have hB := Hand.stepB hb_w4 HB0.out (Nat.le_refl _)
  clear hx_w4 hb_w4
  obtain ⟨z_T, z1_T, z2_T, y0_T, y1_T⟩ := Hand.hz g_T
  obtain ⟨c_T_0, f_T_0, c_T_1, f_T_1⟩ := Hand.hc2 g_T
  obtain ⟨z_X, z1_X, z2_X, y0_X, y1_X⟩ := Hand.hz g_X
  obtain ⟨c_X_0, f_X_0, c_X_1, f_X_1⟩ := Hand.hc2 g_X
  have zw : w.heap.size ≤ w4.heap.size := hB.size
  have HG := Lib.hid (And.intro g_T (And.intro g_X (hB)))
  clear g_T g_X hB
  go_wp2_with fail
  with_reducible refine (M5.out wb _ _ (Nat.le_refl _) (bk HX.out) (bw HBX.out)).mono ?_
  rintro e w5 ⟨rfl, hx_w5, hb_w5⟩
  clear HX HBX HG zw z_T z1_T z2_T y0_T y1_T c_T_0 f_T_0 c_T_1 f_T_1 z_X z1_X z2_X y0_X y1_X c_X_0 f_X_0 c_X_1 f_X_1
  have HX := Lib.hid hx_w5
  have HBX := Lib.hid hb_w5
  have g_T := Hand.kb hb_w5 GT0.out
  have g_X := hx_w5
  have hB := Hand.stepB hb_w5 HB0.out (Nat.le_refl _)
  clear hx_w5 hb_w5
  obtain ⟨z_T, z1_T, z2_T, y0_T, y1_T⟩ := Hand.hz g_T
  obtain ⟨c_T_0, f_T_0, c_T_1, f_T_1⟩ := Hand.hc2 g_T
  obtain ⟨z_X, z1_X, z2_X, y0_X, y1_X⟩ := Hand.hz g_X
  obtain ⟨c_X_0, f_X_0, c_X_1, f_X_1⟩ := Hand.hc2 g_X
  have zw : w.heap.size ≤ w5.heap.size := hB.size
  have HG := Lib.hid (And.intro g_T (And.intro g_X (hB)))
  clear g_T g_X hB
  go_wp2_with fail
  with_reducible refine (M6.out wb _ _ (Nat.le_refl _) (bk HX.out) (bw HBX.out)).mono ?_
  rintro e w6 ⟨rfl, hx_w6, hb_w6⟩
  clear HX HBX HG zw z_T z1_T z2_T y0_T y1_T c_T_0 f_T_0 c_T_1 f_T_1 z_X z1_X z2_X y0_X y1_X c_X_0 f_X_0 c_X_1 f_X_1
  have HX := Lib.hid hx_w6
  have HBX := Lib.hid hb_w6
  have g_T := Hand.kb hb_w6 GT0.out
  have g_X := hx_w6
  have hB := Hand.stepB hb_w6 HB0.out (Nat.le_refl _)
  clear hx_w6 hb_w6
  obtain ⟨z_T, z1_T, z2_T, y0_T, y1_T⟩ := Hand.hz g_T
  obtain ⟨c_T_0, f_T_0, c_T_1, f_T_1⟩ := Hand.hc2 g_T
  obtain ⟨z_X, z1_X, z2_X, y0_X, y1_X⟩ := Hand.hz g_X
  obtain ⟨c_X_0, f_X_0, c_X_1, f_X_1⟩ := Hand.hc2 g_X
  have zw : w.heap.size ≤ w6.heap.size := hB.size
  have HG := Lib.hid (And.intro g_T (And.intro g_X (hB)))
  clear g_T g_X hB
  go_wp2_with fail
  with_reducible refine (M7.out wb _ _ (Nat.le_refl _) (bk HX.out) (bw HBX.out)).mono ?_
  rintro e w7 ⟨rfl, hx_w7, hb_w7⟩
  clear HX HBX HG zw z_T z1_T z2_T y0_T y1_T c_T_0 f_T_0 c_T_1 f_T_1 z_X z1_X z2_X y0_X y1_X c_X_0 f_X_0 c_X_1 f_X_1
  have HX := Lib.hid hx_w7
  have HBX := Lib.hid hb_w7
  have g_T := Hand.kb hb_w7 GT0.out
  have g_X := hx_w7
  have hB := Hand.stepB hb_w7 HB0.out (Nat.le_refl _)
  clear hx_w7 hb_w7
  obtain ⟨z_T, z1_T, z2_T, y0_T, y1_T⟩ := Hand.hz g_T
  obtain ⟨c_T_0, f_T_0, c_T_1, f_T_1⟩ := Hand.hc2 g_T
  obtain ⟨z_X, z1_X, z2_X, y0_X, y1_X⟩ := Hand.hz g_X
  obtain ⟨c_X_0, f_X_0, c_X_1, f_X_1⟩ := Hand.hc2 g_X
  have zw : w.heap.size ≤ w7.heap.size := hB.size
  have HG := Lib.hid (And.intro g_T (And.intro g_X (hB)))
  clear g_T g_X hB
  go_wp2_with fail
  with_reducible refine (M9.out wb _ _ (Nat.le_refl _) (bk HX.out) (bw HBX.out)).mono ?_
  rintro e w9 ⟨rfl, hx_w9, hb_w9⟩
  clear HX HBX HG zw z_T z1_T z2_T y0_T y1_T c_T_0 f_T_0 c_T_1 f_T_1 z_X z1_X z2_X y0_X y1_X c_X_0 f_X_0 c_X_1 f_X_1
  have HX := Lib.hid hx_w9
  have HBX := Lib.hid hb_w9
  have g_T := Hand.kb hb_w9 GT0.out
  have g_X := hx_w9
  have hB := Hand.stepB hb_w9 HB0.out (Nat.le_refl _)
  clear hx_w9 hb_w9
  obtain ⟨z_T, z1_T, z2_T, y0_T, y1_T⟩ := Hand.hz g_T
  obtain ⟨c_T_0, f_T_0, c_T_1, f_T_1⟩ := Hand.hc2 g_T
  obtain ⟨z_X, z1_X, z2_X, y0_X, y1_X⟩ := Hand.hz g_X
  obtain ⟨c_X_0, f_X_0, c_X_1, f_X_1⟩ := Hand.hc2 g_X
  have zw : w.heap.size ≤ w9.heap.size := hB.size
  have HG := Lib.hid (And.intro g_T (And.intro g_X (hB)))
  clear g_T g_X hB
  go_wp2_with fail
  with_reducible refine (M11.out wb _ _ (Nat.le_refl _) (bk HX.out) (bw HBX.out)).mono ?_
  rintro e w11 ⟨rfl, hx_w11, hb_w11⟩
  clear HX HBX HG zw z_T z1_T z2_T y0_T y1_T c_T_0 f_T_0 c_T_1 f_T_1 z_X z1_X z2_X y0_X y1_X c_X_0 f_X_0 c_X_1 f_X_1
  have HX := Lib.hid hx_w11
  have HBX := Lib.hid hb_w11
  have g_T := Hand.kb hb_w11 GT0.out
  have g_X := hx_w11
  have hB := Hand.stepB hb_w11 HB0.out (Nat.le_refl _)
  clear hx_w11 hb_w11
  obtain ⟨z_T, z1_T, z2_T, y0_T, y1_T⟩ := Hand.hz g_T
  obtain ⟨c_T_0, f_T_0, c_T_1, f_T_1⟩ := Hand.hc2 g_T
  obtain ⟨z_X, z1_X, z2_X, y0_X, y1_X⟩ := Hand.hz g_X
  obtain ⟨c_X_0, f_X_0, c_X_1, f_X_1⟩ := Hand.hc2 g_X
  have zw : w.heap.size ≤ w11.heap.size := hB.size
  have HG := Lib.hid (And.intro g_T (And.intro g_X (hB)))
  clear g_T g_X hB
  rcases HWAY.out with ⟨rfl, rfl, rfl, rfl⟩ | ⟨rfl, hl, rfl, rfl, rfl⟩ | ⟨rfl, rfl, h0, h1, hm0, mb, s0, sb, k0, kf, rfl, rfl, rfl, m12, m13⟩ | ⟨rfl, rfl, h0, h1, hm0, mb, s0, sb, k0, kf, he, rfl, rfl, rfl, m12, m13⟩
  · have W_ := True.intro
    go_wp2
    obtain ⟨g_T, g_X, hB⟩ := HG.out
    refine bodyPost_ret (results_ct rfl _ _ (w.heap.size) 30 #[.int .i64 0, .int .i64 0] (0, 0) _ rfl ?_ Tryz.underlying30 rfl (by kernel_rfl)) rfl ⟨rfl, ?_⟩
    · simp (disch := omega) only [Hand.q1, g_T]; rfl
    · exact (hB.setCell (by dsimp only; omega) _).setCell (by dsimp only; omega) _
  · have W_ := True.intro
    have hl2 : ¬ L7.toList = [] := by intro e; rw [e] at hl; exact absurd hl (by decide)
    go_wp2
    obtain ⟨g_T, g_X, hB⟩ := HG.out
    refine bodyPost_ret (results_ct rfl _ _ (w.heap.size) 30 #[.int .i64 0, .int .i64 0] (0, 0) _ rfl ?_ Tryz.underlying30 rfl (by kernel_rfl)) rfl ⟨rfl, ?_⟩
    · simp (disch := omega) only [Hand.q1, g_T]; rfl
    · exact (hB.setCell (by dsimp only; omega) _).setCell (by dsimp only; omega) _
  · have W_ := True.intro
    have M12 := Lib.hid m12
    have M13 := Lib.hid m13
    clear m12 m13
    go_wp2_with fail
    with_reducible refine (M12.out _).mono ?_
    rintro e w12 ⟨rfl, hq⟩
    obtain ⟨g_T, g_X, hB⟩ := HG.out
    have h_T : w12.heap[w.heap.size]? = some (.cells #[.int .i64 0, .int .i64 0] 30 (0, 0)) := by
      refine Hand.kb hq ?_; first | with_reducible exact g_T | (simp (disch := first | omega | (simp only [Hand.sa, Hand.ss, Hand.sd, Hand.sn]; first | done | omega)) only [Hand.q2, Hand.q1, Hand.q5, Hand.q6, Hand.q4, Hand.q3, g_T] <;> rfl)
    have h_X : w12.heap[wb.heap.size]? = some (.cells #[.string ⟨#[]⟩, .bool false] 70 (0, 0)) := by
      refine Hand.kb hq ?_; simp (disch := first | omega | (simp only [Hand.sa, Hand.ss, Hand.sd, Hand.sn]; first | done | omega)) only [Hand.q2, Hand.q1, Hand.q5, Hand.q6, Hand.q4, Hand.q3, g_X] <;> rfl
    have hB' : Below w.heap.size w w12 := Hand.stepB hq (by repeat (with_reducible first | apply hB | apply Below.drew | apply pw_below_drewN | (apply Below.setCell; rotate_left; (dsimp only; omega)) | (apply Below.alloc; rotate_left; (first | omega | (simp only [Hand.sa, Hand.ss, Hand.sd, Hand.sn]; omega))))) (Nat.le_refl _)
    clear HG hB g_T g_X zw z_T z1_T z2_T y0_T y1_T c_T_0 f_T_0 c_T_1 f_T_1 z_X z1_X z2_X y0_X y1_X c_X_0 f_X_0 c_X_1 f_X_1
    clear hq
    have g_T := h_T
    have g_X := h_X
    have hB := hB'
    clear hB' h_T h_X
    obtain ⟨z_T, z1_T, z2_T, y0_T, y1_T⟩ := Hand.hz g_T
    obtain ⟨c_T_0, f_T_0, c_T_1, f_T_1⟩ := Hand.hc2 g_T
    obtain ⟨z_X, z1_X, z2_X, y0_X, y1_X⟩ := Hand.hz g_X
    obtain ⟨c_X_0, f_X_0, c_X_1, f_X_1⟩ := Hand.hc2 g_X
    have zw : w.heap.size ≤ w12.heap.size := hB.size
    have HG := Lib.hid (And.intro g_T (And.intro g_X (hB)))
    clear g_T g_X hB
    go_wp2_with fail
    with_reducible refine (M13.out _).mono ?_
    rintro e_ w13 ⟨rfl, hq⟩
    obtain ⟨g_T, g_X, hB⟩ := HG.out
    have h_T : w13.heap[w.heap.size]? = some (.cells #[.int .i64 0, .int .i64 0] 30 (0, 0)) := by
      refine Hand.kb hq ?_; first | with_reducible exact g_T | (simp (disch := first | omega | (simp only [Hand.sa, Hand.ss, Hand.sd, Hand.sn]; first | done | omega)) only [Hand.q2, Hand.q1, Hand.q5, Hand.q6, Hand.q4, Hand.q3, g_T] <;> rfl)
    have h_X : w13.heap[wb.heap.size]? = some (.cells #[.string ⟨#[]⟩, .bool false] 70 (0, 0)) := by
      refine Hand.kb hq ?_; simp (disch := first | omega | (simp only [Hand.sa, Hand.ss, Hand.sd, Hand.sn]; first | done | omega)) only [Hand.q2, Hand.q1, Hand.q5, Hand.q6, Hand.q4, Hand.q3, g_X] <;> rfl
    have h_Y : w13.heap[w12.heap.size]? = some (.cells #[.int .i64 x, .int .i64 y] 30 (0, 0)) := by
      refine Hand.kb hq ?_; simp (disch := first | omega | (simp only [Hand.sa, Hand.ss, Hand.sd, Hand.sn]; first | done | omega)) only [Hand.q2, Hand.q1, Hand.q5, Hand.q6, Hand.q4, Hand.q3] <;> rfl
    have hB' : Below w.heap.size w w13 := Hand.stepB hq (by repeat (with_reducible first | apply hB | apply Below.drew | apply pw_below_drewN | (apply Below.setCell; rotate_left; (dsimp only; omega)) | (apply Below.alloc; rotate_left; (first | omega | (simp only [Hand.sa, Hand.ss, Hand.sd, Hand.sn]; omega))))) (Nat.le_refl _)
    clear HG hB g_T g_X zw z_T z1_T z2_T y0_T y1_T c_T_0 f_T_0 c_T_1 f_T_1 z_X z1_X z2_X y0_X y1_X c_X_0 f_X_0 c_X_1 f_X_1
    clear hq
    have g_T := h_T
    have g_X := h_X
    have g_Y := h_Y
    have hB := hB'
    clear hB' h_T h_X h_Y
    obtain ⟨z_T, z1_T, z2_T, y0_T, y1_T⟩ := Hand.hz g_T
    obtain ⟨c_T_0, f_T_0, c_T_1, f_T_1⟩ := Hand.hc2 g_T
    obtain ⟨z_X, z1_X, z2_X, y0_X, y1_X⟩ := Hand.hz g_X
    obtain ⟨c_X_0, f_X_0, c_X_1, f_X_1⟩ := Hand.hc2 g_X
    obtain ⟨z_Y, z1_Y, z2_Y, y0_Y, y1_Y⟩ := Hand.hz g_Y
    obtain ⟨c_Y_0, f_Y_0, c_Y_1, f_Y_1⟩ := Hand.hc2 g_Y
    have zw : w.heap.size ≤ w13.heap.size := hB.size
    have HG := Lib.hid (And.intro g_T (And.intro g_X (And.intro g_Y (hB))))
    clear g_T g_X g_Y hB
    go_wp2
    obtain ⟨g_T, g_X, g_Y, hB⟩ := HG.out
    refine bodyPost_ret (results_ct rfl _ _ (w.heap.size) 30 #[.int .i64 x, .int .i64 y] (0, 0) _ rfl ?_ Tryz.underlying30 rfl (by kernel_rfl)) rfl ⟨rfl, ?_⟩
    · simp (disch := omega) only [Hand.q1, g_T]; rfl
    · exact (hB.setCell (by dsimp only; omega) _).setCell (by dsimp only; omega) _
  · have W_ := True.intro
    have M12 := Lib.hid m12
    have M13 := Lib.hid m13
    clear m12 m13
    have he2 : (q != 0) = true := by simpa using he
    go_wp2_with fail
    with_reducible refine (M12.out _).mono ?_
    rintro e w12 ⟨rfl, hq⟩
    obtain ⟨g_T, g_X, hB⟩ := HG.out
    have h_T : w12.heap[w.heap.size]? = some (.cells #[.int .i64 0, .int .i64 0] 30 (0, 0)) := by
      refine Hand.kb hq ?_; first | with_reducible exact g_T | (simp (disch := first | omega | (simp only [Hand.sa, Hand.ss, Hand.sd, Hand.sn]; first | done | omega)) only [Hand.q2, Hand.q1, Hand.q5, Hand.q6, Hand.q4, Hand.q3, g_T] <;> rfl)
    have h_X : w12.heap[wb.heap.size]? = some (.cells #[.string ⟨#[]⟩, .bool false] 70 (0, 0)) := by
      refine Hand.kb hq ?_; simp (disch := first | omega | (simp only [Hand.sa, Hand.ss, Hand.sd, Hand.sn]; first | done | omega)) only [Hand.q2, Hand.q1, Hand.q5, Hand.q6, Hand.q4, Hand.q3, g_X] <;> rfl
    have hB' : Below w.heap.size w w12 := Hand.stepB hq (by repeat (with_reducible first | apply hB | apply Below.drew | apply pw_below_drewN | (apply Below.setCell; rotate_left; (dsimp only; omega)) | (apply Below.alloc; rotate_left; (first | omega | (simp only [Hand.sa, Hand.ss, Hand.sd, Hand.sn]; omega))))) (Nat.le_refl _)
    clear HG hB g_T g_X zw z_T z1_T z2_T y0_T y1_T c_T_0 f_T_0 c_T_1 f_T_1 z_X z1_X z2_X y0_X y1_X c_X_0 f_X_0 c_X_1 f_X_1
    clear hq
    have g_T := h_T
    have g_X := h_X
    have hB := hB'
    clear hB' h_T h_X
    obtain ⟨z_T, z1_T, z2_T, y0_T, y1_T⟩ := Hand.hz g_T
    obtain ⟨c_T_0, f_T_0, c_T_1, f_T_1⟩ := Hand.hc2 g_T
    obtain ⟨z_X, z1_X, z2_X, y0_X, y1_X⟩ := Hand.hz g_X
    obtain ⟨c_X_0, f_X_0, c_X_1, f_X_1⟩ := Hand.hc2 g_X
    have zw : w.heap.size ≤ w12.heap.size := hB.size
    have HG := Lib.hid (And.intro g_T (And.intro g_X (hB)))
    clear g_T g_X hB
    go_wp2_with fail
    with_reducible refine (M13.out _).mono ?_
    rintro e_ w13 ⟨rfl, hq⟩
    obtain ⟨g_T, g_X, hB⟩ := HG.out
    have h_T : w13.heap[w.heap.size]? = some (.cells #[.int .i64 0, .int .i64 0] 30 (0, 0)) := by
      refine Hand.kb hq ?_; first | with_reducible exact g_T | (simp (disch := first | omega | (simp only [Hand.sa, Hand.ss, Hand.sd, Hand.sn]; first | done | omega)) only [Hand.q2, Hand.q1, Hand.q5, Hand.q6, Hand.q4, Hand.q3, g_T] <;> rfl)
    have h_X : w13.heap[wb.heap.size]? = some (.cells #[.string ⟨#[]⟩, .bool false] 70 (0, 0)) := by
      refine Hand.kb hq ?_; simp (disch := first | omega | (simp only [Hand.sa, Hand.ss, Hand.sd, Hand.sn]; first | done | omega)) only [Hand.q2, Hand.q1, Hand.q5, Hand.q6, Hand.q4, Hand.q3, g_X] <;> rfl
    have h_Y : w13.heap[w12.heap.size]? = some (.cells #[.int .i64 x, .int .i64 y] 30 (0, 0)) := by
      refine Hand.kb hq ?_; simp (disch := first | omega | (simp only [Hand.sa, Hand.ss, Hand.sd, Hand.sn]; first | done | omega)) only [Hand.q2, Hand.q1, Hand.q5, Hand.q6, Hand.q4, Hand.q3] <;> rfl
    have hB' : Below w.heap.size w w13 := Hand.stepB hq (by repeat (with_reducible first | apply hB | apply Below.drew | apply pw_below_drewN | (apply Below.setCell; rotate_left; (dsimp only; omega)) | (apply Below.alloc; rotate_left; (first | omega | (simp only [Hand.sa, Hand.ss, Hand.sd, Hand.sn]; omega))))) (Nat.le_refl _)
    clear HG hB g_T g_X zw z_T z1_T z2_T y0_T y1_T c_T_0 f_T_0 c_T_1 f_T_1 z_X z1_X z2_X y0_X y1_X c_X_0 f_X_0 c_X_1 f_X_1
    clear hq
    have g_T := h_T
    have g_X := h_X
    have g_Y := h_Y
    have hB := hB'
    clear hB' h_T h_X h_Y
    obtain ⟨z_T, z1_T, z2_T, y0_T, y1_T⟩ := Hand.hz g_T
    obtain ⟨c_T_0, f_T_0, c_T_1, f_T_1⟩ := Hand.hc2 g_T
    obtain ⟨z_X, z1_X, z2_X, y0_X, y1_X⟩ := Hand.hz g_X
    obtain ⟨c_X_0, f_X_0, c_X_1, f_X_1⟩ := Hand.hc2 g_X
    obtain ⟨z_Y, z1_Y, z2_Y, y0_Y, y1_Y⟩ := Hand.hz g_Y
    obtain ⟨c_Y_0, f_Y_0, c_Y_1, f_Y_1⟩ := Hand.hc2 g_Y
    have zw : w.heap.size ≤ w13.heap.size := hB.size
    have HG := Lib.hid (And.intro g_T (And.intro g_X (And.intro g_Y (hB))))
    clear g_T g_X g_Y hB
    go_wp2
    obtain ⟨g_T, g_X, g_Y, hB⟩ := HG.out
    refine bodyPost_ret (results_ct rfl _ _ (w.heap.size) 30 #[.int .i64 0, .int .i64 0] (0, 0) _ rfl ?_ Tryz.underlying30 rfl (by kernel_rfl)) rfl ⟨rfl, ?_⟩
    · simp (disch := omega) only [Hand.q1, g_T]; rfl
    · exact (hB.setCell (by dsimp only; omega) _).setCell (by dsimp only; omega) _
set_option maxHeartbeats 3000000 in
set_option maxRecDepth 100000 in
theorem pck_2 (rx ry re x y z q h m s k c : Int) (b1 b2 b3 b4 b5 b6 b7 : Bool) (L L1 L2 L3 L4 L5 L6 L7 : ByteArray) (hc : (c == 1) = false) (hway : ((b7 = true) ∧ (0 = rx) ∧ (0 = ry) ∧ (13 = re)) ∨ ((b7 = false) ∧ (L7.toList.isEmpty = false) ∧ (0 = rx) ∧ (0 = ry) ∧ (13 = re)) ∨ ((b7 = false) ∧ (L7 = ⟨#[]⟩) ∧ (0 ≤ h) ∧ (h ≤ 999) ∧ (0 ≤ m) ∧ (m < 60) ∧ (0 ≤ s) ∧ (s < 60) ∧ (0 ≤ k) ∧ (k < 1000) ∧ (x = rx) ∧ (y = ry) ∧ (0 = re) ∧ (∀ w, Calls Tryz.prog 43 #[.int .i64 (((h * 3600 + m * 60 + s) * 1000 + k)), .int .i64 1000] w fun e w' => e = .returned (.tuple #[.agg #[.int .i64 x, .int .i64 y], .int .i64 z]) ∧ Below w.heap.size w w') ∧ (∀ w, Calls Tryz.prog 35 #[.agg #[.int .i64 x, .int .i64 y]] w fun e w' => e = .returned (.int .i64 0) ∧ Below w.heap.size w w')) ∨ ((b7 = false) ∧ (L7 = ⟨#[]⟩) ∧ (0 ≤ h) ∧ (h ≤ 999) ∧ (0 ≤ m) ∧ (m < 60) ∧ (0 ≤ s) ∧ (s < 60) ∧ (0 ≤ k) ∧ (k < 1000) ∧ ((q == 0) = false) ∧ (0 = rx) ∧ (0 = ry) ∧ (q = re) ∧ (∀ w, Calls Tryz.prog 43 #[.int .i64 (((h * 3600 + m * 60 + s) * 1000 + k)), .int .i64 1000] w fun e w' => e = .returned (.tuple #[.agg #[.int .i64 x, .int .i64 y], .int .i64 z]) ∧ Below w.heap.size w w') ∧ (∀ w, Calls Tryz.prog 35 #[.agg #[.int .i64 x, .int .i64 y]] w fun e w' => e = .returned (.int .i64 q) ∧ Below w.heap.size w w'))) (w : World)
    (m2 : ∀ w, Calls Tryz.prog 38 #[.string L, .string ⟨#[58]⟩] w fun e w' => e = .returned (.int .i64 c) ∧ Below w.heap.size w w')
    (m3 : ∀ w0 w g, w0.heap.size ≤ g → w.heap[g]? = some (scan L false) → Below w0.heap.size w0 w → Calls Tryz.prog 39 #[.pointer (some ⟨g, 0, none⟩), .int .i64 2] w fun e w' => e = .returned (.int .i64 h) ∧ SL w0 w' g L1 b1)
    (m4 : ∀ w0 w g, w0.heap.size ≤ g → w.heap[g]? = some (scan L1 b1) → Below w0.heap.size w0 w → Calls Tryz.prog 40 #[.pointer (some ⟨g, 0, none⟩), .string ⟨#[58]⟩] w fun e w' => e = .returned (.tuple #[]) ∧ SL w0 w' g L2 b2)
    (m5 : ∀ w0 w g, w0.heap.size ≤ g → w.heap[g]? = some (scan L2 b2) → Below w0.heap.size w0 w → Calls Tryz.prog 41 #[.pointer (some ⟨g, 0, none⟩), .int .i64 2, .int .i64 60] w fun e w' => e = .returned (.int .i64 m) ∧ SL w0 w' g L3 b3)
    (m6 : ∀ w0 w g, w0.heap.size ≤ g → w.heap[g]? = some (scan L3 b3) → Below w0.heap.size w0 w → Calls Tryz.prog 40 #[.pointer (some ⟨g, 0, none⟩), .string ⟨#[58]⟩] w fun e w' => e = .returned (.tuple #[]) ∧ SL w0 w' g L4 b4)
    (m7 : ∀ w0 w g, w0.heap.size ≤ g → w.heap[g]? = some (scan L4 b4) → Below w0.heap.size w0 w → Calls Tryz.prog 41 #[.pointer (some ⟨g, 0, none⟩), .int .i64 2, .int .i64 60] w fun e w' => e = .returned (.int .i64 s) ∧ SL w0 w' g L5 b5)
    (m9 : ∀ w0 w g, w0.heap.size ≤ g → w.heap[g]? = some (scan L5 b5) → Below w0.heap.size w0 w → Calls Tryz.prog 40 #[.pointer (some ⟨g, 0, none⟩), .string ⟨#[46]⟩] w fun e w' => e = .returned (.tuple #[]) ∧ SL w0 w' g L6 b6)
    (m11 : ∀ w0 w g, w0.heap.size ≤ g → w.heap[g]? = some (scan L6 b6) → Below w0.heap.size w0 w → Calls Tryz.prog 42 #[.pointer (some ⟨g, 0, none⟩), .int .i64 3] w fun e w' => e = .returned (.int .i64 k) ∧ SL w0 w' g L7 b7) :
    Calls Tryz.prog 13 #[.int .i64 2, .string L] w fun e w' => e = .returned (.tuple #[.agg #[.int .i64 rx, .int .i64 ry], .int .i64 re]) ∧ Below w.heap.size w w' := by
  have hc2 : ¬ c = 1 := by simpa using hc
  have M2 := Lib.hid m2
  have M3 := Lib.hid m3
  have M4 := Lib.hid m4
  have M5 := Lib.hid m5
  have M6 := Lib.hid m6
  have M7 := Lib.hid m7
  have M9 := Lib.hid m9
  have M11 := Lib.hid m11
  have HWAY := Lib.hid hway
  clear m2 m3 m4 m5 m6 m7 m9 m11 hway
  go_enter Tryz.func13, Tryz.ntmps13
  go_wp2_with fail
  obtain ⟨wb, hwb⟩ : ∃ x, x = w.alloc (.cells #[.int .i64 0, .int .i64 0] 30) := ⟨_, rfl⟩
  rw [← hwb]
  have hsz : w.heap.size + 1 = wb.heap.size := by rw [hwb]; exact (Hand.sa _ _).symm
  rw [hsz]
  have GT0 := Lib.hid (show wb.heap[w.heap.size]? = some (.cells #[.int .i64 0, .int .i64 0] 30 (0, 0)) from by rw [hwb]; exact Hand.q3 _ _ _ rfl)
  have HB0 := Lib.hid (show Below w.heap.size w wb from by rw [hwb]; exact (Below.refl _ _).alloc (Nat.le_refl _) _)
  have zT := Lib.hid hsz
  clear hwb hsz
  have g_T := GT0.out
  have hB := HB0.out
  obtain ⟨z_T, z1_T, z2_T, y0_T, y1_T⟩ := Hand.hz g_T
  obtain ⟨c_T_0, f_T_0, c_T_1, f_T_1⟩ := Hand.hc2 g_T
  have zw : w.heap.size ≤ wb.heap.size := hB.size
  have HG := Lib.hid (And.intro g_T (hB))
  clear g_T hB
  obtain ⟨W, hW⟩ : ∃ W_, W_ = wb.alloc (scan L false) := ⟨_, rfl⟩
  rw [← hW]
  have hx_W : W.heap[wb.heap.size]? = some (scan L false) := by rw [hW]; exact Hand.q3 _ _ _ rfl
  have hb_W : Below wb.heap.size wb W := by rw [hW]; exact (Below.refl _ _).alloc (Nat.le_refl _) _
  clear hW
  clear HG zw z_T z1_T z2_T y0_T y1_T c_T_0 f_T_0 c_T_1 f_T_1
  have HX := Lib.hid hx_W
  have HBX := Lib.hid hb_W
  have g_T := Hand.kb hb_W GT0.out
  have g_X := hx_W
  have hB := Hand.stepB hb_W HB0.out (Nat.le_refl _)
  clear hx_W hb_W
  obtain ⟨z_T, z1_T, z2_T, y0_T, y1_T⟩ := Hand.hz g_T
  obtain ⟨c_T_0, f_T_0, c_T_1, f_T_1⟩ := Hand.hc2 g_T
  obtain ⟨z_X, z1_X, z2_X, y0_X, y1_X⟩ := Hand.hz g_X
  obtain ⟨c_X_0, f_X_0, c_X_1, f_X_1⟩ := Hand.hc2 g_X
  have zw : w.heap.size ≤ W.heap.size := hB.size
  have HG := Lib.hid (And.intro g_T (And.intro g_X (hB)))
  clear g_T g_X hB
  go_wp2_with fail
  with_reducible refine (M2.out _).mono ?_
  rintro e w2 ⟨rfl, hq⟩
  have hx_w2 := Hand.kb hq (bk HX.out)
  have hb_w2 := Hand.stepB hq (bw HBX.out) (Nat.le_refl _)
  clear hq
  clear HX HBX HG zw z_T z1_T z2_T y0_T y1_T c_T_0 f_T_0 c_T_1 f_T_1 z_X z1_X z2_X y0_X y1_X c_X_0 f_X_0 c_X_1 f_X_1
  have HX := Lib.hid hx_w2
  have HBX := Lib.hid hb_w2
  have g_T := Hand.kb hb_w2 GT0.out
  have g_X := hx_w2
  have hB := Hand.stepB hb_w2 HB0.out (Nat.le_refl _)
  clear hx_w2 hb_w2
  obtain ⟨z_T, z1_T, z2_T, y0_T, y1_T⟩ := Hand.hz g_T
  obtain ⟨c_T_0, f_T_0, c_T_1, f_T_1⟩ := Hand.hc2 g_T
  obtain ⟨z_X, z1_X, z2_X, y0_X, y1_X⟩ := Hand.hz g_X
  obtain ⟨c_X_0, f_X_0, c_X_1, f_X_1⟩ := Hand.hc2 g_X
  have zw : w.heap.size ≤ w2.heap.size := hB.size
  have HG := Lib.hid (And.intro g_T (And.intro g_X (hB)))
  clear g_T g_X hB
  go_wp2_with fail
  with_reducible refine (M3.out wb _ _ (Nat.le_refl _) (bk HX.out) (bw HBX.out)).mono ?_
  rintro e w3 ⟨rfl, hx_w3, hb_w3⟩
  clear HX HBX HG zw z_T z1_T z2_T y0_T y1_T c_T_0 f_T_0 c_T_1 f_T_1 z_X z1_X z2_X y0_X y1_X c_X_0 f_X_0 c_X_1 f_X_1
  have HX := Lib.hid hx_w3
  have HBX := Lib.hid hb_w3
  have g_T := Hand.kb hb_w3 GT0.out
  have g_X := hx_w3
  have hB := Hand.stepB hb_w3 HB0.out (Nat.le_refl _)
  clear hx_w3 hb_w3
  obtain ⟨z_T, z1_T, z2_T, y0_T, y1_T⟩ := Hand.hz g_T
  obtain ⟨c_T_0, f_T_0, c_T_1, f_T_1⟩ := Hand.hc2 g_T
  obtain ⟨z_X, z1_X, z2_X, y0_X, y1_X⟩ := Hand.hz g_X
  obtain ⟨c_X_0, f_X_0, c_X_1, f_X_1⟩ := Hand.hc2 g_X
  have zw : w.heap.size ≤ w3.heap.size := hB.size
  have HG := Lib.hid (And.intro g_T (And.intro g_X (hB)))
  clear g_T g_X hB
  go_wp2_with fail
  with_reducible refine (M4.out wb _ _ (Nat.le_refl _) (bk HX.out) (bw HBX.out)).mono ?_
  rintro e w4 ⟨rfl, hx_w4, hb_w4⟩
  clear HX HBX HG zw z_T z1_T z2_T y0_T y1_T c_T_0 f_T_0 c_T_1 f_T_1 z_X z1_X z2_X y0_X y1_X c_X_0 f_X_0 c_X_1 f_X_1
  have HX := Lib.hid hx_w4
  have HBX := Lib.hid hb_w4
  have g_T := Hand.kb hb_w4 GT0.out
  have g_X := hx_w4
  have hB := Hand.stepB hb_w4 HB0.out (Nat.le_refl _)
  clear hx_w4 hb_w4
  obtain ⟨z_T, z1_T, z2_T, y0_T, y1_T⟩ := Hand.hz g_T
  obtain ⟨c_T_0, f_T_0, c_T_1, f_T_1⟩ := Hand.hc2 g_T
  obtain ⟨z_X, z1_X, z2_X, y0_X, y1_X⟩ := Hand.hz g_X
  obtain ⟨c_X_0, f_X_0, c_X_1, f_X_1⟩ := Hand.hc2 g_X
  have zw : w.heap.size ≤ w4.heap.size := hB.size
  have HG := Lib.hid (And.intro g_T (And.intro g_X (hB)))
  clear g_T g_X hB
  go_wp2_with fail
  with_reducible refine (M5.out wb _ _ (Nat.le_refl _) (bk HX.out) (bw HBX.out)).mono ?_
  rintro e w5 ⟨rfl, hx_w5, hb_w5⟩
  clear HX HBX HG zw z_T z1_T z2_T y0_T y1_T c_T_0 f_T_0 c_T_1 f_T_1 z_X z1_X z2_X y0_X y1_X c_X_0 f_X_0 c_X_1 f_X_1
  have HX := Lib.hid hx_w5
  have HBX := Lib.hid hb_w5
  have g_T := Hand.kb hb_w5 GT0.out
  have g_X := hx_w5
  have hB := Hand.stepB hb_w5 HB0.out (Nat.le_refl _)
  clear hx_w5 hb_w5
  obtain ⟨z_T, z1_T, z2_T, y0_T, y1_T⟩ := Hand.hz g_T
  obtain ⟨c_T_0, f_T_0, c_T_1, f_T_1⟩ := Hand.hc2 g_T
  obtain ⟨z_X, z1_X, z2_X, y0_X, y1_X⟩ := Hand.hz g_X
  obtain ⟨c_X_0, f_X_0, c_X_1, f_X_1⟩ := Hand.hc2 g_X
  have zw : w.heap.size ≤ w5.heap.size := hB.size
  have HG := Lib.hid (And.intro g_T (And.intro g_X (hB)))
  clear g_T g_X hB
  go_wp2_with fail
  with_reducible refine (M6.out wb _ _ (Nat.le_refl _) (bk HX.out) (bw HBX.out)).mono ?_
  rintro e w6 ⟨rfl, hx_w6, hb_w6⟩
  clear HX HBX HG zw z_T z1_T z2_T y0_T y1_T c_T_0 f_T_0 c_T_1 f_T_1 z_X z1_X z2_X y0_X y1_X c_X_0 f_X_0 c_X_1 f_X_1
  have HX := Lib.hid hx_w6
  have HBX := Lib.hid hb_w6
  have g_T := Hand.kb hb_w6 GT0.out
  have g_X := hx_w6
  have hB := Hand.stepB hb_w6 HB0.out (Nat.le_refl _)
  clear hx_w6 hb_w6
  obtain ⟨z_T, z1_T, z2_T, y0_T, y1_T⟩ := Hand.hz g_T
  obtain ⟨c_T_0, f_T_0, c_T_1, f_T_1⟩ := Hand.hc2 g_T
  obtain ⟨z_X, z1_X, z2_X, y0_X, y1_X⟩ := Hand.hz g_X
  obtain ⟨c_X_0, f_X_0, c_X_1, f_X_1⟩ := Hand.hc2 g_X
  have zw : w.heap.size ≤ w6.heap.size := hB.size
  have HG := Lib.hid (And.intro g_T (And.intro g_X (hB)))
  clear g_T g_X hB
  go_wp2_with fail
  with_reducible refine (M7.out wb _ _ (Nat.le_refl _) (bk HX.out) (bw HBX.out)).mono ?_
  rintro e w7 ⟨rfl, hx_w7, hb_w7⟩
  clear HX HBX HG zw z_T z1_T z2_T y0_T y1_T c_T_0 f_T_0 c_T_1 f_T_1 z_X z1_X z2_X y0_X y1_X c_X_0 f_X_0 c_X_1 f_X_1
  have HX := Lib.hid hx_w7
  have HBX := Lib.hid hb_w7
  have g_T := Hand.kb hb_w7 GT0.out
  have g_X := hx_w7
  have hB := Hand.stepB hb_w7 HB0.out (Nat.le_refl _)
  clear hx_w7 hb_w7
  obtain ⟨z_T, z1_T, z2_T, y0_T, y1_T⟩ := Hand.hz g_T
  obtain ⟨c_T_0, f_T_0, c_T_1, f_T_1⟩ := Hand.hc2 g_T
  obtain ⟨z_X, z1_X, z2_X, y0_X, y1_X⟩ := Hand.hz g_X
  obtain ⟨c_X_0, f_X_0, c_X_1, f_X_1⟩ := Hand.hc2 g_X
  have zw : w.heap.size ≤ w7.heap.size := hB.size
  have HG := Lib.hid (And.intro g_T (And.intro g_X (hB)))
  clear g_T g_X hB
  go_wp2_with fail
  with_reducible refine (M9.out wb _ _ (Nat.le_refl _) (bk HX.out) (bw HBX.out)).mono ?_
  rintro e w9 ⟨rfl, hx_w9, hb_w9⟩
  clear HX HBX HG zw z_T z1_T z2_T y0_T y1_T c_T_0 f_T_0 c_T_1 f_T_1 z_X z1_X z2_X y0_X y1_X c_X_0 f_X_0 c_X_1 f_X_1
  have HX := Lib.hid hx_w9
  have HBX := Lib.hid hb_w9
  have g_T := Hand.kb hb_w9 GT0.out
  have g_X := hx_w9
  have hB := Hand.stepB hb_w9 HB0.out (Nat.le_refl _)
  clear hx_w9 hb_w9
  obtain ⟨z_T, z1_T, z2_T, y0_T, y1_T⟩ := Hand.hz g_T
  obtain ⟨c_T_0, f_T_0, c_T_1, f_T_1⟩ := Hand.hc2 g_T
  obtain ⟨z_X, z1_X, z2_X, y0_X, y1_X⟩ := Hand.hz g_X
  obtain ⟨c_X_0, f_X_0, c_X_1, f_X_1⟩ := Hand.hc2 g_X
  have zw : w.heap.size ≤ w9.heap.size := hB.size
  have HG := Lib.hid (And.intro g_T (And.intro g_X (hB)))
  clear g_T g_X hB
  go_wp2_with fail
  with_reducible refine (M11.out wb _ _ (Nat.le_refl _) (bk HX.out) (bw HBX.out)).mono ?_
  rintro e w11 ⟨rfl, hx_w11, hb_w11⟩
  clear HX HBX HG zw z_T z1_T z2_T y0_T y1_T c_T_0 f_T_0 c_T_1 f_T_1 z_X z1_X z2_X y0_X y1_X c_X_0 f_X_0 c_X_1 f_X_1
  have HX := Lib.hid hx_w11
  have HBX := Lib.hid hb_w11
  have g_T := Hand.kb hb_w11 GT0.out
  have g_X := hx_w11
  have hB := Hand.stepB hb_w11 HB0.out (Nat.le_refl _)
  clear hx_w11 hb_w11
  obtain ⟨z_T, z1_T, z2_T, y0_T, y1_T⟩ := Hand.hz g_T
  obtain ⟨c_T_0, f_T_0, c_T_1, f_T_1⟩ := Hand.hc2 g_T
  obtain ⟨z_X, z1_X, z2_X, y0_X, y1_X⟩ := Hand.hz g_X
  obtain ⟨c_X_0, f_X_0, c_X_1, f_X_1⟩ := Hand.hc2 g_X
  have zw : w.heap.size ≤ w11.heap.size := hB.size
  have HG := Lib.hid (And.intro g_T (And.intro g_X (hB)))
  clear g_T g_X hB
  rcases HWAY.out with ⟨rfl, rfl, rfl, rfl⟩ | ⟨rfl, hl, rfl, rfl, rfl⟩ | ⟨rfl, rfl, h0, h1, hm0, mb, s0, sb, k0, kf, rfl, rfl, rfl, m12, m13⟩ | ⟨rfl, rfl, h0, h1, hm0, mb, s0, sb, k0, kf, he, rfl, rfl, rfl, m12, m13⟩
  · have W_ := True.intro
    go_wp2
    obtain ⟨g_T, g_X, hB⟩ := HG.out
    refine bodyPost_ret (results_ct rfl _ _ (w.heap.size) 30 #[.int .i64 0, .int .i64 0] (0, 0) _ rfl ?_ Tryz.underlying30 rfl (by kernel_rfl)) rfl ⟨rfl, ?_⟩
    · simp (disch := omega) only [Hand.q1, g_T]; rfl
    · exact (hB.setCell (by dsimp only; omega) _).setCell (by dsimp only; omega) _
  · have W_ := True.intro
    have hl2 : ¬ L7.toList = [] := by intro e; rw [e] at hl; exact absurd hl (by decide)
    go_wp2
    obtain ⟨g_T, g_X, hB⟩ := HG.out
    refine bodyPost_ret (results_ct rfl _ _ (w.heap.size) 30 #[.int .i64 0, .int .i64 0] (0, 0) _ rfl ?_ Tryz.underlying30 rfl (by kernel_rfl)) rfl ⟨rfl, ?_⟩
    · simp (disch := omega) only [Hand.q1, g_T]; rfl
    · exact (hB.setCell (by dsimp only; omega) _).setCell (by dsimp only; omega) _
  · have W_ := True.intro
    have M12 := Lib.hid m12
    have M13 := Lib.hid m13
    clear m12 m13
    go_wp2_with fail
    with_reducible refine (M12.out _).mono ?_
    rintro e w12 ⟨rfl, hq⟩
    obtain ⟨g_T, g_X, hB⟩ := HG.out
    have h_T : w12.heap[w.heap.size]? = some (.cells #[.int .i64 0, .int .i64 0] 30 (0, 0)) := by
      refine Hand.kb hq ?_; first | with_reducible exact g_T | (simp (disch := first | omega | (simp only [Hand.sa, Hand.ss, Hand.sd, Hand.sn]; first | done | omega)) only [Hand.q2, Hand.q1, Hand.q5, Hand.q6, Hand.q4, Hand.q3, g_T] <;> rfl)
    have h_X : w12.heap[wb.heap.size]? = some (.cells #[.string ⟨#[]⟩, .bool false] 70 (0, 0)) := by
      refine Hand.kb hq ?_; simp (disch := first | omega | (simp only [Hand.sa, Hand.ss, Hand.sd, Hand.sn]; first | done | omega)) only [Hand.q2, Hand.q1, Hand.q5, Hand.q6, Hand.q4, Hand.q3, g_X] <;> rfl
    have hB' : Below w.heap.size w w12 := Hand.stepB hq (by repeat (with_reducible first | apply hB | apply Below.drew | apply pw_below_drewN | (apply Below.setCell; rotate_left; (dsimp only; omega)) | (apply Below.alloc; rotate_left; (first | omega | (simp only [Hand.sa, Hand.ss, Hand.sd, Hand.sn]; omega))))) (Nat.le_refl _)
    clear HG hB g_T g_X zw z_T z1_T z2_T y0_T y1_T c_T_0 f_T_0 c_T_1 f_T_1 z_X z1_X z2_X y0_X y1_X c_X_0 f_X_0 c_X_1 f_X_1
    clear hq
    have g_T := h_T
    have g_X := h_X
    have hB := hB'
    clear hB' h_T h_X
    obtain ⟨z_T, z1_T, z2_T, y0_T, y1_T⟩ := Hand.hz g_T
    obtain ⟨c_T_0, f_T_0, c_T_1, f_T_1⟩ := Hand.hc2 g_T
    obtain ⟨z_X, z1_X, z2_X, y0_X, y1_X⟩ := Hand.hz g_X
    obtain ⟨c_X_0, f_X_0, c_X_1, f_X_1⟩ := Hand.hc2 g_X
    have zw : w.heap.size ≤ w12.heap.size := hB.size
    have HG := Lib.hid (And.intro g_T (And.intro g_X (hB)))
    clear g_T g_X hB
    go_wp2_with fail
    with_reducible refine (M13.out _).mono ?_
    rintro e_ w13 ⟨rfl, hq⟩
    obtain ⟨g_T, g_X, hB⟩ := HG.out
    have h_T : w13.heap[w.heap.size]? = some (.cells #[.int .i64 0, .int .i64 0] 30 (0, 0)) := by
      refine Hand.kb hq ?_; first | with_reducible exact g_T | (simp (disch := first | omega | (simp only [Hand.sa, Hand.ss, Hand.sd, Hand.sn]; first | done | omega)) only [Hand.q2, Hand.q1, Hand.q5, Hand.q6, Hand.q4, Hand.q3, g_T] <;> rfl)
    have h_X : w13.heap[wb.heap.size]? = some (.cells #[.string ⟨#[]⟩, .bool false] 70 (0, 0)) := by
      refine Hand.kb hq ?_; simp (disch := first | omega | (simp only [Hand.sa, Hand.ss, Hand.sd, Hand.sn]; first | done | omega)) only [Hand.q2, Hand.q1, Hand.q5, Hand.q6, Hand.q4, Hand.q3, g_X] <;> rfl
    have h_Y : w13.heap[w12.heap.size]? = some (.cells #[.int .i64 x, .int .i64 y] 30 (0, 0)) := by
      refine Hand.kb hq ?_; simp (disch := first | omega | (simp only [Hand.sa, Hand.ss, Hand.sd, Hand.sn]; first | done | omega)) only [Hand.q2, Hand.q1, Hand.q5, Hand.q6, Hand.q4, Hand.q3] <;> rfl
    have hB' : Below w.heap.size w w13 := Hand.stepB hq (by repeat (with_reducible first | apply hB | apply Below.drew | apply pw_below_drewN | (apply Below.setCell; rotate_left; (dsimp only; omega)) | (apply Below.alloc; rotate_left; (first | omega | (simp only [Hand.sa, Hand.ss, Hand.sd, Hand.sn]; omega))))) (Nat.le_refl _)
    clear HG hB g_T g_X zw z_T z1_T z2_T y0_T y1_T c_T_0 f_T_0 c_T_1 f_T_1 z_X z1_X z2_X y0_X y1_X c_X_0 f_X_0 c_X_1 f_X_1
    clear hq
    have g_T := h_T
    have g_X := h_X
    have g_Y := h_Y
    have hB := hB'
    clear hB' h_T h_X h_Y
    obtain ⟨z_T, z1_T, z2_T, y0_T, y1_T⟩ := Hand.hz g_T
    obtain ⟨c_T_0, f_T_0, c_T_1, f_T_1⟩ := Hand.hc2 g_T
    obtain ⟨z_X, z1_X, z2_X, y0_X, y1_X⟩ := Hand.hz g_X
    obtain ⟨c_X_0, f_X_0, c_X_1, f_X_1⟩ := Hand.hc2 g_X
    obtain ⟨z_Y, z1_Y, z2_Y, y0_Y, y1_Y⟩ := Hand.hz g_Y
    obtain ⟨c_Y_0, f_Y_0, c_Y_1, f_Y_1⟩ := Hand.hc2 g_Y
    have zw : w.heap.size ≤ w13.heap.size := hB.size
    have HG := Lib.hid (And.intro g_T (And.intro g_X (And.intro g_Y (hB))))
    clear g_T g_X g_Y hB
    go_wp2
    obtain ⟨g_T, g_X, g_Y, hB⟩ := HG.out
    refine bodyPost_ret (results_ct rfl _ _ (w.heap.size) 30 #[.int .i64 x, .int .i64 y] (0, 0) _ rfl ?_ Tryz.underlying30 rfl (by kernel_rfl)) rfl ⟨rfl, ?_⟩
    · simp (disch := omega) only [Hand.q1, g_T]; rfl
    · exact (hB.setCell (by dsimp only; omega) _).setCell (by dsimp only; omega) _
  · have W_ := True.intro
    have M12 := Lib.hid m12
    have M13 := Lib.hid m13
    clear m12 m13
    have he2 : (q != 0) = true := by simpa using he
    go_wp2_with fail
    with_reducible refine (M12.out _).mono ?_
    rintro e w12 ⟨rfl, hq⟩
    obtain ⟨g_T, g_X, hB⟩ := HG.out
    have h_T : w12.heap[w.heap.size]? = some (.cells #[.int .i64 0, .int .i64 0] 30 (0, 0)) := by
      refine Hand.kb hq ?_; first | with_reducible exact g_T | (simp (disch := first | omega | (simp only [Hand.sa, Hand.ss, Hand.sd, Hand.sn]; first | done | omega)) only [Hand.q2, Hand.q1, Hand.q5, Hand.q6, Hand.q4, Hand.q3, g_T] <;> rfl)
    have h_X : w12.heap[wb.heap.size]? = some (.cells #[.string ⟨#[]⟩, .bool false] 70 (0, 0)) := by
      refine Hand.kb hq ?_; simp (disch := first | omega | (simp only [Hand.sa, Hand.ss, Hand.sd, Hand.sn]; first | done | omega)) only [Hand.q2, Hand.q1, Hand.q5, Hand.q6, Hand.q4, Hand.q3, g_X] <;> rfl
    have hB' : Below w.heap.size w w12 := Hand.stepB hq (by repeat (with_reducible first | apply hB | apply Below.drew | apply pw_below_drewN | (apply Below.setCell; rotate_left; (dsimp only; omega)) | (apply Below.alloc; rotate_left; (first | omega | (simp only [Hand.sa, Hand.ss, Hand.sd, Hand.sn]; omega))))) (Nat.le_refl _)
    clear HG hB g_T g_X zw z_T z1_T z2_T y0_T y1_T c_T_0 f_T_0 c_T_1 f_T_1 z_X z1_X z2_X y0_X y1_X c_X_0 f_X_0 c_X_1 f_X_1
    clear hq
    have g_T := h_T
    have g_X := h_X
    have hB := hB'
    clear hB' h_T h_X
    obtain ⟨z_T, z1_T, z2_T, y0_T, y1_T⟩ := Hand.hz g_T
    obtain ⟨c_T_0, f_T_0, c_T_1, f_T_1⟩ := Hand.hc2 g_T
    obtain ⟨z_X, z1_X, z2_X, y0_X, y1_X⟩ := Hand.hz g_X
    obtain ⟨c_X_0, f_X_0, c_X_1, f_X_1⟩ := Hand.hc2 g_X
    have zw : w.heap.size ≤ w12.heap.size := hB.size
    have HG := Lib.hid (And.intro g_T (And.intro g_X (hB)))
    clear g_T g_X hB
    go_wp2_with fail
    with_reducible refine (M13.out _).mono ?_
    rintro e_ w13 ⟨rfl, hq⟩
    obtain ⟨g_T, g_X, hB⟩ := HG.out
    have h_T : w13.heap[w.heap.size]? = some (.cells #[.int .i64 0, .int .i64 0] 30 (0, 0)) := by
      refine Hand.kb hq ?_; first | with_reducible exact g_T | (simp (disch := first | omega | (simp only [Hand.sa, Hand.ss, Hand.sd, Hand.sn]; first | done | omega)) only [Hand.q2, Hand.q1, Hand.q5, Hand.q6, Hand.q4, Hand.q3, g_T] <;> rfl)
    have h_X : w13.heap[wb.heap.size]? = some (.cells #[.string ⟨#[]⟩, .bool false] 70 (0, 0)) := by
      refine Hand.kb hq ?_; simp (disch := first | omega | (simp only [Hand.sa, Hand.ss, Hand.sd, Hand.sn]; first | done | omega)) only [Hand.q2, Hand.q1, Hand.q5, Hand.q6, Hand.q4, Hand.q3, g_X] <;> rfl
    have h_Y : w13.heap[w12.heap.size]? = some (.cells #[.int .i64 x, .int .i64 y] 30 (0, 0)) := by
      refine Hand.kb hq ?_; simp (disch := first | omega | (simp only [Hand.sa, Hand.ss, Hand.sd, Hand.sn]; first | done | omega)) only [Hand.q2, Hand.q1, Hand.q5, Hand.q6, Hand.q4, Hand.q3] <;> rfl
    have hB' : Below w.heap.size w w13 := Hand.stepB hq (by repeat (with_reducible first | apply hB | apply Below.drew | apply pw_below_drewN | (apply Below.setCell; rotate_left; (dsimp only; omega)) | (apply Below.alloc; rotate_left; (first | omega | (simp only [Hand.sa, Hand.ss, Hand.sd, Hand.sn]; omega))))) (Nat.le_refl _)
    clear HG hB g_T g_X zw z_T z1_T z2_T y0_T y1_T c_T_0 f_T_0 c_T_1 f_T_1 z_X z1_X z2_X y0_X y1_X c_X_0 f_X_0 c_X_1 f_X_1
    clear hq
    have g_T := h_T
    have g_X := h_X
    have g_Y := h_Y
    have hB := hB'
    clear hB' h_T h_X h_Y
    obtain ⟨z_T, z1_T, z2_T, y0_T, y1_T⟩ := Hand.hz g_T
    obtain ⟨c_T_0, f_T_0, c_T_1, f_T_1⟩ := Hand.hc2 g_T
    obtain ⟨z_X, z1_X, z2_X, y0_X, y1_X⟩ := Hand.hz g_X
    obtain ⟨c_X_0, f_X_0, c_X_1, f_X_1⟩ := Hand.hc2 g_X
    obtain ⟨z_Y, z1_Y, z2_Y, y0_Y, y1_Y⟩ := Hand.hz g_Y
    obtain ⟨c_Y_0, f_Y_0, c_Y_1, f_Y_1⟩ := Hand.hc2 g_Y
    have zw : w.heap.size ≤ w13.heap.size := hB.size
    have HG := Lib.hid (And.intro g_T (And.intro g_X (And.intro g_Y (hB))))
    clear g_T g_X g_Y hB
    go_wp2
    obtain ⟨g_T, g_X, g_Y, hB⟩ := HG.out
    refine bodyPost_ret (results_ct rfl _ _ (w.heap.size) 30 #[.int .i64 0, .int .i64 0] (0, 0) _ rfl ?_ Tryz.underlying30 rfl (by kernel_rfl)) rfl ⟨rfl, ?_⟩
    · simp (disch := omega) only [Hand.q1, g_T]; rfl
    · exact (hB.setCell (by dsimp only; omega) _).setCell (by dsimp only; omega) _
set_option maxHeartbeats 3000000 in
set_option maxRecDepth 100000 in
theorem pck_2s (rx ry re x y z q m s k c : Int) (b3 b4 b5 b6 b7 : Bool) (L L3 L4 L5 L6 L7 : ByteArray) (hc : c = 1) (hway : ((b7 = true) ∧ (0 = rx) ∧ (0 = ry) ∧ (13 = re)) ∨ ((b7 = false) ∧ (L7.toList.isEmpty = false) ∧ (0 = rx) ∧ (0 = ry) ∧ (13 = re)) ∨ ((b7 = false) ∧ (L7 = ⟨#[]⟩) ∧ (0 ≤ m) ∧ (m < 60) ∧ (0 ≤ s) ∧ (s < 60) ∧ (0 ≤ k) ∧ (k < 1000) ∧ (x = rx) ∧ (y = ry) ∧ (0 = re) ∧ (∀ w, Calls Tryz.prog 43 #[.int .i64 (((m * 60 + s) * 1000 + k)), .int .i64 1000] w fun e w' => e = .returned (.tuple #[.agg #[.int .i64 x, .int .i64 y], .int .i64 z]) ∧ Below w.heap.size w w') ∧ (∀ w, Calls Tryz.prog 35 #[.agg #[.int .i64 x, .int .i64 y]] w fun e w' => e = .returned (.int .i64 0) ∧ Below w.heap.size w w')) ∨ ((b7 = false) ∧ (L7 = ⟨#[]⟩) ∧ (0 ≤ m) ∧ (m < 60) ∧ (0 ≤ s) ∧ (s < 60) ∧ (0 ≤ k) ∧ (k < 1000) ∧ ((q == 0) = false) ∧ (0 = rx) ∧ (0 = ry) ∧ (q = re) ∧ (∀ w, Calls Tryz.prog 43 #[.int .i64 (((m * 60 + s) * 1000 + k)), .int .i64 1000] w fun e w' => e = .returned (.tuple #[.agg #[.int .i64 x, .int .i64 y], .int .i64 z]) ∧ Below w.heap.size w w') ∧ (∀ w, Calls Tryz.prog 35 #[.agg #[.int .i64 x, .int .i64 y]] w fun e w' => e = .returned (.int .i64 q) ∧ Below w.heap.size w w'))) (w : World)
    (m2 : ∀ w, Calls Tryz.prog 38 #[.string L, .string ⟨#[58]⟩] w fun e w' => e = .returned (.int .i64 1) ∧ Below w.heap.size w w')
    (m5 : ∀ w0 w g, w0.heap.size ≤ g → w.heap[g]? = some (scan L false) → Below w0.heap.size w0 w → Calls Tryz.prog 41 #[.pointer (some ⟨g, 0, none⟩), .int .i64 2, .int .i64 60] w fun e w' => e = .returned (.int .i64 m) ∧ SL w0 w' g L3 b3)
    (m6 : ∀ w0 w g, w0.heap.size ≤ g → w.heap[g]? = some (scan L3 b3) → Below w0.heap.size w0 w → Calls Tryz.prog 40 #[.pointer (some ⟨g, 0, none⟩), .string ⟨#[58]⟩] w fun e w' => e = .returned (.tuple #[]) ∧ SL w0 w' g L4 b4)
    (m7 : ∀ w0 w g, w0.heap.size ≤ g → w.heap[g]? = some (scan L4 b4) → Below w0.heap.size w0 w → Calls Tryz.prog 41 #[.pointer (some ⟨g, 0, none⟩), .int .i64 2, .int .i64 60] w fun e w' => e = .returned (.int .i64 s) ∧ SL w0 w' g L5 b5)
    (m9 : ∀ w0 w g, w0.heap.size ≤ g → w.heap[g]? = some (scan L5 b5) → Below w0.heap.size w0 w → Calls Tryz.prog 40 #[.pointer (some ⟨g, 0, none⟩), .string ⟨#[46]⟩] w fun e w' => e = .returned (.tuple #[]) ∧ SL w0 w' g L6 b6)
    (m11 : ∀ w0 w g, w0.heap.size ≤ g → w.heap[g]? = some (scan L6 b6) → Below w0.heap.size w0 w → Calls Tryz.prog 42 #[.pointer (some ⟨g, 0, none⟩), .int .i64 3] w fun e w' => e = .returned (.int .i64 k) ∧ SL w0 w' g L7 b7) :
    Calls Tryz.prog 13 #[.int .i64 2, .string L] w fun e w' => e = .returned (.tuple #[.agg #[.int .i64 rx, .int .i64 ry], .int .i64 re]) ∧ Below w.heap.size w w' := by
  subst hc
  have M2 := Lib.hid m2
  have M5 := Lib.hid m5
  have M6 := Lib.hid m6
  have M7 := Lib.hid m7
  have M9 := Lib.hid m9
  have M11 := Lib.hid m11
  have HWAY := Lib.hid hway
  clear m2 m5 m6 m7 m9 m11 hway
  go_enter Tryz.func13, Tryz.ntmps13
  go_wp2_with fail
  obtain ⟨wb, hwb⟩ : ∃ x, x = w.alloc (.cells #[.int .i64 0, .int .i64 0] 30) := ⟨_, rfl⟩
  rw [← hwb]
  have hsz : w.heap.size + 1 = wb.heap.size := by rw [hwb]; exact (Hand.sa _ _).symm
  rw [hsz]
  have GT0 := Lib.hid (show wb.heap[w.heap.size]? = some (.cells #[.int .i64 0, .int .i64 0] 30 (0, 0)) from by rw [hwb]; exact Hand.q3 _ _ _ rfl)
  have HB0 := Lib.hid (show Below w.heap.size w wb from by rw [hwb]; exact (Below.refl _ _).alloc (Nat.le_refl _) _)
  have zT := Lib.hid hsz
  clear hwb hsz
  have g_T := GT0.out
  have hB := HB0.out
  obtain ⟨z_T, z1_T, z2_T, y0_T, y1_T⟩ := Hand.hz g_T
  obtain ⟨c_T_0, f_T_0, c_T_1, f_T_1⟩ := Hand.hc2 g_T
  have zw : w.heap.size ≤ wb.heap.size := hB.size
  have HG := Lib.hid (And.intro g_T (hB))
  clear g_T hB
  obtain ⟨W, hW⟩ : ∃ W_, W_ = wb.alloc (scan L false) := ⟨_, rfl⟩
  rw [← hW]
  have hx_W : W.heap[wb.heap.size]? = some (scan L false) := by rw [hW]; exact Hand.q3 _ _ _ rfl
  have hb_W : Below wb.heap.size wb W := by rw [hW]; exact (Below.refl _ _).alloc (Nat.le_refl _) _
  clear hW
  clear HG zw z_T z1_T z2_T y0_T y1_T c_T_0 f_T_0 c_T_1 f_T_1
  have HX := Lib.hid hx_W
  have HBX := Lib.hid hb_W
  have g_T := Hand.kb hb_W GT0.out
  have g_X := hx_W
  have hB := Hand.stepB hb_W HB0.out (Nat.le_refl _)
  clear hx_W hb_W
  obtain ⟨z_T, z1_T, z2_T, y0_T, y1_T⟩ := Hand.hz g_T
  obtain ⟨c_T_0, f_T_0, c_T_1, f_T_1⟩ := Hand.hc2 g_T
  obtain ⟨z_X, z1_X, z2_X, y0_X, y1_X⟩ := Hand.hz g_X
  obtain ⟨c_X_0, f_X_0, c_X_1, f_X_1⟩ := Hand.hc2 g_X
  have zw : w.heap.size ≤ W.heap.size := hB.size
  have HG := Lib.hid (And.intro g_T (And.intro g_X (hB)))
  clear g_T g_X hB
  go_wp2_with fail
  with_reducible refine (M2.out _).mono ?_
  rintro e w2 ⟨rfl, hq⟩
  have hx_w2 := Hand.kb hq (bk HX.out)
  have hb_w2 := Hand.stepB hq (bw HBX.out) (Nat.le_refl _)
  clear hq
  clear HX HBX HG zw z_T z1_T z2_T y0_T y1_T c_T_0 f_T_0 c_T_1 f_T_1 z_X z1_X z2_X y0_X y1_X c_X_0 f_X_0 c_X_1 f_X_1
  have HX := Lib.hid hx_w2
  have HBX := Lib.hid hb_w2
  have g_T := Hand.kb hb_w2 GT0.out
  have g_X := hx_w2
  have hB := Hand.stepB hb_w2 HB0.out (Nat.le_refl _)
  clear hx_w2 hb_w2
  obtain ⟨z_T, z1_T, z2_T, y0_T, y1_T⟩ := Hand.hz g_T
  obtain ⟨c_T_0, f_T_0, c_T_1, f_T_1⟩ := Hand.hc2 g_T
  obtain ⟨z_X, z1_X, z2_X, y0_X, y1_X⟩ := Hand.hz g_X
  obtain ⟨c_X_0, f_X_0, c_X_1, f_X_1⟩ := Hand.hc2 g_X
  have zw : w.heap.size ≤ w2.heap.size := hB.size
  have HG := Lib.hid (And.intro g_T (And.intro g_X (hB)))
  clear g_T g_X hB
  go_wp2_with fail
  with_reducible refine (M5.out wb _ _ (Nat.le_refl _) (bk HX.out) (bw HBX.out)).mono ?_
  rintro e w5 ⟨rfl, hx_w5, hb_w5⟩
  clear HX HBX HG zw z_T z1_T z2_T y0_T y1_T c_T_0 f_T_0 c_T_1 f_T_1 z_X z1_X z2_X y0_X y1_X c_X_0 f_X_0 c_X_1 f_X_1
  have HX := Lib.hid hx_w5
  have HBX := Lib.hid hb_w5
  have g_T := Hand.kb hb_w5 GT0.out
  have g_X := hx_w5
  have hB := Hand.stepB hb_w5 HB0.out (Nat.le_refl _)
  clear hx_w5 hb_w5
  obtain ⟨z_T, z1_T, z2_T, y0_T, y1_T⟩ := Hand.hz g_T
  obtain ⟨c_T_0, f_T_0, c_T_1, f_T_1⟩ := Hand.hc2 g_T
  obtain ⟨z_X, z1_X, z2_X, y0_X, y1_X⟩ := Hand.hz g_X
  obtain ⟨c_X_0, f_X_0, c_X_1, f_X_1⟩ := Hand.hc2 g_X
  have zw : w.heap.size ≤ w5.heap.size := hB.size
  have HG := Lib.hid (And.intro g_T (And.intro g_X (hB)))
  clear g_T g_X hB
  go_wp2_with fail
  with_reducible refine (M6.out wb _ _ (Nat.le_refl _) (bk HX.out) (bw HBX.out)).mono ?_
  rintro e w6 ⟨rfl, hx_w6, hb_w6⟩
  clear HX HBX HG zw z_T z1_T z2_T y0_T y1_T c_T_0 f_T_0 c_T_1 f_T_1 z_X z1_X z2_X y0_X y1_X c_X_0 f_X_0 c_X_1 f_X_1
  have HX := Lib.hid hx_w6
  have HBX := Lib.hid hb_w6
  have g_T := Hand.kb hb_w6 GT0.out
  have g_X := hx_w6
  have hB := Hand.stepB hb_w6 HB0.out (Nat.le_refl _)
  clear hx_w6 hb_w6
  obtain ⟨z_T, z1_T, z2_T, y0_T, y1_T⟩ := Hand.hz g_T
  obtain ⟨c_T_0, f_T_0, c_T_1, f_T_1⟩ := Hand.hc2 g_T
  obtain ⟨z_X, z1_X, z2_X, y0_X, y1_X⟩ := Hand.hz g_X
  obtain ⟨c_X_0, f_X_0, c_X_1, f_X_1⟩ := Hand.hc2 g_X
  have zw : w.heap.size ≤ w6.heap.size := hB.size
  have HG := Lib.hid (And.intro g_T (And.intro g_X (hB)))
  clear g_T g_X hB
  go_wp2_with fail
  with_reducible refine (M7.out wb _ _ (Nat.le_refl _) (bk HX.out) (bw HBX.out)).mono ?_
  rintro e w7 ⟨rfl, hx_w7, hb_w7⟩
  clear HX HBX HG zw z_T z1_T z2_T y0_T y1_T c_T_0 f_T_0 c_T_1 f_T_1 z_X z1_X z2_X y0_X y1_X c_X_0 f_X_0 c_X_1 f_X_1
  have HX := Lib.hid hx_w7
  have HBX := Lib.hid hb_w7
  have g_T := Hand.kb hb_w7 GT0.out
  have g_X := hx_w7
  have hB := Hand.stepB hb_w7 HB0.out (Nat.le_refl _)
  clear hx_w7 hb_w7
  obtain ⟨z_T, z1_T, z2_T, y0_T, y1_T⟩ := Hand.hz g_T
  obtain ⟨c_T_0, f_T_0, c_T_1, f_T_1⟩ := Hand.hc2 g_T
  obtain ⟨z_X, z1_X, z2_X, y0_X, y1_X⟩ := Hand.hz g_X
  obtain ⟨c_X_0, f_X_0, c_X_1, f_X_1⟩ := Hand.hc2 g_X
  have zw : w.heap.size ≤ w7.heap.size := hB.size
  have HG := Lib.hid (And.intro g_T (And.intro g_X (hB)))
  clear g_T g_X hB
  go_wp2_with fail
  with_reducible refine (M9.out wb _ _ (Nat.le_refl _) (bk HX.out) (bw HBX.out)).mono ?_
  rintro e w9 ⟨rfl, hx_w9, hb_w9⟩
  clear HX HBX HG zw z_T z1_T z2_T y0_T y1_T c_T_0 f_T_0 c_T_1 f_T_1 z_X z1_X z2_X y0_X y1_X c_X_0 f_X_0 c_X_1 f_X_1
  have HX := Lib.hid hx_w9
  have HBX := Lib.hid hb_w9
  have g_T := Hand.kb hb_w9 GT0.out
  have g_X := hx_w9
  have hB := Hand.stepB hb_w9 HB0.out (Nat.le_refl _)
  clear hx_w9 hb_w9
  obtain ⟨z_T, z1_T, z2_T, y0_T, y1_T⟩ := Hand.hz g_T
  obtain ⟨c_T_0, f_T_0, c_T_1, f_T_1⟩ := Hand.hc2 g_T
  obtain ⟨z_X, z1_X, z2_X, y0_X, y1_X⟩ := Hand.hz g_X
  obtain ⟨c_X_0, f_X_0, c_X_1, f_X_1⟩ := Hand.hc2 g_X
  have zw : w.heap.size ≤ w9.heap.size := hB.size
  have HG := Lib.hid (And.intro g_T (And.intro g_X (hB)))
  clear g_T g_X hB
  go_wp2_with fail
  with_reducible refine (M11.out wb _ _ (Nat.le_refl _) (bk HX.out) (bw HBX.out)).mono ?_
  rintro e w11 ⟨rfl, hx_w11, hb_w11⟩
  clear HX HBX HG zw z_T z1_T z2_T y0_T y1_T c_T_0 f_T_0 c_T_1 f_T_1 z_X z1_X z2_X y0_X y1_X c_X_0 f_X_0 c_X_1 f_X_1
  have HX := Lib.hid hx_w11
  have HBX := Lib.hid hb_w11
  have g_T := Hand.kb hb_w11 GT0.out
  have g_X := hx_w11
  have hB := Hand.stepB hb_w11 HB0.out (Nat.le_refl _)
  clear hx_w11 hb_w11
  obtain ⟨z_T, z1_T, z2_T, y0_T, y1_T⟩ := Hand.hz g_T
  obtain ⟨c_T_0, f_T_0, c_T_1, f_T_1⟩ := Hand.hc2 g_T
  obtain ⟨z_X, z1_X, z2_X, y0_X, y1_X⟩ := Hand.hz g_X
  obtain ⟨c_X_0, f_X_0, c_X_1, f_X_1⟩ := Hand.hc2 g_X
  have zw : w.heap.size ≤ w11.heap.size := hB.size
  have HG := Lib.hid (And.intro g_T (And.intro g_X (hB)))
  clear g_T g_X hB
  rcases HWAY.out with ⟨rfl, rfl, rfl, rfl⟩ | ⟨rfl, hl, rfl, rfl, rfl⟩ | ⟨rfl, rfl, hm0, mb, s0, sb, k0, kf, rfl, rfl, rfl, m12, m13⟩ | ⟨rfl, rfl, hm0, mb, s0, sb, k0, kf, he, rfl, rfl, rfl, m12, m13⟩
  · have W_ := True.intro
    go_wp2
    obtain ⟨g_T, g_X, hB⟩ := HG.out
    refine bodyPost_ret (results_ct rfl _ _ (w.heap.size) 30 #[.int .i64 0, .int .i64 0] (0, 0) _ rfl ?_ Tryz.underlying30 rfl (by kernel_rfl)) rfl ⟨rfl, ?_⟩
    · simp (disch := omega) only [Hand.q1, g_T]; rfl
    · exact (hB.setCell (by dsimp only; omega) _).setCell (by dsimp only; omega) _
  · have W_ := True.intro
    have hl2 : ¬ L7.toList = [] := by intro e; rw [e] at hl; exact absurd hl (by decide)
    go_wp2
    obtain ⟨g_T, g_X, hB⟩ := HG.out
    refine bodyPost_ret (results_ct rfl _ _ (w.heap.size) 30 #[.int .i64 0, .int .i64 0] (0, 0) _ rfl ?_ Tryz.underlying30 rfl (by kernel_rfl)) rfl ⟨rfl, ?_⟩
    · simp (disch := omega) only [Hand.q1, g_T]; rfl
    · exact (hB.setCell (by dsimp only; omega) _).setCell (by dsimp only; omega) _
  · have W_ := True.intro
    have M12 := Lib.hid m12
    have M13 := Lib.hid m13
    clear m12 m13
    go_wp2_with fail
    with_reducible refine (M12.out _).mono ?_
    rintro e w12 ⟨rfl, hq⟩
    obtain ⟨g_T, g_X, hB⟩ := HG.out
    have h_T : w12.heap[w.heap.size]? = some (.cells #[.int .i64 0, .int .i64 0] 30 (0, 0)) := by
      refine Hand.kb hq ?_; first | with_reducible exact g_T | (simp (disch := first | omega | (simp only [Hand.sa, Hand.ss, Hand.sd, Hand.sn]; first | done | omega)) only [Hand.q2, Hand.q1, Hand.q5, Hand.q6, Hand.q4, Hand.q3, g_T] <;> rfl)
    have h_X : w12.heap[wb.heap.size]? = some (.cells #[.string ⟨#[]⟩, .bool false] 70 (0, 0)) := by
      refine Hand.kb hq ?_; simp (disch := first | omega | (simp only [Hand.sa, Hand.ss, Hand.sd, Hand.sn]; first | done | omega)) only [Hand.q2, Hand.q1, Hand.q5, Hand.q6, Hand.q4, Hand.q3, g_X] <;> rfl
    have hB' : Below w.heap.size w w12 := Hand.stepB hq (by repeat (with_reducible first | apply hB | apply Below.drew | apply pw_below_drewN | (apply Below.setCell; rotate_left; (dsimp only; omega)) | (apply Below.alloc; rotate_left; (first | omega | (simp only [Hand.sa, Hand.ss, Hand.sd, Hand.sn]; omega))))) (Nat.le_refl _)
    clear HG hB g_T g_X zw z_T z1_T z2_T y0_T y1_T c_T_0 f_T_0 c_T_1 f_T_1 z_X z1_X z2_X y0_X y1_X c_X_0 f_X_0 c_X_1 f_X_1
    clear hq
    have g_T := h_T
    have g_X := h_X
    have hB := hB'
    clear hB' h_T h_X
    obtain ⟨z_T, z1_T, z2_T, y0_T, y1_T⟩ := Hand.hz g_T
    obtain ⟨c_T_0, f_T_0, c_T_1, f_T_1⟩ := Hand.hc2 g_T
    obtain ⟨z_X, z1_X, z2_X, y0_X, y1_X⟩ := Hand.hz g_X
    obtain ⟨c_X_0, f_X_0, c_X_1, f_X_1⟩ := Hand.hc2 g_X
    have zw : w.heap.size ≤ w12.heap.size := hB.size
    have HG := Lib.hid (And.intro g_T (And.intro g_X (hB)))
    clear g_T g_X hB
    go_wp2_with fail
    with_reducible refine (M13.out _).mono ?_
    rintro e_ w13 ⟨rfl, hq⟩
    obtain ⟨g_T, g_X, hB⟩ := HG.out
    have h_T : w13.heap[w.heap.size]? = some (.cells #[.int .i64 0, .int .i64 0] 30 (0, 0)) := by
      refine Hand.kb hq ?_; first | with_reducible exact g_T | (simp (disch := first | omega | (simp only [Hand.sa, Hand.ss, Hand.sd, Hand.sn]; first | done | omega)) only [Hand.q2, Hand.q1, Hand.q5, Hand.q6, Hand.q4, Hand.q3, g_T] <;> rfl)
    have h_X : w13.heap[wb.heap.size]? = some (.cells #[.string ⟨#[]⟩, .bool false] 70 (0, 0)) := by
      refine Hand.kb hq ?_; simp (disch := first | omega | (simp only [Hand.sa, Hand.ss, Hand.sd, Hand.sn]; first | done | omega)) only [Hand.q2, Hand.q1, Hand.q5, Hand.q6, Hand.q4, Hand.q3, g_X] <;> rfl
    have h_Y : w13.heap[w12.heap.size]? = some (.cells #[.int .i64 x, .int .i64 y] 30 (0, 0)) := by
      refine Hand.kb hq ?_; simp (disch := first | omega | (simp only [Hand.sa, Hand.ss, Hand.sd, Hand.sn]; first | done | omega)) only [Hand.q2, Hand.q1, Hand.q5, Hand.q6, Hand.q4, Hand.q3] <;> rfl
    have hB' : Below w.heap.size w w13 := Hand.stepB hq (by repeat (with_reducible first | apply hB | apply Below.drew | apply pw_below_drewN | (apply Below.setCell; rotate_left; (dsimp only; omega)) | (apply Below.alloc; rotate_left; (first | omega | (simp only [Hand.sa, Hand.ss, Hand.sd, Hand.sn]; omega))))) (Nat.le_refl _)
    clear HG hB g_T g_X zw z_T z1_T z2_T y0_T y1_T c_T_0 f_T_0 c_T_1 f_T_1 z_X z1_X z2_X y0_X y1_X c_X_0 f_X_0 c_X_1 f_X_1
    clear hq
    have g_T := h_T
    have g_X := h_X
    have g_Y := h_Y
    have hB := hB'
    clear hB' h_T h_X h_Y
    obtain ⟨z_T, z1_T, z2_T, y0_T, y1_T⟩ := Hand.hz g_T
    obtain ⟨c_T_0, f_T_0, c_T_1, f_T_1⟩ := Hand.hc2 g_T
    obtain ⟨z_X, z1_X, z2_X, y0_X, y1_X⟩ := Hand.hz g_X
    obtain ⟨c_X_0, f_X_0, c_X_1, f_X_1⟩ := Hand.hc2 g_X
    obtain ⟨z_Y, z1_Y, z2_Y, y0_Y, y1_Y⟩ := Hand.hz g_Y
    obtain ⟨c_Y_0, f_Y_0, c_Y_1, f_Y_1⟩ := Hand.hc2 g_Y
    have zw : w.heap.size ≤ w13.heap.size := hB.size
    have HG := Lib.hid (And.intro g_T (And.intro g_X (And.intro g_Y (hB))))
    clear g_T g_X g_Y hB
    go_wp2
    obtain ⟨g_T, g_X, g_Y, hB⟩ := HG.out
    refine bodyPost_ret (results_ct rfl _ _ (w.heap.size) 30 #[.int .i64 x, .int .i64 y] (0, 0) _ rfl ?_ Tryz.underlying30 rfl (by kernel_rfl)) rfl ⟨rfl, ?_⟩
    · simp (disch := omega) only [Hand.q1, g_T]; rfl
    · exact (hB.setCell (by dsimp only; omega) _).setCell (by dsimp only; omega) _
  · have W_ := True.intro
    have M12 := Lib.hid m12
    have M13 := Lib.hid m13
    clear m12 m13
    have he2 : (q != 0) = true := by simpa using he
    go_wp2_with fail
    with_reducible refine (M12.out _).mono ?_
    rintro e w12 ⟨rfl, hq⟩
    obtain ⟨g_T, g_X, hB⟩ := HG.out
    have h_T : w12.heap[w.heap.size]? = some (.cells #[.int .i64 0, .int .i64 0] 30 (0, 0)) := by
      refine Hand.kb hq ?_; first | with_reducible exact g_T | (simp (disch := first | omega | (simp only [Hand.sa, Hand.ss, Hand.sd, Hand.sn]; first | done | omega)) only [Hand.q2, Hand.q1, Hand.q5, Hand.q6, Hand.q4, Hand.q3, g_T] <;> rfl)
    have h_X : w12.heap[wb.heap.size]? = some (.cells #[.string ⟨#[]⟩, .bool false] 70 (0, 0)) := by
      refine Hand.kb hq ?_; simp (disch := first | omega | (simp only [Hand.sa, Hand.ss, Hand.sd, Hand.sn]; first | done | omega)) only [Hand.q2, Hand.q1, Hand.q5, Hand.q6, Hand.q4, Hand.q3, g_X] <;> rfl
    have hB' : Below w.heap.size w w12 := Hand.stepB hq (by repeat (with_reducible first | apply hB | apply Below.drew | apply pw_below_drewN | (apply Below.setCell; rotate_left; (dsimp only; omega)) | (apply Below.alloc; rotate_left; (first | omega | (simp only [Hand.sa, Hand.ss, Hand.sd, Hand.sn]; omega))))) (Nat.le_refl _)
    clear HG hB g_T g_X zw z_T z1_T z2_T y0_T y1_T c_T_0 f_T_0 c_T_1 f_T_1 z_X z1_X z2_X y0_X y1_X c_X_0 f_X_0 c_X_1 f_X_1
    clear hq
    have g_T := h_T
    have g_X := h_X
    have hB := hB'
    clear hB' h_T h_X
    obtain ⟨z_T, z1_T, z2_T, y0_T, y1_T⟩ := Hand.hz g_T
    obtain ⟨c_T_0, f_T_0, c_T_1, f_T_1⟩ := Hand.hc2 g_T
    obtain ⟨z_X, z1_X, z2_X, y0_X, y1_X⟩ := Hand.hz g_X
    obtain ⟨c_X_0, f_X_0, c_X_1, f_X_1⟩ := Hand.hc2 g_X
    have zw : w.heap.size ≤ w12.heap.size := hB.size
    have HG := Lib.hid (And.intro g_T (And.intro g_X (hB)))
    clear g_T g_X hB
    go_wp2_with fail
    with_reducible refine (M13.out _).mono ?_
    rintro e_ w13 ⟨rfl, hq⟩
    obtain ⟨g_T, g_X, hB⟩ := HG.out
    have h_T : w13.heap[w.heap.size]? = some (.cells #[.int .i64 0, .int .i64 0] 30 (0, 0)) := by
      refine Hand.kb hq ?_; first | with_reducible exact g_T | (simp (disch := first | omega | (simp only [Hand.sa, Hand.ss, Hand.sd, Hand.sn]; first | done | omega)) only [Hand.q2, Hand.q1, Hand.q5, Hand.q6, Hand.q4, Hand.q3, g_T] <;> rfl)
    have h_X : w13.heap[wb.heap.size]? = some (.cells #[.string ⟨#[]⟩, .bool false] 70 (0, 0)) := by
      refine Hand.kb hq ?_; simp (disch := first | omega | (simp only [Hand.sa, Hand.ss, Hand.sd, Hand.sn]; first | done | omega)) only [Hand.q2, Hand.q1, Hand.q5, Hand.q6, Hand.q4, Hand.q3, g_X] <;> rfl
    have h_Y : w13.heap[w12.heap.size]? = some (.cells #[.int .i64 x, .int .i64 y] 30 (0, 0)) := by
      refine Hand.kb hq ?_; simp (disch := first | omega | (simp only [Hand.sa, Hand.ss, Hand.sd, Hand.sn]; first | done | omega)) only [Hand.q2, Hand.q1, Hand.q5, Hand.q6, Hand.q4, Hand.q3] <;> rfl
    have hB' : Below w.heap.size w w13 := Hand.stepB hq (by repeat (with_reducible first | apply hB | apply Below.drew | apply pw_below_drewN | (apply Below.setCell; rotate_left; (dsimp only; omega)) | (apply Below.alloc; rotate_left; (first | omega | (simp only [Hand.sa, Hand.ss, Hand.sd, Hand.sn]; omega))))) (Nat.le_refl _)
    clear HG hB g_T g_X zw z_T z1_T z2_T y0_T y1_T c_T_0 f_T_0 c_T_1 f_T_1 z_X z1_X z2_X y0_X y1_X c_X_0 f_X_0 c_X_1 f_X_1
    clear hq
    have g_T := h_T
    have g_X := h_X
    have g_Y := h_Y
    have hB := hB'
    clear hB' h_T h_X h_Y
    obtain ⟨z_T, z1_T, z2_T, y0_T, y1_T⟩ := Hand.hz g_T
    obtain ⟨c_T_0, f_T_0, c_T_1, f_T_1⟩ := Hand.hc2 g_T
    obtain ⟨z_X, z1_X, z2_X, y0_X, y1_X⟩ := Hand.hz g_X
    obtain ⟨c_X_0, f_X_0, c_X_1, f_X_1⟩ := Hand.hc2 g_X
    obtain ⟨z_Y, z1_Y, z2_Y, y0_Y, y1_Y⟩ := Hand.hz g_Y
    obtain ⟨c_Y_0, f_Y_0, c_Y_1, f_Y_1⟩ := Hand.hc2 g_Y
    have zw : w.heap.size ≤ w13.heap.size := hB.size
    have HG := Lib.hid (And.intro g_T (And.intro g_X (And.intro g_Y (hB))))
    clear g_T g_X g_Y hB
    go_wp2
    obtain ⟨g_T, g_X, g_Y, hB⟩ := HG.out
    refine bodyPost_ret (results_ct rfl _ _ (w.heap.size) 30 #[.int .i64 0, .int .i64 0] (0, 0) _ rfl ?_ Tryz.underlying30 rfl (by kernel_rfl)) rfl ⟨rfl, ?_⟩
    · simp (disch := omega) only [Hand.q1, g_T]; rfl
    · exact (hB.setCell (by dsimp only; omega) _).setCell (by dsimp only; omega) _
set_option maxHeartbeats 800000 in
set_option maxRecDepth 100000 in
theorem pck_kind (f : Int) (L : ByteArray) (h1 : (f == 1) = false) (h2 : (f == 2) = false) (h4 : (f == 4) = false) (w : World) :
    Calls Tryz.prog 13 #[.int .i64 f, .string L] w fun e w' => e = .returned (.tuple #[.agg #[.int .i64 0, .int .i64 0], .int .i64 5]) ∧ Below w.heap.size w w' := by
  have q1 : ¬ f = 1 := by simpa using h1
  have q2 : ¬ f = 2 := by simpa using h2
  have q4 : ¬ f = 4 := by simpa using h4
  go_enter Tryz.func13, Tryz.ntmps13
  go_wp2
  refine bodyPost_ret (results_ct rfl _ _ (w.heap.size) 30 #[.int .i64 0, .int .i64 0] (0, 0) _ rfl ?_ Tryz.underlying30 rfl (by kernel_rfl)) rfl ⟨rfl, ?_⟩
  · rw [Hand.q4 _ _ _ (by simp), Hand.q3 _ _ _ rfl]
  · exact ((Below.refl _ _).alloc (Nat.le_refl _) _).alloc (by simp) _
end Go.Proofs.YtghiibdhibcbaaaGreatDoor.PA
