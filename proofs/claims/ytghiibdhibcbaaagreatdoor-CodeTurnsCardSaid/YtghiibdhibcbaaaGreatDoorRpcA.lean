/- The reference: ParseClock. -/
import Derived.Test.YtghiibdhibcbaaaGreatDoorMH
import Derived.Test.YtghiibdhibcbaaaGreatDoorMJ
namespace Go.Proofs.YtghiibdhibcbaaaGreatDoor.PA
open Go Go.RowKit Go.Proofs.YtghiibdhibcbaaaGreatDoorW.PrintWords Go.Proofs.YtghiibdhibcbaaaGreatDoorW.PrintLast Go.Proofs.YtghiibdhibcbaaaGreatDoorW.PrintMore Go.Proofs.YtghiibdhibcbaaaGreatDoor.CS
set_option linter.unusedSimpArgs false
set_option linter.unusedVariables false
set_option maxHeartbeats 3000000 in
set_option maxRecDepth 100000 in
theorem rpc_1 (rx ry re x y h m s k a1 a2 a3 a4 a5 a6 a7 : Int) (b1 b2 b3 b4 b5 b6 b7 : Bool) (L : ByteArray) (hway : ((b7 = true) ∧ (0 = rx) ∧ (0 = ry) ∧ (13 = re)) ∨ ((b7 = false) ∧ ((a7 == (L.size : Int)) = false) ∧ (0 = rx) ∧ (0 = ry) ∧ (13 = re)) ∨ ((b7 = false) ∧ (a7 = (L.size : Int)) ∧ (0 ≤ h) ∧ (h ≤ 999) ∧ (0 ≤ m) ∧ (m < 60) ∧ (0 ≤ s) ∧ (s < 60) ∧ (0 ≤ k) ∧ (k < 1000) ∧ (360000000 < ((3600 * h + 60 * m + s) * 1000 + k)) ∧ (0 = rx) ∧ (0 = ry) ∧ (31 = re)) ∨ ((b7 = false) ∧ (a7 = (L.size : Int)) ∧ (0 ≤ h) ∧ (h ≤ 999) ∧ (0 ≤ m) ∧ (m < 60) ∧ (0 ≤ s) ∧ (s < 60) ∧ (0 ≤ k) ∧ (k < 1000) ∧ (((3600 * h + 60 * m + s) * 1000 + k) ≤ 360000000) ∧ (x = rx) ∧ (y = ry) ∧ (0 = re) ∧ (∀ w, Calls Tryz.prog 83 #[.int .i64 ((3600 * h + 60 * m + s) * 1000 + k), .int .i64 1000] w fun e w' => e = .returned (.agg #[.int .i64 x, .int .i64 y]) ∧ Below w.heap.size w w'))) (w : World)
    (m1 : ∀ w, Calls Tryz.prog 27 #[.int .i64 1] w fun e w' => e = .returned (.int .i64 1000) ∧ Below w.heap.size w w')
    (m3 : ∀ w0 w g, w0.heap.size ≤ g → w.heap[g]? = some (rdr L 0 false) → Below w0.heap.size w0 w → Calls Tryz.prog 79 #[.pointer (some ⟨g, 0, none⟩), .int .i64 2] w fun e w' => e = .returned (.int .i64 h) ∧ RL w0 w' g L a1 b1)
    (m4 : ∀ w0 w g, w0.heap.size ≤ g → w.heap[g]? = some (rdr L a1 b1) → Below w0.heap.size w0 w → Calls Tryz.prog 80 #[.pointer (some ⟨g, 0, none⟩), .int .u8 58] w fun e w' => e = .returned (.tuple #[]) ∧ RL w0 w' g L a2 b2)
    (m5 : ∀ w0 w g, w0.heap.size ≤ g → w.heap[g]? = some (rdr L a2 b2) → Below w0.heap.size w0 w → Calls Tryz.prog 81 #[.pointer (some ⟨g, 0, none⟩)] w fun e w' => e = .returned (.int .i64 m) ∧ RL w0 w' g L a3 b3)
    (m6 : ∀ w0 w g, w0.heap.size ≤ g → w.heap[g]? = some (rdr L a3 b3) → Below w0.heap.size w0 w → Calls Tryz.prog 80 #[.pointer (some ⟨g, 0, none⟩), .int .u8 58] w fun e w' => e = .returned (.tuple #[]) ∧ RL w0 w' g L a4 b4)
    (m7 : ∀ w0 w g, w0.heap.size ≤ g → w.heap[g]? = some (rdr L a4 b4) → Below w0.heap.size w0 w → Calls Tryz.prog 81 #[.pointer (some ⟨g, 0, none⟩)] w fun e w' => e = .returned (.int .i64 s) ∧ RL w0 w' g L a5 b5)
    (m8 : ∀ w0 w g, w0.heap.size ≤ g → w.heap[g]? = some (rdr L a5 b5) → Below w0.heap.size w0 w → Calls Tryz.prog 80 #[.pointer (some ⟨g, 0, none⟩), .int .u8 44] w fun e w' => e = .returned (.tuple #[]) ∧ RL w0 w' g L a6 b6)
    (m10 : ∀ w0 w g, w0.heap.size ≤ g → w.heap[g]? = some (rdr L a6 b6) → Below w0.heap.size w0 w → Calls Tryz.prog 82 #[.pointer (some ⟨g, 0, none⟩), .int .i64 3] w fun e w' => e = .returned (.int .i64 k) ∧ RL w0 w' g L a7 b7) :
    Calls Tryz.prog 58 #[.int .i64 1, .string L] w fun e w' => e = .returned (.tuple #[.agg #[.int .i64 rx, .int .i64 ry], .int .i64 re]) ∧ Below w.heap.size w w' := by
  have M1 := Lib.hid m1
  have M3 := Lib.hid m3
  have M4 := Lib.hid m4
  have M5 := Lib.hid m5
  have M6 := Lib.hid m6
  have M7 := Lib.hid m7
  have M8 := Lib.hid m8
  have M10 := Lib.hid m10
  have HWAY := Lib.hid hway
  clear m1 m3 m4 m5 m6 m7 m8 m10 hway
  go_enter Tryz.func58, Tryz.ntmps58
  go_wp2_with fail
  with_reducible refine (M1.out _).mono ?_
  rintro e w1 ⟨rfl, hb1⟩
  have h_T : w1.heap[w.heap.size]? = some (.cells #[.int .i64 0, .int .i64 0] 30 (0, 0)) := by
    refine Hand.kb hb1 ?_; simp (disch := first | omega | (simp only [Hand.sa, Hand.ss, Hand.sd, Hand.sn]; first | done | omega)) only [Hand.q2, Hand.q1, Hand.q5, Hand.q6, Hand.q4, Hand.q3] <;> rfl
  have hB' : Below w.heap.size w w1 := Hand.stepB hb1 (by repeat (with_reducible first | apply Below.refl _ _ | apply Below.drew | apply pw_below_drewN | (apply Below.setCell; rotate_left; (dsimp only; omega)) | (apply Below.alloc; rotate_left; (first | omega | (simp only [Hand.sa, Hand.ss, Hand.sd, Hand.sn]; omega))))) (Nat.le_refl _)
  clear hb1
  have g_T := h_T
  have hB := hB'
  clear hB' h_T
  obtain ⟨z_T, z1_T, z2_T, y0_T, y1_T⟩ := Hand.hz g_T
  obtain ⟨c_T_0, f_T_0, c_T_1, f_T_1⟩ := Hand.hc2 g_T
  have zw : w.heap.size ≤ w1.heap.size := hB.size
  have HG := Lib.hid (And.intro g_T (hB))
  clear g_T hB
  have GT0 := Lib.hid (show w1.heap[w.heap.size]? = some (.cells #[.int .i64 0, .int .i64 0] 30 (0, 0)) from HG.out.1)
  have HB0 := Lib.hid (show Below w.heap.size w w1 from HG.out.2)
  go_wp2_with fail
  obtain ⟨W, hW⟩ : ∃ W_, W_ = w1.alloc (rdr L 0 false) := ⟨_, rfl⟩
  rw [← hW]
  have hx_W : W.heap[w1.heap.size]? = some (rdr L 0 false) := by rw [hW]; exact Hand.q3 _ _ _ rfl
  have hb_W : Below w1.heap.size w1 W := by rw [hW]; exact (Below.refl _ _).alloc (Nat.le_refl _) _
  clear hW
  clear HG zw z_T z1_T z2_T y0_T y1_T c_T_0 f_T_0 c_T_1 f_T_1
  have HX := Lib.hid hx_W
  have HBX := Lib.hid hb_W
  have g_T := Hand.kb hb_W GT0.out
  have g_X := hx_W
  have hB := Hand.stepB hb_W HB0.out (Nat.le_refl _)
  clear hx_W hb_W
  obtain ⟨z_T, z1_T, z2_T, y0_T, y1_T⟩ := Hand.hz g_T
  obtain ⟨c_T_0, f_T_0, c_T_1, f_T_1⟩ := Hand.hc2 g_T
  obtain ⟨z_X, z1_X, z2_X, y0_X, y1_X⟩ := Hand.hz g_X
  obtain ⟨c_X_0, f_X_0, c_X_1, f_X_1, c_X_2, f_X_2⟩ := Hand.hc3 g_X
  have zw : w.heap.size ≤ W.heap.size := hB.size
  have HG := Lib.hid (And.intro g_T (And.intro g_X (hB)))
  clear g_T g_X hB
  go_wp2_with fail
  with_reducible refine (M3.out w1 _ _ (Nat.le_refl _) (bk HX.out) (bw HBX.out)).mono ?_
  rintro e w3 ⟨rfl, hx_w3, hb_w3⟩
  clear HX HBX HG zw z_T z1_T z2_T y0_T y1_T c_T_0 f_T_0 c_T_1 f_T_1 z_X z1_X z2_X y0_X y1_X c_X_0 f_X_0 c_X_1 f_X_1 c_X_2 f_X_2
  have HX := Lib.hid hx_w3
  have HBX := Lib.hid hb_w3
  have g_T := Hand.kb hb_w3 GT0.out
  have g_X := hx_w3
  have hB := Hand.stepB hb_w3 HB0.out (Nat.le_refl _)
  clear hx_w3 hb_w3
  obtain ⟨z_T, z1_T, z2_T, y0_T, y1_T⟩ := Hand.hz g_T
  obtain ⟨c_T_0, f_T_0, c_T_1, f_T_1⟩ := Hand.hc2 g_T
  obtain ⟨z_X, z1_X, z2_X, y0_X, y1_X⟩ := Hand.hz g_X
  obtain ⟨c_X_0, f_X_0, c_X_1, f_X_1, c_X_2, f_X_2⟩ := Hand.hc3 g_X
  have zw : w.heap.size ≤ w3.heap.size := hB.size
  have HG := Lib.hid (And.intro g_T (And.intro g_X (hB)))
  clear g_T g_X hB
  go_wp2_with fail
  with_reducible refine (M4.out w1 _ _ (Nat.le_refl _) (bk HX.out) (bw HBX.out)).mono ?_
  rintro e w4 ⟨rfl, hx_w4, hb_w4⟩
  clear HX HBX HG zw z_T z1_T z2_T y0_T y1_T c_T_0 f_T_0 c_T_1 f_T_1 z_X z1_X z2_X y0_X y1_X c_X_0 f_X_0 c_X_1 f_X_1 c_X_2 f_X_2
  have HX := Lib.hid hx_w4
  have HBX := Lib.hid hb_w4
  have g_T := Hand.kb hb_w4 GT0.out
  have g_X := hx_w4
  have hB := Hand.stepB hb_w4 HB0.out (Nat.le_refl _)
  clear hx_w4 hb_w4
  obtain ⟨z_T, z1_T, z2_T, y0_T, y1_T⟩ := Hand.hz g_T
  obtain ⟨c_T_0, f_T_0, c_T_1, f_T_1⟩ := Hand.hc2 g_T
  obtain ⟨z_X, z1_X, z2_X, y0_X, y1_X⟩ := Hand.hz g_X
  obtain ⟨c_X_0, f_X_0, c_X_1, f_X_1, c_X_2, f_X_2⟩ := Hand.hc3 g_X
  have zw : w.heap.size ≤ w4.heap.size := hB.size
  have HG := Lib.hid (And.intro g_T (And.intro g_X (hB)))
  clear g_T g_X hB
  go_wp2_with fail
  with_reducible refine (M5.out w1 _ _ (Nat.le_refl _) (bk HX.out) (bw HBX.out)).mono ?_
  rintro e w5 ⟨rfl, hx_w5, hb_w5⟩
  clear HX HBX HG zw z_T z1_T z2_T y0_T y1_T c_T_0 f_T_0 c_T_1 f_T_1 z_X z1_X z2_X y0_X y1_X c_X_0 f_X_0 c_X_1 f_X_1 c_X_2 f_X_2
  have HX := Lib.hid hx_w5
  have HBX := Lib.hid hb_w5
  have g_T := Hand.kb hb_w5 GT0.out
  have g_X := hx_w5
  have hB := Hand.stepB hb_w5 HB0.out (Nat.le_refl _)
  clear hx_w5 hb_w5
  obtain ⟨z_T, z1_T, z2_T, y0_T, y1_T⟩ := Hand.hz g_T
  obtain ⟨c_T_0, f_T_0, c_T_1, f_T_1⟩ := Hand.hc2 g_T
  obtain ⟨z_X, z1_X, z2_X, y0_X, y1_X⟩ := Hand.hz g_X
  obtain ⟨c_X_0, f_X_0, c_X_1, f_X_1, c_X_2, f_X_2⟩ := Hand.hc3 g_X
  have zw : w.heap.size ≤ w5.heap.size := hB.size
  have HG := Lib.hid (And.intro g_T (And.intro g_X (hB)))
  clear g_T g_X hB
  go_wp2_with fail
  with_reducible refine (M6.out w1 _ _ (Nat.le_refl _) (bk HX.out) (bw HBX.out)).mono ?_
  rintro e w6 ⟨rfl, hx_w6, hb_w6⟩
  clear HX HBX HG zw z_T z1_T z2_T y0_T y1_T c_T_0 f_T_0 c_T_1 f_T_1 z_X z1_X z2_X y0_X y1_X c_X_0 f_X_0 c_X_1 f_X_1 c_X_2 f_X_2
  have HX := Lib.hid hx_w6
  have HBX := Lib.hid hb_w6
  have g_T := Hand.kb hb_w6 GT0.out
  have g_X := hx_w6
  have hB := Hand.stepB hb_w6 HB0.out (Nat.le_refl _)
  clear hx_w6 hb_w6
  obtain ⟨z_T, z1_T, z2_T, y0_T, y1_T⟩ := Hand.hz g_T
  obtain ⟨c_T_0, f_T_0, c_T_1, f_T_1⟩ := Hand.hc2 g_T
  obtain ⟨z_X, z1_X, z2_X, y0_X, y1_X⟩ := Hand.hz g_X
  obtain ⟨c_X_0, f_X_0, c_X_1, f_X_1, c_X_2, f_X_2⟩ := Hand.hc3 g_X
  have zw : w.heap.size ≤ w6.heap.size := hB.size
  have HG := Lib.hid (And.intro g_T (And.intro g_X (hB)))
  clear g_T g_X hB
  go_wp2_with fail
  with_reducible refine (M7.out w1 _ _ (Nat.le_refl _) (bk HX.out) (bw HBX.out)).mono ?_
  rintro e w7 ⟨rfl, hx_w7, hb_w7⟩
  clear HX HBX HG zw z_T z1_T z2_T y0_T y1_T c_T_0 f_T_0 c_T_1 f_T_1 z_X z1_X z2_X y0_X y1_X c_X_0 f_X_0 c_X_1 f_X_1 c_X_2 f_X_2
  have HX := Lib.hid hx_w7
  have HBX := Lib.hid hb_w7
  have g_T := Hand.kb hb_w7 GT0.out
  have g_X := hx_w7
  have hB := Hand.stepB hb_w7 HB0.out (Nat.le_refl _)
  clear hx_w7 hb_w7
  obtain ⟨z_T, z1_T, z2_T, y0_T, y1_T⟩ := Hand.hz g_T
  obtain ⟨c_T_0, f_T_0, c_T_1, f_T_1⟩ := Hand.hc2 g_T
  obtain ⟨z_X, z1_X, z2_X, y0_X, y1_X⟩ := Hand.hz g_X
  obtain ⟨c_X_0, f_X_0, c_X_1, f_X_1, c_X_2, f_X_2⟩ := Hand.hc3 g_X
  have zw : w.heap.size ≤ w7.heap.size := hB.size
  have HG := Lib.hid (And.intro g_T (And.intro g_X (hB)))
  clear g_T g_X hB
  go_wp2_with fail
  with_reducible refine (M8.out w1 _ _ (Nat.le_refl _) (bk HX.out) (bw HBX.out)).mono ?_
  rintro e w8 ⟨rfl, hx_w8, hb_w8⟩
  clear HX HBX HG zw z_T z1_T z2_T y0_T y1_T c_T_0 f_T_0 c_T_1 f_T_1 z_X z1_X z2_X y0_X y1_X c_X_0 f_X_0 c_X_1 f_X_1 c_X_2 f_X_2
  have HX := Lib.hid hx_w8
  have HBX := Lib.hid hb_w8
  have g_T := Hand.kb hb_w8 GT0.out
  have g_X := hx_w8
  have hB := Hand.stepB hb_w8 HB0.out (Nat.le_refl _)
  clear hx_w8 hb_w8
  obtain ⟨z_T, z1_T, z2_T, y0_T, y1_T⟩ := Hand.hz g_T
  obtain ⟨c_T_0, f_T_0, c_T_1, f_T_1⟩ := Hand.hc2 g_T
  obtain ⟨z_X, z1_X, z2_X, y0_X, y1_X⟩ := Hand.hz g_X
  obtain ⟨c_X_0, f_X_0, c_X_1, f_X_1, c_X_2, f_X_2⟩ := Hand.hc3 g_X
  have zw : w.heap.size ≤ w8.heap.size := hB.size
  have HG := Lib.hid (And.intro g_T (And.intro g_X (hB)))
  clear g_T g_X hB
  go_wp2_with fail
  with_reducible refine (M10.out w1 _ _ (Nat.le_refl _) (bk HX.out) (bw HBX.out)).mono ?_
  rintro e w10 ⟨rfl, hx_w10, hb_w10⟩
  clear HX HBX HG zw z_T z1_T z2_T y0_T y1_T c_T_0 f_T_0 c_T_1 f_T_1 z_X z1_X z2_X y0_X y1_X c_X_0 f_X_0 c_X_1 f_X_1 c_X_2 f_X_2
  have HX := Lib.hid hx_w10
  have HBX := Lib.hid hb_w10
  have g_T := Hand.kb hb_w10 GT0.out
  have g_X := hx_w10
  have hB := Hand.stepB hb_w10 HB0.out (Nat.le_refl _)
  clear hx_w10 hb_w10
  obtain ⟨z_T, z1_T, z2_T, y0_T, y1_T⟩ := Hand.hz g_T
  obtain ⟨c_T_0, f_T_0, c_T_1, f_T_1⟩ := Hand.hc2 g_T
  obtain ⟨z_X, z1_X, z2_X, y0_X, y1_X⟩ := Hand.hz g_X
  obtain ⟨c_X_0, f_X_0, c_X_1, f_X_1, c_X_2, f_X_2⟩ := Hand.hc3 g_X
  have zw : w.heap.size ≤ w10.heap.size := hB.size
  have HG := Lib.hid (And.intro g_T (And.intro g_X (hB)))
  clear g_T g_X hB
  rcases HWAY.out with ⟨rfl, rfl, rfl, rfl⟩ | ⟨rfl, hl, rfl, rfl, rfl⟩ | ⟨rfl, rfl, h0, h1, hm0, mb, s0, sb, k0, kf, q, rfl, rfl, rfl⟩ | ⟨rfl, rfl, h0, h1, hm0, mb, s0, sb, k0, kf, q, rfl, rfl, rfl, m12⟩
  · have W_ := True.intro
    go_wp2
    obtain ⟨g_T, g_X, hB⟩ := HG.out
    refine bodyPost_ret (results_ct rfl _ _ (w.heap.size) 30 #[.int .i64 0, .int .i64 0] (0, 0) _ rfl ?_ Tryz.underlying30 rfl (by kernel_rfl)) rfl ⟨rfl, ?_⟩
    · simp (disch := omega) only [Hand.q1, g_T]; rfl
    · exact (hB.setCell (by dsimp only; omega) _).setCell (by dsimp only; omega) _
  · have W_ := True.intro
    have hl2 : ¬ a7 = (L.size : Int) := by simpa using hl
    have hl3 : (a7 != (L.size : Int)) = true := by simpa using hl
    go_wp2
    obtain ⟨g_T, g_X, hB⟩ := HG.out
    refine bodyPost_ret (results_ct rfl _ _ (w.heap.size) 30 #[.int .i64 0, .int .i64 0] (0, 0) _ rfl ?_ Tryz.underlying30 rfl (by kernel_rfl)) rfl ⟨rfl, ?_⟩
    · simp (disch := omega) only [Hand.q1, g_T]; rfl
    · exact (hB.setCell (by dsimp only; omega) _).setCell (by dsimp only; omega) _
  · have W_ := True.intro
    go_wp2
    obtain ⟨g_T, g_X, hB⟩ := HG.out
    refine bodyPost_ret (results_ct rfl _ _ (w.heap.size) 30 #[.int .i64 0, .int .i64 0] (0, 0) _ rfl ?_ Tryz.underlying30 rfl (by kernel_rfl)) rfl ⟨rfl, ?_⟩
    · simp (disch := omega) only [Hand.q1, g_T]; rfl
    · exact (hB.setCell (by dsimp only; omega) _).setCell (by dsimp only; omega) _
  · have W_ := True.intro
    have M12 := Lib.hid m12
    clear m12
    go_wp2_with fail
    with_reducible refine (M12.out _).mono ?_
    rintro e w12 ⟨rfl, hq⟩
    obtain ⟨g_T, g_X, hB⟩ := HG.out
    have h_T : w12.heap[w.heap.size]? = some (.cells #[.int .i64 0, .int .i64 0] 30 (0, 0)) := by
      refine Hand.kb hq ?_; first | with_reducible exact g_T | (simp (disch := first | omega | (simp only [Hand.sa, Hand.ss, Hand.sd, Hand.sn]; first | done | omega)) only [Hand.q2, Hand.q1, Hand.q5, Hand.q6, Hand.q4, Hand.q3, g_T] <;> rfl)
    have h_X : w12.heap[w1.heap.size]? = some (.cells #[.string L, .int .i64 (L.size : Int), .bool false] 111 (0, 0)) := by
      refine Hand.kb hq ?_; simp (disch := first | omega | (simp only [Hand.sa, Hand.ss, Hand.sd, Hand.sn]; first | done | omega)) only [Hand.q2, Hand.q1, Hand.q5, Hand.q6, Hand.q4, Hand.q3, g_X] <;> rfl
    have hB' : Below w.heap.size w w12 := Hand.stepB hq (by repeat (with_reducible first | apply hB | apply Below.drew | apply pw_below_drewN | (apply Below.setCell; rotate_left; (dsimp only; omega)) | (apply Below.alloc; rotate_left; (first | omega | (simp only [Hand.sa, Hand.ss, Hand.sd, Hand.sn]; omega))))) (Nat.le_refl _)
    clear HG hB g_T g_X zw z_T z1_T z2_T y0_T y1_T c_T_0 f_T_0 c_T_1 f_T_1 z_X z1_X z2_X y0_X y1_X c_X_0 f_X_0 c_X_1 f_X_1 c_X_2 f_X_2
    clear hq
    have g_T := h_T
    have g_X := h_X
    have hB := hB'
    clear hB' h_T h_X
    obtain ⟨z_T, z1_T, z2_T, y0_T, y1_T⟩ := Hand.hz g_T
    obtain ⟨c_T_0, f_T_0, c_T_1, f_T_1⟩ := Hand.hc2 g_T
    obtain ⟨z_X, z1_X, z2_X, y0_X, y1_X⟩ := Hand.hz g_X
    obtain ⟨c_X_0, f_X_0, c_X_1, f_X_1, c_X_2, f_X_2⟩ := Hand.hc3 g_X
    have zw : w.heap.size ≤ w12.heap.size := hB.size
    have HG := Lib.hid (And.intro g_T (And.intro g_X (hB)))
    clear g_T g_X hB
    go_wp2
    obtain ⟨g_T, g_X, hB⟩ := HG.out
    refine bodyPost_ret (results_ct rfl _ _ (w.heap.size) 30 #[.int .i64 x, .int .i64 y] (0, 0) _ rfl ?_ Tryz.underlying30 rfl (by kernel_rfl)) rfl ⟨rfl, ?_⟩
    · simp (disch := omega) only [Hand.q1, g_T]; rfl
    · exact (hB.setCell (by dsimp only; omega) _).setCell (by dsimp only; omega) _
set_option maxHeartbeats 3000000 in
set_option maxRecDepth 100000 in
theorem rpc_4 (rx ry re x y h m s k a1 a2 a3 a4 a5 a6 a7 : Int) (b1 b2 b3 b4 b5 b6 b7 : Bool) (L : ByteArray) (hway : ((b7 = true) ∧ (0 = rx) ∧ (0 = ry) ∧ (13 = re)) ∨ ((b7 = false) ∧ ((a7 == (L.size : Int)) = false) ∧ (0 = rx) ∧ (0 = ry) ∧ (13 = re)) ∨ ((b7 = false) ∧ (a7 = (L.size : Int)) ∧ (0 ≤ h) ∧ (h ≤ 999) ∧ (0 ≤ m) ∧ (m < 60) ∧ (0 ≤ s) ∧ (s < 60) ∧ (0 ≤ k) ∧ (k < 100) ∧ (36000000 < ((3600 * h + 60 * m + s) * 100 + k)) ∧ (0 = rx) ∧ (0 = ry) ∧ (31 = re)) ∨ ((b7 = false) ∧ (a7 = (L.size : Int)) ∧ (0 ≤ h) ∧ (h ≤ 999) ∧ (0 ≤ m) ∧ (m < 60) ∧ (0 ≤ s) ∧ (s < 60) ∧ (0 ≤ k) ∧ (k < 100) ∧ (((3600 * h + 60 * m + s) * 100 + k) ≤ 36000000) ∧ (x = rx) ∧ (y = ry) ∧ (0 = re) ∧ (∀ w, Calls Tryz.prog 83 #[.int .i64 ((3600 * h + 60 * m + s) * 100 + k), .int .i64 100] w fun e w' => e = .returned (.agg #[.int .i64 x, .int .i64 y]) ∧ Below w.heap.size w w'))) (w : World)
    (m1 : ∀ w, Calls Tryz.prog 27 #[.int .i64 4] w fun e w' => e = .returned (.int .i64 100) ∧ Below w.heap.size w w')
    (m3 : ∀ w0 w g, w0.heap.size ≤ g → w.heap[g]? = some (rdr L 0 false) → Below w0.heap.size w0 w → Calls Tryz.prog 79 #[.pointer (some ⟨g, 0, none⟩), .int .i64 1] w fun e w' => e = .returned (.int .i64 h) ∧ RL w0 w' g L a1 b1)
    (m4 : ∀ w0 w g, w0.heap.size ≤ g → w.heap[g]? = some (rdr L a1 b1) → Below w0.heap.size w0 w → Calls Tryz.prog 80 #[.pointer (some ⟨g, 0, none⟩), .int .u8 58] w fun e w' => e = .returned (.tuple #[]) ∧ RL w0 w' g L a2 b2)
    (m5 : ∀ w0 w g, w0.heap.size ≤ g → w.heap[g]? = some (rdr L a2 b2) → Below w0.heap.size w0 w → Calls Tryz.prog 81 #[.pointer (some ⟨g, 0, none⟩)] w fun e w' => e = .returned (.int .i64 m) ∧ RL w0 w' g L a3 b3)
    (m6 : ∀ w0 w g, w0.heap.size ≤ g → w.heap[g]? = some (rdr L a3 b3) → Below w0.heap.size w0 w → Calls Tryz.prog 80 #[.pointer (some ⟨g, 0, none⟩), .int .u8 58] w fun e w' => e = .returned (.tuple #[]) ∧ RL w0 w' g L a4 b4)
    (m7 : ∀ w0 w g, w0.heap.size ≤ g → w.heap[g]? = some (rdr L a4 b4) → Below w0.heap.size w0 w → Calls Tryz.prog 81 #[.pointer (some ⟨g, 0, none⟩)] w fun e w' => e = .returned (.int .i64 s) ∧ RL w0 w' g L a5 b5)
    (m8 : ∀ w0 w g, w0.heap.size ≤ g → w.heap[g]? = some (rdr L a5 b5) → Below w0.heap.size w0 w → Calls Tryz.prog 80 #[.pointer (some ⟨g, 0, none⟩), .int .u8 46] w fun e w' => e = .returned (.tuple #[]) ∧ RL w0 w' g L a6 b6)
    (m10 : ∀ w0 w g, w0.heap.size ≤ g → w.heap[g]? = some (rdr L a6 b6) → Below w0.heap.size w0 w → Calls Tryz.prog 82 #[.pointer (some ⟨g, 0, none⟩), .int .i64 2] w fun e w' => e = .returned (.int .i64 k) ∧ RL w0 w' g L a7 b7) :
    Calls Tryz.prog 58 #[.int .i64 4, .string L] w fun e w' => e = .returned (.tuple #[.agg #[.int .i64 rx, .int .i64 ry], .int .i64 re]) ∧ Below w.heap.size w w' := by
  have M1 := Lib.hid m1
  have M3 := Lib.hid m3
  have M4 := Lib.hid m4
  have M5 := Lib.hid m5
  have M6 := Lib.hid m6
  have M7 := Lib.hid m7
  have M8 := Lib.hid m8
  have M10 := Lib.hid m10
  have HWAY := Lib.hid hway
  clear m1 m3 m4 m5 m6 m7 m8 m10 hway
  go_enter Tryz.func58, Tryz.ntmps58
  go_wp2_with fail
  with_reducible refine (M1.out _).mono ?_
  rintro e w1 ⟨rfl, hb1⟩
  have h_T : w1.heap[w.heap.size]? = some (.cells #[.int .i64 0, .int .i64 0] 30 (0, 0)) := by
    refine Hand.kb hb1 ?_; simp (disch := first | omega | (simp only [Hand.sa, Hand.ss, Hand.sd, Hand.sn]; first | done | omega)) only [Hand.q2, Hand.q1, Hand.q5, Hand.q6, Hand.q4, Hand.q3] <;> rfl
  have hB' : Below w.heap.size w w1 := Hand.stepB hb1 (by repeat (with_reducible first | apply Below.refl _ _ | apply Below.drew | apply pw_below_drewN | (apply Below.setCell; rotate_left; (dsimp only; omega)) | (apply Below.alloc; rotate_left; (first | omega | (simp only [Hand.sa, Hand.ss, Hand.sd, Hand.sn]; omega))))) (Nat.le_refl _)
  clear hb1
  have g_T := h_T
  have hB := hB'
  clear hB' h_T
  obtain ⟨z_T, z1_T, z2_T, y0_T, y1_T⟩ := Hand.hz g_T
  obtain ⟨c_T_0, f_T_0, c_T_1, f_T_1⟩ := Hand.hc2 g_T
  have zw : w.heap.size ≤ w1.heap.size := hB.size
  have HG := Lib.hid (And.intro g_T (hB))
  clear g_T hB
  have GT0 := Lib.hid (show w1.heap[w.heap.size]? = some (.cells #[.int .i64 0, .int .i64 0] 30 (0, 0)) from HG.out.1)
  have HB0 := Lib.hid (show Below w.heap.size w w1 from HG.out.2)
  go_wp2_with fail
  obtain ⟨W, hW⟩ : ∃ W_, W_ = w1.alloc (rdr L 0 false) := ⟨_, rfl⟩
  rw [← hW]
  have hx_W : W.heap[w1.heap.size]? = some (rdr L 0 false) := by rw [hW]; exact Hand.q3 _ _ _ rfl
  have hb_W : Below w1.heap.size w1 W := by rw [hW]; exact (Below.refl _ _).alloc (Nat.le_refl _) _
  clear hW
  clear HG zw z_T z1_T z2_T y0_T y1_T c_T_0 f_T_0 c_T_1 f_T_1
  have HX := Lib.hid hx_W
  have HBX := Lib.hid hb_W
  have g_T := Hand.kb hb_W GT0.out
  have g_X := hx_W
  have hB := Hand.stepB hb_W HB0.out (Nat.le_refl _)
  clear hx_W hb_W
  obtain ⟨z_T, z1_T, z2_T, y0_T, y1_T⟩ := Hand.hz g_T
  obtain ⟨c_T_0, f_T_0, c_T_1, f_T_1⟩ := Hand.hc2 g_T
  obtain ⟨z_X, z1_X, z2_X, y0_X, y1_X⟩ := Hand.hz g_X
  obtain ⟨c_X_0, f_X_0, c_X_1, f_X_1, c_X_2, f_X_2⟩ := Hand.hc3 g_X
  have zw : w.heap.size ≤ W.heap.size := hB.size
  have HG := Lib.hid (And.intro g_T (And.intro g_X (hB)))
  clear g_T g_X hB
  go_wp2_with fail
  with_reducible refine (M3.out w1 _ _ (Nat.le_refl _) (bk HX.out) (bw HBX.out)).mono ?_
  rintro e w3 ⟨rfl, hx_w3, hb_w3⟩
  clear HX HBX HG zw z_T z1_T z2_T y0_T y1_T c_T_0 f_T_0 c_T_1 f_T_1 z_X z1_X z2_X y0_X y1_X c_X_0 f_X_0 c_X_1 f_X_1 c_X_2 f_X_2
  have HX := Lib.hid hx_w3
  have HBX := Lib.hid hb_w3
  have g_T := Hand.kb hb_w3 GT0.out
  have g_X := hx_w3
  have hB := Hand.stepB hb_w3 HB0.out (Nat.le_refl _)
  clear hx_w3 hb_w3
  obtain ⟨z_T, z1_T, z2_T, y0_T, y1_T⟩ := Hand.hz g_T
  obtain ⟨c_T_0, f_T_0, c_T_1, f_T_1⟩ := Hand.hc2 g_T
  obtain ⟨z_X, z1_X, z2_X, y0_X, y1_X⟩ := Hand.hz g_X
  obtain ⟨c_X_0, f_X_0, c_X_1, f_X_1, c_X_2, f_X_2⟩ := Hand.hc3 g_X
  have zw : w.heap.size ≤ w3.heap.size := hB.size
  have HG := Lib.hid (And.intro g_T (And.intro g_X (hB)))
  clear g_T g_X hB
  go_wp2_with fail
  with_reducible refine (M4.out w1 _ _ (Nat.le_refl _) (bk HX.out) (bw HBX.out)).mono ?_
  rintro e w4 ⟨rfl, hx_w4, hb_w4⟩
  clear HX HBX HG zw z_T z1_T z2_T y0_T y1_T c_T_0 f_T_0 c_T_1 f_T_1 z_X z1_X z2_X y0_X y1_X c_X_0 f_X_0 c_X_1 f_X_1 c_X_2 f_X_2
  have HX := Lib.hid hx_w4
  have HBX := Lib.hid hb_w4
  have g_T := Hand.kb hb_w4 GT0.out
  have g_X := hx_w4
  have hB := Hand.stepB hb_w4 HB0.out (Nat.le_refl _)
  clear hx_w4 hb_w4
  obtain ⟨z_T, z1_T, z2_T, y0_T, y1_T⟩ := Hand.hz g_T
  obtain ⟨c_T_0, f_T_0, c_T_1, f_T_1⟩ := Hand.hc2 g_T
  obtain ⟨z_X, z1_X, z2_X, y0_X, y1_X⟩ := Hand.hz g_X
  obtain ⟨c_X_0, f_X_0, c_X_1, f_X_1, c_X_2, f_X_2⟩ := Hand.hc3 g_X
  have zw : w.heap.size ≤ w4.heap.size := hB.size
  have HG := Lib.hid (And.intro g_T (And.intro g_X (hB)))
  clear g_T g_X hB
  go_wp2_with fail
  with_reducible refine (M5.out w1 _ _ (Nat.le_refl _) (bk HX.out) (bw HBX.out)).mono ?_
  rintro e w5 ⟨rfl, hx_w5, hb_w5⟩
  clear HX HBX HG zw z_T z1_T z2_T y0_T y1_T c_T_0 f_T_0 c_T_1 f_T_1 z_X z1_X z2_X y0_X y1_X c_X_0 f_X_0 c_X_1 f_X_1 c_X_2 f_X_2
  have HX := Lib.hid hx_w5
  have HBX := Lib.hid hb_w5
  have g_T := Hand.kb hb_w5 GT0.out
  have g_X := hx_w5
  have hB := Hand.stepB hb_w5 HB0.out (Nat.le_refl _)
  clear hx_w5 hb_w5
  obtain ⟨z_T, z1_T, z2_T, y0_T, y1_T⟩ := Hand.hz g_T
  obtain ⟨c_T_0, f_T_0, c_T_1, f_T_1⟩ := Hand.hc2 g_T
  obtain ⟨z_X, z1_X, z2_X, y0_X, y1_X⟩ := Hand.hz g_X
  obtain ⟨c_X_0, f_X_0, c_X_1, f_X_1, c_X_2, f_X_2⟩ := Hand.hc3 g_X
  have zw : w.heap.size ≤ w5.heap.size := hB.size
  have HG := Lib.hid (And.intro g_T (And.intro g_X (hB)))
  clear g_T g_X hB
  go_wp2_with fail
  with_reducible refine (M6.out w1 _ _ (Nat.le_refl _) (bk HX.out) (bw HBX.out)).mono ?_
  rintro e w6 ⟨rfl, hx_w6, hb_w6⟩
  clear HX HBX HG zw z_T z1_T z2_T y0_T y1_T c_T_0 f_T_0 c_T_1 f_T_1 z_X z1_X z2_X y0_X y1_X c_X_0 f_X_0 c_X_1 f_X_1 c_X_2 f_X_2
  have HX := Lib.hid hx_w6
  have HBX := Lib.hid hb_w6
  have g_T := Hand.kb hb_w6 GT0.out
  have g_X := hx_w6
  have hB := Hand.stepB hb_w6 HB0.out (Nat.le_refl _)
  clear hx_w6 hb_w6
  obtain ⟨z_T, z1_T, z2_T, y0_T, y1_T⟩ := Hand.hz g_T
  obtain ⟨c_T_0, f_T_0, c_T_1, f_T_1⟩ := Hand.hc2 g_T
  obtain ⟨z_X, z1_X, z2_X, y0_X, y1_X⟩ := Hand.hz g_X
  obtain ⟨c_X_0, f_X_0, c_X_1, f_X_1, c_X_2, f_X_2⟩ := Hand.hc3 g_X
  have zw : w.heap.size ≤ w6.heap.size := hB.size
  have HG := Lib.hid (And.intro g_T (And.intro g_X (hB)))
  clear g_T g_X hB
  go_wp2_with fail
  with_reducible refine (M7.out w1 _ _ (Nat.le_refl _) (bk HX.out) (bw HBX.out)).mono ?_
  rintro e w7 ⟨rfl, hx_w7, hb_w7⟩
  clear HX HBX HG zw z_T z1_T z2_T y0_T y1_T c_T_0 f_T_0 c_T_1 f_T_1 z_X z1_X z2_X y0_X y1_X c_X_0 f_X_0 c_X_1 f_X_1 c_X_2 f_X_2
  have HX := Lib.hid hx_w7
  have HBX := Lib.hid hb_w7
  have g_T := Hand.kb hb_w7 GT0.out
  have g_X := hx_w7
  have hB := Hand.stepB hb_w7 HB0.out (Nat.le_refl _)
  clear hx_w7 hb_w7
  obtain ⟨z_T, z1_T, z2_T, y0_T, y1_T⟩ := Hand.hz g_T
  obtain ⟨c_T_0, f_T_0, c_T_1, f_T_1⟩ := Hand.hc2 g_T
  obtain ⟨z_X, z1_X, z2_X, y0_X, y1_X⟩ := Hand.hz g_X
  obtain ⟨c_X_0, f_X_0, c_X_1, f_X_1, c_X_2, f_X_2⟩ := Hand.hc3 g_X
  have zw : w.heap.size ≤ w7.heap.size := hB.size
  have HG := Lib.hid (And.intro g_T (And.intro g_X (hB)))
  clear g_T g_X hB
  go_wp2_with fail
  with_reducible refine (M8.out w1 _ _ (Nat.le_refl _) (bk HX.out) (bw HBX.out)).mono ?_
  rintro e w8 ⟨rfl, hx_w8, hb_w8⟩
  clear HX HBX HG zw z_T z1_T z2_T y0_T y1_T c_T_0 f_T_0 c_T_1 f_T_1 z_X z1_X z2_X y0_X y1_X c_X_0 f_X_0 c_X_1 f_X_1 c_X_2 f_X_2
  have HX := Lib.hid hx_w8
  have HBX := Lib.hid hb_w8
  have g_T := Hand.kb hb_w8 GT0.out
  have g_X := hx_w8
  have hB := Hand.stepB hb_w8 HB0.out (Nat.le_refl _)
  clear hx_w8 hb_w8
  obtain ⟨z_T, z1_T, z2_T, y0_T, y1_T⟩ := Hand.hz g_T
  obtain ⟨c_T_0, f_T_0, c_T_1, f_T_1⟩ := Hand.hc2 g_T
  obtain ⟨z_X, z1_X, z2_X, y0_X, y1_X⟩ := Hand.hz g_X
  obtain ⟨c_X_0, f_X_0, c_X_1, f_X_1, c_X_2, f_X_2⟩ := Hand.hc3 g_X
  have zw : w.heap.size ≤ w8.heap.size := hB.size
  have HG := Lib.hid (And.intro g_T (And.intro g_X (hB)))
  clear g_T g_X hB
  go_wp2_with fail
  with_reducible refine (M10.out w1 _ _ (Nat.le_refl _) (bk HX.out) (bw HBX.out)).mono ?_
  rintro e w10 ⟨rfl, hx_w10, hb_w10⟩
  clear HX HBX HG zw z_T z1_T z2_T y0_T y1_T c_T_0 f_T_0 c_T_1 f_T_1 z_X z1_X z2_X y0_X y1_X c_X_0 f_X_0 c_X_1 f_X_1 c_X_2 f_X_2
  have HX := Lib.hid hx_w10
  have HBX := Lib.hid hb_w10
  have g_T := Hand.kb hb_w10 GT0.out
  have g_X := hx_w10
  have hB := Hand.stepB hb_w10 HB0.out (Nat.le_refl _)
  clear hx_w10 hb_w10
  obtain ⟨z_T, z1_T, z2_T, y0_T, y1_T⟩ := Hand.hz g_T
  obtain ⟨c_T_0, f_T_0, c_T_1, f_T_1⟩ := Hand.hc2 g_T
  obtain ⟨z_X, z1_X, z2_X, y0_X, y1_X⟩ := Hand.hz g_X
  obtain ⟨c_X_0, f_X_0, c_X_1, f_X_1, c_X_2, f_X_2⟩ := Hand.hc3 g_X
  have zw : w.heap.size ≤ w10.heap.size := hB.size
  have HG := Lib.hid (And.intro g_T (And.intro g_X (hB)))
  clear g_T g_X hB
  rcases HWAY.out with ⟨rfl, rfl, rfl, rfl⟩ | ⟨rfl, hl, rfl, rfl, rfl⟩ | ⟨rfl, rfl, h0, h1, hm0, mb, s0, sb, k0, kf, q, rfl, rfl, rfl⟩ | ⟨rfl, rfl, h0, h1, hm0, mb, s0, sb, k0, kf, q, rfl, rfl, rfl, m12⟩
  · have W_ := True.intro
    go_wp2
    obtain ⟨g_T, g_X, hB⟩ := HG.out
    refine bodyPost_ret (results_ct rfl _ _ (w.heap.size) 30 #[.int .i64 0, .int .i64 0] (0, 0) _ rfl ?_ Tryz.underlying30 rfl (by kernel_rfl)) rfl ⟨rfl, ?_⟩
    · simp (disch := omega) only [Hand.q1, g_T]; rfl
    · exact (hB.setCell (by dsimp only; omega) _).setCell (by dsimp only; omega) _
  · have W_ := True.intro
    have hl2 : ¬ a7 = (L.size : Int) := by simpa using hl
    have hl3 : (a7 != (L.size : Int)) = true := by simpa using hl
    go_wp2
    obtain ⟨g_T, g_X, hB⟩ := HG.out
    refine bodyPost_ret (results_ct rfl _ _ (w.heap.size) 30 #[.int .i64 0, .int .i64 0] (0, 0) _ rfl ?_ Tryz.underlying30 rfl (by kernel_rfl)) rfl ⟨rfl, ?_⟩
    · simp (disch := omega) only [Hand.q1, g_T]; rfl
    · exact (hB.setCell (by dsimp only; omega) _).setCell (by dsimp only; omega) _
  · have W_ := True.intro
    go_wp2
    obtain ⟨g_T, g_X, hB⟩ := HG.out
    refine bodyPost_ret (results_ct rfl _ _ (w.heap.size) 30 #[.int .i64 0, .int .i64 0] (0, 0) _ rfl ?_ Tryz.underlying30 rfl (by kernel_rfl)) rfl ⟨rfl, ?_⟩
    · simp (disch := omega) only [Hand.q1, g_T]; rfl
    · exact (hB.setCell (by dsimp only; omega) _).setCell (by dsimp only; omega) _
  · have W_ := True.intro
    have M12 := Lib.hid m12
    clear m12
    go_wp2_with fail
    with_reducible refine (M12.out _).mono ?_
    rintro e w12 ⟨rfl, hq⟩
    obtain ⟨g_T, g_X, hB⟩ := HG.out
    have h_T : w12.heap[w.heap.size]? = some (.cells #[.int .i64 0, .int .i64 0] 30 (0, 0)) := by
      refine Hand.kb hq ?_; first | with_reducible exact g_T | (simp (disch := first | omega | (simp only [Hand.sa, Hand.ss, Hand.sd, Hand.sn]; first | done | omega)) only [Hand.q2, Hand.q1, Hand.q5, Hand.q6, Hand.q4, Hand.q3, g_T] <;> rfl)
    have h_X : w12.heap[w1.heap.size]? = some (.cells #[.string L, .int .i64 (L.size : Int), .bool false] 111 (0, 0)) := by
      refine Hand.kb hq ?_; simp (disch := first | omega | (simp only [Hand.sa, Hand.ss, Hand.sd, Hand.sn]; first | done | omega)) only [Hand.q2, Hand.q1, Hand.q5, Hand.q6, Hand.q4, Hand.q3, g_X] <;> rfl
    have hB' : Below w.heap.size w w12 := Hand.stepB hq (by repeat (with_reducible first | apply hB | apply Below.drew | apply pw_below_drewN | (apply Below.setCell; rotate_left; (dsimp only; omega)) | (apply Below.alloc; rotate_left; (first | omega | (simp only [Hand.sa, Hand.ss, Hand.sd, Hand.sn]; omega))))) (Nat.le_refl _)
    clear HG hB g_T g_X zw z_T z1_T z2_T y0_T y1_T c_T_0 f_T_0 c_T_1 f_T_1 z_X z1_X z2_X y0_X y1_X c_X_0 f_X_0 c_X_1 f_X_1 c_X_2 f_X_2
    clear hq
    have g_T := h_T
    have g_X := h_X
    have hB := hB'
    clear hB' h_T h_X
    obtain ⟨z_T, z1_T, z2_T, y0_T, y1_T⟩ := Hand.hz g_T
    obtain ⟨c_T_0, f_T_0, c_T_1, f_T_1⟩ := Hand.hc2 g_T
    obtain ⟨z_X, z1_X, z2_X, y0_X, y1_X⟩ := Hand.hz g_X
    obtain ⟨c_X_0, f_X_0, c_X_1, f_X_1, c_X_2, f_X_2⟩ := Hand.hc3 g_X
    have zw : w.heap.size ≤ w12.heap.size := hB.size
    have HG := Lib.hid (And.intro g_T (And.intro g_X (hB)))
    clear g_T g_X hB
    go_wp2
    obtain ⟨g_T, g_X, hB⟩ := HG.out
    refine bodyPost_ret (results_ct rfl _ _ (w.heap.size) 30 #[.int .i64 x, .int .i64 y] (0, 0) _ rfl ?_ Tryz.underlying30 rfl (by kernel_rfl)) rfl ⟨rfl, ?_⟩
    · simp (disch := omega) only [Hand.q1, g_T]; rfl
    · exact (hB.setCell (by dsimp only; omega) _).setCell (by dsimp only; omega) _
set_option maxHeartbeats 3000000 in
set_option maxRecDepth 100000 in
theorem rpc_2 (rx ry re x y h m s k a1 a2 a3 a4 a5 a6 a7 : Int) (b1 b2 b3 b4 b5 b6 b7 : Bool) (L : ByteArray) (hz : (L.size == 9) = false) (hway : ((b7 = true) ∧ (0 = rx) ∧ (0 = ry) ∧ (13 = re)) ∨ ((b7 = false) ∧ ((a7 == (L.size : Int)) = false) ∧ (0 = rx) ∧ (0 = ry) ∧ (13 = re)) ∨ ((b7 = false) ∧ (a7 = (L.size : Int)) ∧ (0 ≤ h) ∧ (h ≤ 999) ∧ (0 ≤ m) ∧ (m < 60) ∧ (0 ≤ s) ∧ (s < 60) ∧ (0 ≤ k) ∧ (k < 1000) ∧ (360000000 < ((3600 * h + 60 * m + s) * 1000 + k)) ∧ (0 = rx) ∧ (0 = ry) ∧ (31 = re)) ∨ ((b7 = false) ∧ (a7 = (L.size : Int)) ∧ (0 ≤ h) ∧ (h ≤ 999) ∧ (0 ≤ m) ∧ (m < 60) ∧ (0 ≤ s) ∧ (s < 60) ∧ (0 ≤ k) ∧ (k < 1000) ∧ (((3600 * h + 60 * m + s) * 1000 + k) ≤ 360000000) ∧ (x = rx) ∧ (y = ry) ∧ (0 = re) ∧ (∀ w, Calls Tryz.prog 83 #[.int .i64 ((3600 * h + 60 * m + s) * 1000 + k), .int .i64 1000] w fun e w' => e = .returned (.agg #[.int .i64 x, .int .i64 y]) ∧ Below w.heap.size w w'))) (w : World)
    (m1 : ∀ w, Calls Tryz.prog 27 #[.int .i64 2] w fun e w' => e = .returned (.int .i64 1000) ∧ Below w.heap.size w w')
    (m3 : ∀ w0 w g, w0.heap.size ≤ g → w.heap[g]? = some (rdr L 0 false) → Below w0.heap.size w0 w → Calls Tryz.prog 79 #[.pointer (some ⟨g, 0, none⟩), .int .i64 2] w fun e w' => e = .returned (.int .i64 h) ∧ RL w0 w' g L a1 b1)
    (m4 : ∀ w0 w g, w0.heap.size ≤ g → w.heap[g]? = some (rdr L a1 b1) → Below w0.heap.size w0 w → Calls Tryz.prog 80 #[.pointer (some ⟨g, 0, none⟩), .int .u8 58] w fun e w' => e = .returned (.tuple #[]) ∧ RL w0 w' g L a2 b2)
    (m5 : ∀ w0 w g, w0.heap.size ≤ g → w.heap[g]? = some (rdr L a2 b2) → Below w0.heap.size w0 w → Calls Tryz.prog 81 #[.pointer (some ⟨g, 0, none⟩)] w fun e w' => e = .returned (.int .i64 m) ∧ RL w0 w' g L a3 b3)
    (m6 : ∀ w0 w g, w0.heap.size ≤ g → w.heap[g]? = some (rdr L a3 b3) → Below w0.heap.size w0 w → Calls Tryz.prog 80 #[.pointer (some ⟨g, 0, none⟩), .int .u8 58] w fun e w' => e = .returned (.tuple #[]) ∧ RL w0 w' g L a4 b4)
    (m7 : ∀ w0 w g, w0.heap.size ≤ g → w.heap[g]? = some (rdr L a4 b4) → Below w0.heap.size w0 w → Calls Tryz.prog 81 #[.pointer (some ⟨g, 0, none⟩)] w fun e w' => e = .returned (.int .i64 s) ∧ RL w0 w' g L a5 b5)
    (m8 : ∀ w0 w g, w0.heap.size ≤ g → w.heap[g]? = some (rdr L a5 b5) → Below w0.heap.size w0 w → Calls Tryz.prog 80 #[.pointer (some ⟨g, 0, none⟩), .int .u8 46] w fun e w' => e = .returned (.tuple #[]) ∧ RL w0 w' g L a6 b6)
    (m10 : ∀ w0 w g, w0.heap.size ≤ g → w.heap[g]? = some (rdr L a6 b6) → Below w0.heap.size w0 w → Calls Tryz.prog 82 #[.pointer (some ⟨g, 0, none⟩), .int .i64 3] w fun e w' => e = .returned (.int .i64 k) ∧ RL w0 w' g L a7 b7) :
    Calls Tryz.prog 58 #[.int .i64 2, .string L] w fun e w' => e = .returned (.tuple #[.agg #[.int .i64 rx, .int .i64 ry], .int .i64 re]) ∧ Below w.heap.size w w' := by
  have hz2 : ¬ L.size = 9 := by simpa using hz
  have hz3 : ((L.size : Int) == 9) = false := by simp; omega
  have hz4 : ((L.size : Int) != 9) = true := by simp; omega
  have M1 := Lib.hid m1
  have M3 := Lib.hid m3
  have M4 := Lib.hid m4
  have M5 := Lib.hid m5
  have M6 := Lib.hid m6
  have M7 := Lib.hid m7
  have M8 := Lib.hid m8
  have M10 := Lib.hid m10
  have HWAY := Lib.hid hway
  clear m1 m3 m4 m5 m6 m7 m8 m10 hway
  go_enter Tryz.func58, Tryz.ntmps58
  go_wp2_with fail
  with_reducible refine (M1.out _).mono ?_
  rintro e w1 ⟨rfl, hb1⟩
  have h_T : w1.heap[w.heap.size]? = some (.cells #[.int .i64 0, .int .i64 0] 30 (0, 0)) := by
    refine Hand.kb hb1 ?_; simp (disch := first | omega | (simp only [Hand.sa, Hand.ss, Hand.sd, Hand.sn]; first | done | omega)) only [Hand.q2, Hand.q1, Hand.q5, Hand.q6, Hand.q4, Hand.q3] <;> rfl
  have hB' : Below w.heap.size w w1 := Hand.stepB hb1 (by repeat (with_reducible first | apply Below.refl _ _ | apply Below.drew | apply pw_below_drewN | (apply Below.setCell; rotate_left; (dsimp only; omega)) | (apply Below.alloc; rotate_left; (first | omega | (simp only [Hand.sa, Hand.ss, Hand.sd, Hand.sn]; omega))))) (Nat.le_refl _)
  clear hb1
  have g_T := h_T
  have hB := hB'
  clear hB' h_T
  obtain ⟨z_T, z1_T, z2_T, y0_T, y1_T⟩ := Hand.hz g_T
  obtain ⟨c_T_0, f_T_0, c_T_1, f_T_1⟩ := Hand.hc2 g_T
  have zw : w.heap.size ≤ w1.heap.size := hB.size
  have HG := Lib.hid (And.intro g_T (hB))
  clear g_T hB
  have GT0 := Lib.hid (show w1.heap[w.heap.size]? = some (.cells #[.int .i64 0, .int .i64 0] 30 (0, 0)) from HG.out.1)
  have HB0 := Lib.hid (show Below w.heap.size w w1 from HG.out.2)
  go_wp2_with fail
  obtain ⟨W, hW⟩ : ∃ W_, W_ = w1.alloc (rdr L 0 false) := ⟨_, rfl⟩
  rw [← hW]
  have hx_W : W.heap[w1.heap.size]? = some (rdr L 0 false) := by rw [hW]; exact Hand.q3 _ _ _ rfl
  have hb_W : Below w1.heap.size w1 W := by rw [hW]; exact (Below.refl _ _).alloc (Nat.le_refl _) _
  clear hW
  clear HG zw z_T z1_T z2_T y0_T y1_T c_T_0 f_T_0 c_T_1 f_T_1
  have HX := Lib.hid hx_W
  have HBX := Lib.hid hb_W
  have g_T := Hand.kb hb_W GT0.out
  have g_X := hx_W
  have hB := Hand.stepB hb_W HB0.out (Nat.le_refl _)
  clear hx_W hb_W
  obtain ⟨z_T, z1_T, z2_T, y0_T, y1_T⟩ := Hand.hz g_T
  obtain ⟨c_T_0, f_T_0, c_T_1, f_T_1⟩ := Hand.hc2 g_T
  obtain ⟨z_X, z1_X, z2_X, y0_X, y1_X⟩ := Hand.hz g_X
  obtain ⟨c_X_0, f_X_0, c_X_1, f_X_1, c_X_2, f_X_2⟩ := Hand.hc3 g_X
  have zw : w.heap.size ≤ W.heap.size := hB.size
  have HG := Lib.hid (And.intro g_T (And.intro g_X (hB)))
  clear g_T g_X hB
  go_wp2_with fail
  with_reducible refine (M3.out w1 _ _ (Nat.le_refl _) (bk HX.out) (bw HBX.out)).mono ?_
  rintro e w3 ⟨rfl, hx_w3, hb_w3⟩
  clear HX HBX HG zw z_T z1_T z2_T y0_T y1_T c_T_0 f_T_0 c_T_1 f_T_1 z_X z1_X z2_X y0_X y1_X c_X_0 f_X_0 c_X_1 f_X_1 c_X_2 f_X_2
  have HX := Lib.hid hx_w3
  have HBX := Lib.hid hb_w3
  have g_T := Hand.kb hb_w3 GT0.out
  have g_X := hx_w3
  have hB := Hand.stepB hb_w3 HB0.out (Nat.le_refl _)
  clear hx_w3 hb_w3
  obtain ⟨z_T, z1_T, z2_T, y0_T, y1_T⟩ := Hand.hz g_T
  obtain ⟨c_T_0, f_T_0, c_T_1, f_T_1⟩ := Hand.hc2 g_T
  obtain ⟨z_X, z1_X, z2_X, y0_X, y1_X⟩ := Hand.hz g_X
  obtain ⟨c_X_0, f_X_0, c_X_1, f_X_1, c_X_2, f_X_2⟩ := Hand.hc3 g_X
  have zw : w.heap.size ≤ w3.heap.size := hB.size
  have HG := Lib.hid (And.intro g_T (And.intro g_X (hB)))
  clear g_T g_X hB
  go_wp2_with fail
  with_reducible refine (M4.out w1 _ _ (Nat.le_refl _) (bk HX.out) (bw HBX.out)).mono ?_
  rintro e w4 ⟨rfl, hx_w4, hb_w4⟩
  clear HX HBX HG zw z_T z1_T z2_T y0_T y1_T c_T_0 f_T_0 c_T_1 f_T_1 z_X z1_X z2_X y0_X y1_X c_X_0 f_X_0 c_X_1 f_X_1 c_X_2 f_X_2
  have HX := Lib.hid hx_w4
  have HBX := Lib.hid hb_w4
  have g_T := Hand.kb hb_w4 GT0.out
  have g_X := hx_w4
  have hB := Hand.stepB hb_w4 HB0.out (Nat.le_refl _)
  clear hx_w4 hb_w4
  obtain ⟨z_T, z1_T, z2_T, y0_T, y1_T⟩ := Hand.hz g_T
  obtain ⟨c_T_0, f_T_0, c_T_1, f_T_1⟩ := Hand.hc2 g_T
  obtain ⟨z_X, z1_X, z2_X, y0_X, y1_X⟩ := Hand.hz g_X
  obtain ⟨c_X_0, f_X_0, c_X_1, f_X_1, c_X_2, f_X_2⟩ := Hand.hc3 g_X
  have zw : w.heap.size ≤ w4.heap.size := hB.size
  have HG := Lib.hid (And.intro g_T (And.intro g_X (hB)))
  clear g_T g_X hB
  go_wp2_with fail
  with_reducible refine (M5.out w1 _ _ (Nat.le_refl _) (bk HX.out) (bw HBX.out)).mono ?_
  rintro e w5 ⟨rfl, hx_w5, hb_w5⟩
  clear HX HBX HG zw z_T z1_T z2_T y0_T y1_T c_T_0 f_T_0 c_T_1 f_T_1 z_X z1_X z2_X y0_X y1_X c_X_0 f_X_0 c_X_1 f_X_1 c_X_2 f_X_2
  have HX := Lib.hid hx_w5
  have HBX := Lib.hid hb_w5
  have g_T := Hand.kb hb_w5 GT0.out
  have g_X := hx_w5
  have hB := Hand.stepB hb_w5 HB0.out (Nat.le_refl _)
  clear hx_w5 hb_w5
  obtain ⟨z_T, z1_T, z2_T, y0_T, y1_T⟩ := Hand.hz g_T
  obtain ⟨c_T_0, f_T_0, c_T_1, f_T_1⟩ := Hand.hc2 g_T
  obtain ⟨z_X, z1_X, z2_X, y0_X, y1_X⟩ := Hand.hz g_X
  obtain ⟨c_X_0, f_X_0, c_X_1, f_X_1, c_X_2, f_X_2⟩ := Hand.hc3 g_X
  have zw : w.heap.size ≤ w5.heap.size := hB.size
  have HG := Lib.hid (And.intro g_T (And.intro g_X (hB)))
  clear g_T g_X hB
  go_wp2_with fail
  with_reducible refine (M6.out w1 _ _ (Nat.le_refl _) (bk HX.out) (bw HBX.out)).mono ?_
  rintro e w6 ⟨rfl, hx_w6, hb_w6⟩
  clear HX HBX HG zw z_T z1_T z2_T y0_T y1_T c_T_0 f_T_0 c_T_1 f_T_1 z_X z1_X z2_X y0_X y1_X c_X_0 f_X_0 c_X_1 f_X_1 c_X_2 f_X_2
  have HX := Lib.hid hx_w6
  have HBX := Lib.hid hb_w6
  have g_T := Hand.kb hb_w6 GT0.out
  have g_X := hx_w6
  have hB := Hand.stepB hb_w6 HB0.out (Nat.le_refl _)
  clear hx_w6 hb_w6
  obtain ⟨z_T, z1_T, z2_T, y0_T, y1_T⟩ := Hand.hz g_T
  obtain ⟨c_T_0, f_T_0, c_T_1, f_T_1⟩ := Hand.hc2 g_T
  obtain ⟨z_X, z1_X, z2_X, y0_X, y1_X⟩ := Hand.hz g_X
  obtain ⟨c_X_0, f_X_0, c_X_1, f_X_1, c_X_2, f_X_2⟩ := Hand.hc3 g_X
  have zw : w.heap.size ≤ w6.heap.size := hB.size
  have HG := Lib.hid (And.intro g_T (And.intro g_X (hB)))
  clear g_T g_X hB
  go_wp2_with fail
  with_reducible refine (M7.out w1 _ _ (Nat.le_refl _) (bk HX.out) (bw HBX.out)).mono ?_
  rintro e w7 ⟨rfl, hx_w7, hb_w7⟩
  clear HX HBX HG zw z_T z1_T z2_T y0_T y1_T c_T_0 f_T_0 c_T_1 f_T_1 z_X z1_X z2_X y0_X y1_X c_X_0 f_X_0 c_X_1 f_X_1 c_X_2 f_X_2
  have HX := Lib.hid hx_w7
  have HBX := Lib.hid hb_w7
  have g_T := Hand.kb hb_w7 GT0.out
  have g_X := hx_w7
  have hB := Hand.stepB hb_w7 HB0.out (Nat.le_refl _)
  clear hx_w7 hb_w7
  obtain ⟨z_T, z1_T, z2_T, y0_T, y1_T⟩ := Hand.hz g_T
  obtain ⟨c_T_0, f_T_0, c_T_1, f_T_1⟩ := Hand.hc2 g_T
  obtain ⟨z_X, z1_X, z2_X, y0_X, y1_X⟩ := Hand.hz g_X
  obtain ⟨c_X_0, f_X_0, c_X_1, f_X_1, c_X_2, f_X_2⟩ := Hand.hc3 g_X
  have zw : w.heap.size ≤ w7.heap.size := hB.size
  have HG := Lib.hid (And.intro g_T (And.intro g_X (hB)))
  clear g_T g_X hB
  go_wp2_with fail
  with_reducible refine (M8.out w1 _ _ (Nat.le_refl _) (bk HX.out) (bw HBX.out)).mono ?_
  rintro e w8 ⟨rfl, hx_w8, hb_w8⟩
  clear HX HBX HG zw z_T z1_T z2_T y0_T y1_T c_T_0 f_T_0 c_T_1 f_T_1 z_X z1_X z2_X y0_X y1_X c_X_0 f_X_0 c_X_1 f_X_1 c_X_2 f_X_2
  have HX := Lib.hid hx_w8
  have HBX := Lib.hid hb_w8
  have g_T := Hand.kb hb_w8 GT0.out
  have g_X := hx_w8
  have hB := Hand.stepB hb_w8 HB0.out (Nat.le_refl _)
  clear hx_w8 hb_w8
  obtain ⟨z_T, z1_T, z2_T, y0_T, y1_T⟩ := Hand.hz g_T
  obtain ⟨c_T_0, f_T_0, c_T_1, f_T_1⟩ := Hand.hc2 g_T
  obtain ⟨z_X, z1_X, z2_X, y0_X, y1_X⟩ := Hand.hz g_X
  obtain ⟨c_X_0, f_X_0, c_X_1, f_X_1, c_X_2, f_X_2⟩ := Hand.hc3 g_X
  have zw : w.heap.size ≤ w8.heap.size := hB.size
  have HG := Lib.hid (And.intro g_T (And.intro g_X (hB)))
  clear g_T g_X hB
  go_wp2_with fail
  with_reducible refine (M10.out w1 _ _ (Nat.le_refl _) (bk HX.out) (bw HBX.out)).mono ?_
  rintro e w10 ⟨rfl, hx_w10, hb_w10⟩
  clear HX HBX HG zw z_T z1_T z2_T y0_T y1_T c_T_0 f_T_0 c_T_1 f_T_1 z_X z1_X z2_X y0_X y1_X c_X_0 f_X_0 c_X_1 f_X_1 c_X_2 f_X_2
  have HX := Lib.hid hx_w10
  have HBX := Lib.hid hb_w10
  have g_T := Hand.kb hb_w10 GT0.out
  have g_X := hx_w10
  have hB := Hand.stepB hb_w10 HB0.out (Nat.le_refl _)
  clear hx_w10 hb_w10
  obtain ⟨z_T, z1_T, z2_T, y0_T, y1_T⟩ := Hand.hz g_T
  obtain ⟨c_T_0, f_T_0, c_T_1, f_T_1⟩ := Hand.hc2 g_T
  obtain ⟨z_X, z1_X, z2_X, y0_X, y1_X⟩ := Hand.hz g_X
  obtain ⟨c_X_0, f_X_0, c_X_1, f_X_1, c_X_2, f_X_2⟩ := Hand.hc3 g_X
  have zw : w.heap.size ≤ w10.heap.size := hB.size
  have HG := Lib.hid (And.intro g_T (And.intro g_X (hB)))
  clear g_T g_X hB
  rcases HWAY.out with ⟨rfl, rfl, rfl, rfl⟩ | ⟨rfl, hl, rfl, rfl, rfl⟩ | ⟨rfl, rfl, h0, h1, hm0, mb, s0, sb, k0, kf, q, rfl, rfl, rfl⟩ | ⟨rfl, rfl, h0, h1, hm0, mb, s0, sb, k0, kf, q, rfl, rfl, rfl, m12⟩
  · have W_ := True.intro
    go_wp2
    obtain ⟨g_T, g_X, hB⟩ := HG.out
    refine bodyPost_ret (results_ct rfl _ _ (w.heap.size) 30 #[.int .i64 0, .int .i64 0] (0, 0) _ rfl ?_ Tryz.underlying30 rfl (by kernel_rfl)) rfl ⟨rfl, ?_⟩
    · simp (disch := omega) only [Hand.q1, g_T]; rfl
    · exact (hB.setCell (by dsimp only; omega) _).setCell (by dsimp only; omega) _
  · have W_ := True.intro
    have hl2 : ¬ a7 = (L.size : Int) := by simpa using hl
    have hl3 : (a7 != (L.size : Int)) = true := by simpa using hl
    go_wp2
    obtain ⟨g_T, g_X, hB⟩ := HG.out
    refine bodyPost_ret (results_ct rfl _ _ (w.heap.size) 30 #[.int .i64 0, .int .i64 0] (0, 0) _ rfl ?_ Tryz.underlying30 rfl (by kernel_rfl)) rfl ⟨rfl, ?_⟩
    · simp (disch := omega) only [Hand.q1, g_T]; rfl
    · exact (hB.setCell (by dsimp only; omega) _).setCell (by dsimp only; omega) _
  · have W_ := True.intro
    go_wp2
    obtain ⟨g_T, g_X, hB⟩ := HG.out
    refine bodyPost_ret (results_ct rfl _ _ (w.heap.size) 30 #[.int .i64 0, .int .i64 0] (0, 0) _ rfl ?_ Tryz.underlying30 rfl (by kernel_rfl)) rfl ⟨rfl, ?_⟩
    · simp (disch := omega) only [Hand.q1, g_T]; rfl
    · exact (hB.setCell (by dsimp only; omega) _).setCell (by dsimp only; omega) _
  · have W_ := True.intro
    have M12 := Lib.hid m12
    clear m12
    go_wp2_with fail
    with_reducible refine (M12.out _).mono ?_
    rintro e w12 ⟨rfl, hq⟩
    obtain ⟨g_T, g_X, hB⟩ := HG.out
    have h_T : w12.heap[w.heap.size]? = some (.cells #[.int .i64 0, .int .i64 0] 30 (0, 0)) := by
      refine Hand.kb hq ?_; first | with_reducible exact g_T | (simp (disch := first | omega | (simp only [Hand.sa, Hand.ss, Hand.sd, Hand.sn]; first | done | omega)) only [Hand.q2, Hand.q1, Hand.q5, Hand.q6, Hand.q4, Hand.q3, g_T] <;> rfl)
    have h_X : w12.heap[w1.heap.size]? = some (.cells #[.string L, .int .i64 (L.size : Int), .bool false] 111 (0, 0)) := by
      refine Hand.kb hq ?_; simp (disch := first | omega | (simp only [Hand.sa, Hand.ss, Hand.sd, Hand.sn]; first | done | omega)) only [Hand.q2, Hand.q1, Hand.q5, Hand.q6, Hand.q4, Hand.q3, g_X] <;> rfl
    have hB' : Below w.heap.size w w12 := Hand.stepB hq (by repeat (with_reducible first | apply hB | apply Below.drew | apply pw_below_drewN | (apply Below.setCell; rotate_left; (dsimp only; omega)) | (apply Below.alloc; rotate_left; (first | omega | (simp only [Hand.sa, Hand.ss, Hand.sd, Hand.sn]; omega))))) (Nat.le_refl _)
    clear HG hB g_T g_X zw z_T z1_T z2_T y0_T y1_T c_T_0 f_T_0 c_T_1 f_T_1 z_X z1_X z2_X y0_X y1_X c_X_0 f_X_0 c_X_1 f_X_1 c_X_2 f_X_2
    clear hq
    have g_T := h_T
    have g_X := h_X
    have hB := hB'
    clear hB' h_T h_X
    obtain ⟨z_T, z1_T, z2_T, y0_T, y1_T⟩ := Hand.hz g_T
    obtain ⟨c_T_0, f_T_0, c_T_1, f_T_1⟩ := Hand.hc2 g_T
    obtain ⟨z_X, z1_X, z2_X, y0_X, y1_X⟩ := Hand.hz g_X
    obtain ⟨c_X_0, f_X_0, c_X_1, f_X_1, c_X_2, f_X_2⟩ := Hand.hc3 g_X
    have zw : w.heap.size ≤ w12.heap.size := hB.size
    have HG := Lib.hid (And.intro g_T (And.intro g_X (hB)))
    clear g_T g_X hB
    go_wp2
    obtain ⟨g_T, g_X, hB⟩ := HG.out
    refine bodyPost_ret (results_ct rfl _ _ (w.heap.size) 30 #[.int .i64 x, .int .i64 y] (0, 0) _ rfl ?_ Tryz.underlying30 rfl (by kernel_rfl)) rfl ⟨rfl, ?_⟩
    · simp (disch := omega) only [Hand.q1, g_T]; rfl
    · exact (hB.setCell (by dsimp only; omega) _).setCell (by dsimp only; omega) _
set_option maxHeartbeats 3000000 in
set_option maxRecDepth 100000 in
theorem rpc_2s (rx ry re x y m s k a3 a4 a5 a6 a7 : Int) (b3 b4 b5 b6 b7 : Bool) (L : ByteArray) (hz : (L.size == 9) = true) (hway : ((b7 = true) ∧ (0 = rx) ∧ (0 = ry) ∧ (13 = re)) ∨ ((b7 = false) ∧ ((a7 == (L.size : Int)) = false) ∧ (0 = rx) ∧ (0 = ry) ∧ (13 = re)) ∨ ((b7 = false) ∧ (a7 = (L.size : Int)) ∧ (0 ≤ m) ∧ (m < 60) ∧ (0 ≤ s) ∧ (s < 60) ∧ (0 ≤ k) ∧ (k < 1000) ∧ (((60 * m + s) * 1000 + k) ≤ 360000000) ∧ (x = rx) ∧ (y = ry) ∧ (0 = re) ∧ (∀ w, Calls Tryz.prog 83 #[.int .i64 ((60 * m + s) * 1000 + k), .int .i64 1000] w fun e w' => e = .returned (.agg #[.int .i64 x, .int .i64 y]) ∧ Below w.heap.size w w'))) (w : World)
    (m1 : ∀ w, Calls Tryz.prog 27 #[.int .i64 2] w fun e w' => e = .returned (.int .i64 1000) ∧ Below w.heap.size w w')
    (m5 : ∀ w0 w g, w0.heap.size ≤ g → w.heap[g]? = some (rdr L 0 false) → Below w0.heap.size w0 w → Calls Tryz.prog 81 #[.pointer (some ⟨g, 0, none⟩)] w fun e w' => e = .returned (.int .i64 m) ∧ RL w0 w' g L a3 b3)
    (m6 : ∀ w0 w g, w0.heap.size ≤ g → w.heap[g]? = some (rdr L a3 b3) → Below w0.heap.size w0 w → Calls Tryz.prog 80 #[.pointer (some ⟨g, 0, none⟩), .int .u8 58] w fun e w' => e = .returned (.tuple #[]) ∧ RL w0 w' g L a4 b4)
    (m7 : ∀ w0 w g, w0.heap.size ≤ g → w.heap[g]? = some (rdr L a4 b4) → Below w0.heap.size w0 w → Calls Tryz.prog 81 #[.pointer (some ⟨g, 0, none⟩)] w fun e w' => e = .returned (.int .i64 s) ∧ RL w0 w' g L a5 b5)
    (m8 : ∀ w0 w g, w0.heap.size ≤ g → w.heap[g]? = some (rdr L a5 b5) → Below w0.heap.size w0 w → Calls Tryz.prog 80 #[.pointer (some ⟨g, 0, none⟩), .int .u8 46] w fun e w' => e = .returned (.tuple #[]) ∧ RL w0 w' g L a6 b6)
    (m10 : ∀ w0 w g, w0.heap.size ≤ g → w.heap[g]? = some (rdr L a6 b6) → Below w0.heap.size w0 w → Calls Tryz.prog 82 #[.pointer (some ⟨g, 0, none⟩), .int .i64 3] w fun e w' => e = .returned (.int .i64 k) ∧ RL w0 w' g L a7 b7) :
    Calls Tryz.prog 58 #[.int .i64 2, .string L] w fun e w' => e = .returned (.tuple #[.agg #[.int .i64 rx, .int .i64 ry], .int .i64 re]) ∧ Below w.heap.size w w' := by
  have hz2 : L.size = 9 := by simpa using hz
  have hz3 : ((L.size : Int) == 9) = true := by simp; omega
  have M1 := Lib.hid m1
  have M5 := Lib.hid m5
  have M6 := Lib.hid m6
  have M7 := Lib.hid m7
  have M8 := Lib.hid m8
  have M10 := Lib.hid m10
  have HWAY := Lib.hid hway
  clear m1 m5 m6 m7 m8 m10 hway
  go_enter Tryz.func58, Tryz.ntmps58
  go_wp2_with fail
  with_reducible refine (M1.out _).mono ?_
  rintro e w1 ⟨rfl, hb1⟩
  have h_T : w1.heap[w.heap.size]? = some (.cells #[.int .i64 0, .int .i64 0] 30 (0, 0)) := by
    refine Hand.kb hb1 ?_; simp (disch := first | omega | (simp only [Hand.sa, Hand.ss, Hand.sd, Hand.sn]; first | done | omega)) only [Hand.q2, Hand.q1, Hand.q5, Hand.q6, Hand.q4, Hand.q3] <;> rfl
  have hB' : Below w.heap.size w w1 := Hand.stepB hb1 (by repeat (with_reducible first | apply Below.refl _ _ | apply Below.drew | apply pw_below_drewN | (apply Below.setCell; rotate_left; (dsimp only; omega)) | (apply Below.alloc; rotate_left; (first | omega | (simp only [Hand.sa, Hand.ss, Hand.sd, Hand.sn]; omega))))) (Nat.le_refl _)
  clear hb1
  have g_T := h_T
  have hB := hB'
  clear hB' h_T
  obtain ⟨z_T, z1_T, z2_T, y0_T, y1_T⟩ := Hand.hz g_T
  obtain ⟨c_T_0, f_T_0, c_T_1, f_T_1⟩ := Hand.hc2 g_T
  have zw : w.heap.size ≤ w1.heap.size := hB.size
  have HG := Lib.hid (And.intro g_T (hB))
  clear g_T hB
  have GT0 := Lib.hid (show w1.heap[w.heap.size]? = some (.cells #[.int .i64 0, .int .i64 0] 30 (0, 0)) from HG.out.1)
  have HB0 := Lib.hid (show Below w.heap.size w w1 from HG.out.2)
  go_wp2_with fail
  obtain ⟨W, hW⟩ : ∃ W_, W_ = w1.alloc (rdr L 0 false) := ⟨_, rfl⟩
  rw [← hW]
  have hx_W : W.heap[w1.heap.size]? = some (rdr L 0 false) := by rw [hW]; exact Hand.q3 _ _ _ rfl
  have hb_W : Below w1.heap.size w1 W := by rw [hW]; exact (Below.refl _ _).alloc (Nat.le_refl _) _
  clear hW
  clear HG zw z_T z1_T z2_T y0_T y1_T c_T_0 f_T_0 c_T_1 f_T_1
  have HX := Lib.hid hx_W
  have HBX := Lib.hid hb_W
  have g_T := Hand.kb hb_W GT0.out
  have g_X := hx_W
  have hB := Hand.stepB hb_W HB0.out (Nat.le_refl _)
  clear hx_W hb_W
  obtain ⟨z_T, z1_T, z2_T, y0_T, y1_T⟩ := Hand.hz g_T
  obtain ⟨c_T_0, f_T_0, c_T_1, f_T_1⟩ := Hand.hc2 g_T
  obtain ⟨z_X, z1_X, z2_X, y0_X, y1_X⟩ := Hand.hz g_X
  obtain ⟨c_X_0, f_X_0, c_X_1, f_X_1, c_X_2, f_X_2⟩ := Hand.hc3 g_X
  have zw : w.heap.size ≤ W.heap.size := hB.size
  have HG := Lib.hid (And.intro g_T (And.intro g_X (hB)))
  clear g_T g_X hB
  go_wp2_with fail
  with_reducible refine (M5.out w1 _ _ (Nat.le_refl _) (bk HX.out) (bw HBX.out)).mono ?_
  rintro e w5 ⟨rfl, hx_w5, hb_w5⟩
  clear HX HBX HG zw z_T z1_T z2_T y0_T y1_T c_T_0 f_T_0 c_T_1 f_T_1 z_X z1_X z2_X y0_X y1_X c_X_0 f_X_0 c_X_1 f_X_1 c_X_2 f_X_2
  have HX := Lib.hid hx_w5
  have HBX := Lib.hid hb_w5
  have g_T := Hand.kb hb_w5 GT0.out
  have g_X := hx_w5
  have hB := Hand.stepB hb_w5 HB0.out (Nat.le_refl _)
  clear hx_w5 hb_w5
  obtain ⟨z_T, z1_T, z2_T, y0_T, y1_T⟩ := Hand.hz g_T
  obtain ⟨c_T_0, f_T_0, c_T_1, f_T_1⟩ := Hand.hc2 g_T
  obtain ⟨z_X, z1_X, z2_X, y0_X, y1_X⟩ := Hand.hz g_X
  obtain ⟨c_X_0, f_X_0, c_X_1, f_X_1, c_X_2, f_X_2⟩ := Hand.hc3 g_X
  have zw : w.heap.size ≤ w5.heap.size := hB.size
  have HG := Lib.hid (And.intro g_T (And.intro g_X (hB)))
  clear g_T g_X hB
  go_wp2_with fail
  with_reducible refine (M6.out w1 _ _ (Nat.le_refl _) (bk HX.out) (bw HBX.out)).mono ?_
  rintro e w6 ⟨rfl, hx_w6, hb_w6⟩
  clear HX HBX HG zw z_T z1_T z2_T y0_T y1_T c_T_0 f_T_0 c_T_1 f_T_1 z_X z1_X z2_X y0_X y1_X c_X_0 f_X_0 c_X_1 f_X_1 c_X_2 f_X_2
  have HX := Lib.hid hx_w6
  have HBX := Lib.hid hb_w6
  have g_T := Hand.kb hb_w6 GT0.out
  have g_X := hx_w6
  have hB := Hand.stepB hb_w6 HB0.out (Nat.le_refl _)
  clear hx_w6 hb_w6
  obtain ⟨z_T, z1_T, z2_T, y0_T, y1_T⟩ := Hand.hz g_T
  obtain ⟨c_T_0, f_T_0, c_T_1, f_T_1⟩ := Hand.hc2 g_T
  obtain ⟨z_X, z1_X, z2_X, y0_X, y1_X⟩ := Hand.hz g_X
  obtain ⟨c_X_0, f_X_0, c_X_1, f_X_1, c_X_2, f_X_2⟩ := Hand.hc3 g_X
  have zw : w.heap.size ≤ w6.heap.size := hB.size
  have HG := Lib.hid (And.intro g_T (And.intro g_X (hB)))
  clear g_T g_X hB
  go_wp2_with fail
  with_reducible refine (M7.out w1 _ _ (Nat.le_refl _) (bk HX.out) (bw HBX.out)).mono ?_
  rintro e w7 ⟨rfl, hx_w7, hb_w7⟩
  clear HX HBX HG zw z_T z1_T z2_T y0_T y1_T c_T_0 f_T_0 c_T_1 f_T_1 z_X z1_X z2_X y0_X y1_X c_X_0 f_X_0 c_X_1 f_X_1 c_X_2 f_X_2
  have HX := Lib.hid hx_w7
  have HBX := Lib.hid hb_w7
  have g_T := Hand.kb hb_w7 GT0.out
  have g_X := hx_w7
  have hB := Hand.stepB hb_w7 HB0.out (Nat.le_refl _)
  clear hx_w7 hb_w7
  obtain ⟨z_T, z1_T, z2_T, y0_T, y1_T⟩ := Hand.hz g_T
  obtain ⟨c_T_0, f_T_0, c_T_1, f_T_1⟩ := Hand.hc2 g_T
  obtain ⟨z_X, z1_X, z2_X, y0_X, y1_X⟩ := Hand.hz g_X
  obtain ⟨c_X_0, f_X_0, c_X_1, f_X_1, c_X_2, f_X_2⟩ := Hand.hc3 g_X
  have zw : w.heap.size ≤ w7.heap.size := hB.size
  have HG := Lib.hid (And.intro g_T (And.intro g_X (hB)))
  clear g_T g_X hB
  go_wp2_with fail
  with_reducible refine (M8.out w1 _ _ (Nat.le_refl _) (bk HX.out) (bw HBX.out)).mono ?_
  rintro e w8 ⟨rfl, hx_w8, hb_w8⟩
  clear HX HBX HG zw z_T z1_T z2_T y0_T y1_T c_T_0 f_T_0 c_T_1 f_T_1 z_X z1_X z2_X y0_X y1_X c_X_0 f_X_0 c_X_1 f_X_1 c_X_2 f_X_2
  have HX := Lib.hid hx_w8
  have HBX := Lib.hid hb_w8
  have g_T := Hand.kb hb_w8 GT0.out
  have g_X := hx_w8
  have hB := Hand.stepB hb_w8 HB0.out (Nat.le_refl _)
  clear hx_w8 hb_w8
  obtain ⟨z_T, z1_T, z2_T, y0_T, y1_T⟩ := Hand.hz g_T
  obtain ⟨c_T_0, f_T_0, c_T_1, f_T_1⟩ := Hand.hc2 g_T
  obtain ⟨z_X, z1_X, z2_X, y0_X, y1_X⟩ := Hand.hz g_X
  obtain ⟨c_X_0, f_X_0, c_X_1, f_X_1, c_X_2, f_X_2⟩ := Hand.hc3 g_X
  have zw : w.heap.size ≤ w8.heap.size := hB.size
  have HG := Lib.hid (And.intro g_T (And.intro g_X (hB)))
  clear g_T g_X hB
  go_wp2_with fail
  with_reducible refine (M10.out w1 _ _ (Nat.le_refl _) (bk HX.out) (bw HBX.out)).mono ?_
  rintro e w10 ⟨rfl, hx_w10, hb_w10⟩
  clear HX HBX HG zw z_T z1_T z2_T y0_T y1_T c_T_0 f_T_0 c_T_1 f_T_1 z_X z1_X z2_X y0_X y1_X c_X_0 f_X_0 c_X_1 f_X_1 c_X_2 f_X_2
  have HX := Lib.hid hx_w10
  have HBX := Lib.hid hb_w10
  have g_T := Hand.kb hb_w10 GT0.out
  have g_X := hx_w10
  have hB := Hand.stepB hb_w10 HB0.out (Nat.le_refl _)
  clear hx_w10 hb_w10
  obtain ⟨z_T, z1_T, z2_T, y0_T, y1_T⟩ := Hand.hz g_T
  obtain ⟨c_T_0, f_T_0, c_T_1, f_T_1⟩ := Hand.hc2 g_T
  obtain ⟨z_X, z1_X, z2_X, y0_X, y1_X⟩ := Hand.hz g_X
  obtain ⟨c_X_0, f_X_0, c_X_1, f_X_1, c_X_2, f_X_2⟩ := Hand.hc3 g_X
  have zw : w.heap.size ≤ w10.heap.size := hB.size
  have HG := Lib.hid (And.intro g_T (And.intro g_X (hB)))
  clear g_T g_X hB
  rcases HWAY.out with ⟨rfl, rfl, rfl, rfl⟩ | ⟨rfl, hl, rfl, rfl, rfl⟩ | ⟨rfl, rfl, hm0, mb, s0, sb, k0, kf, q, rfl, rfl, rfl, m12⟩
  · have W_ := True.intro
    go_wp2
    obtain ⟨g_T, g_X, hB⟩ := HG.out
    refine bodyPost_ret (results_ct rfl _ _ (w.heap.size) 30 #[.int .i64 0, .int .i64 0] (0, 0) _ rfl ?_ Tryz.underlying30 rfl (by kernel_rfl)) rfl ⟨rfl, ?_⟩
    · simp (disch := omega) only [Hand.q1, g_T]; rfl
    · exact (hB.setCell (by dsimp only; omega) _).setCell (by dsimp only; omega) _
  · have W_ := True.intro
    have hl2 : ¬ a7 = (L.size : Int) := by simpa using hl
    have hl3 : (a7 != (L.size : Int)) = true := by simpa using hl
    go_wp2
    obtain ⟨g_T, g_X, hB⟩ := HG.out
    refine bodyPost_ret (results_ct rfl _ _ (w.heap.size) 30 #[.int .i64 0, .int .i64 0] (0, 0) _ rfl ?_ Tryz.underlying30 rfl (by kernel_rfl)) rfl ⟨rfl, ?_⟩
    · simp (disch := omega) only [Hand.q1, g_T]; rfl
    · exact (hB.setCell (by dsimp only; omega) _).setCell (by dsimp only; omega) _
  · have W_ := True.intro
    have M12 := Lib.hid m12
    clear m12
    go_wp2_with fail
    with_reducible refine (M12.out _).mono ?_
    rintro e w12 ⟨rfl, hq⟩
    obtain ⟨g_T, g_X, hB⟩ := HG.out
    have h_T : w12.heap[w.heap.size]? = some (.cells #[.int .i64 0, .int .i64 0] 30 (0, 0)) := by
      refine Hand.kb hq ?_; first | with_reducible exact g_T | (simp (disch := first | omega | (simp only [Hand.sa, Hand.ss, Hand.sd, Hand.sn]; first | done | omega)) only [Hand.q2, Hand.q1, Hand.q5, Hand.q6, Hand.q4, Hand.q3, g_T] <;> rfl)
    have h_X : w12.heap[w1.heap.size]? = some (.cells #[.string L, .int .i64 (L.size : Int), .bool false] 111 (0, 0)) := by
      refine Hand.kb hq ?_; simp (disch := first | omega | (simp only [Hand.sa, Hand.ss, Hand.sd, Hand.sn]; first | done | omega)) only [Hand.q2, Hand.q1, Hand.q5, Hand.q6, Hand.q4, Hand.q3, g_X] <;> rfl
    have hB' : Below w.heap.size w w12 := Hand.stepB hq (by repeat (with_reducible first | apply hB | apply Below.drew | apply pw_below_drewN | (apply Below.setCell; rotate_left; (dsimp only; omega)) | (apply Below.alloc; rotate_left; (first | omega | (simp only [Hand.sa, Hand.ss, Hand.sd, Hand.sn]; omega))))) (Nat.le_refl _)
    clear HG hB g_T g_X zw z_T z1_T z2_T y0_T y1_T c_T_0 f_T_0 c_T_1 f_T_1 z_X z1_X z2_X y0_X y1_X c_X_0 f_X_0 c_X_1 f_X_1 c_X_2 f_X_2
    clear hq
    have g_T := h_T
    have g_X := h_X
    have hB := hB'
    clear hB' h_T h_X
    obtain ⟨z_T, z1_T, z2_T, y0_T, y1_T⟩ := Hand.hz g_T
    obtain ⟨c_T_0, f_T_0, c_T_1, f_T_1⟩ := Hand.hc2 g_T
    obtain ⟨z_X, z1_X, z2_X, y0_X, y1_X⟩ := Hand.hz g_X
    obtain ⟨c_X_0, f_X_0, c_X_1, f_X_1, c_X_2, f_X_2⟩ := Hand.hc3 g_X
    have zw : w.heap.size ≤ w12.heap.size := hB.size
    have HG := Lib.hid (And.intro g_T (And.intro g_X (hB)))
    clear g_T g_X hB
    go_wp2
    obtain ⟨g_T, g_X, hB⟩ := HG.out
    refine bodyPost_ret (results_ct rfl _ _ (w.heap.size) 30 #[.int .i64 x, .int .i64 y] (0, 0) _ rfl ?_ Tryz.underlying30 rfl (by kernel_rfl)) rfl ⟨rfl, ?_⟩
    · simp (disch := omega) only [Hand.q1, g_T]; rfl
    · exact (hB.setCell (by dsimp only; omega) _).setCell (by dsimp only; omega) _
set_option maxHeartbeats 800000 in
set_option maxRecDepth 100000 in
theorem rpc_kind (f : Int) (L : ByteArray) (w : World)
    (m1 : ∀ w, Calls Tryz.prog 27 #[.int .i64 f] w fun e w' => e = .returned (.int .i64 0) ∧ Below w.heap.size w w') :
    Calls Tryz.prog 58 #[.int .i64 f, .string L] w fun e w' => e = .returned (.tuple #[.agg #[.int .i64 0, .int .i64 0], .int .i64 5]) ∧ Below w.heap.size w w' := by
  have M1 := Lib.hid m1
  clear m1
  go_enter Tryz.func58, Tryz.ntmps58
  go_wp2_with fail
  with_reducible refine (M1.out _).mono ?_
  rintro e w1 ⟨rfl, hb1⟩
  have h_T : w1.heap[w.heap.size]? = some (.cells #[.int .i64 0, .int .i64 0] 30 (0, 0)) := by
    refine Hand.kb hb1 ?_; simp (disch := first | omega | (simp only [Hand.sa, Hand.ss, Hand.sd, Hand.sn]; first | done | omega)) only [Hand.q2, Hand.q1, Hand.q5, Hand.q6, Hand.q4, Hand.q3] <;> rfl
  have hB' : Below w.heap.size w w1 := Hand.stepB hb1 (by repeat (with_reducible first | apply Below.refl _ _ | apply Below.drew | apply pw_below_drewN | (apply Below.setCell; rotate_left; (dsimp only; omega)) | (apply Below.alloc; rotate_left; (first | omega | (simp only [Hand.sa, Hand.ss, Hand.sd, Hand.sn]; omega))))) (Nat.le_refl _)
  clear hb1
  have g_T := h_T
  have hB := hB'
  clear hB' h_T
  obtain ⟨z_T, z1_T, z2_T, y0_T, y1_T⟩ := Hand.hz g_T
  obtain ⟨c_T_0, f_T_0, c_T_1, f_T_1⟩ := Hand.hc2 g_T
  have zw : w.heap.size ≤ w1.heap.size := hB.size
  have HG := Lib.hid (And.intro g_T (hB))
  clear g_T hB
  go_wp2
  obtain ⟨g_T, hB⟩ := HG.out
  refine bodyPost_ret (results_ct rfl _ _ (w.heap.size) 30 #[.int .i64 0, .int .i64 0] (0, 0) _ rfl ?_ Tryz.underlying30 rfl (by kernel_rfl)) rfl ⟨rfl, ?_⟩
  · simp (disch := omega) only [Hand.q1, g_T]; rfl
  · exact (hB.setCell (by dsimp only; omega) _).setCell (by dsimp only; omega) _
end Go.Proofs.YtghiibdhibcbaaaGreatDoor.PA
