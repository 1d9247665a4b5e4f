/- The reference: Number. The reference: Number told at all inputs. -/
import Derived.Test.YtghiibdhibcbaaaGreatDoorMH
import Derived.Test.YtghiibdhibcbaaaGreatDoorMJ
import Derived.Test.YtghiibdhibcbaaaGreatDoorMF
namespace Go.Proofs.YtghiibdhibcbaaaGreatDoor.PA
open Go Go.RowKit Go.Proofs.YtghiibdhibcbaaaGreatDoorW.PrintWords Go.Proofs.YtghiibdhibcbaaaGreatDoorW.PrintLast Go.Proofs.YtghiibdhibcbaaaGreatDoorW.PrintMore Go.Proofs.YtghiibdhibcbaaaGreatDoor.CS
set_option linter.unusedSimpArgs false
set_option linter.unusedVariables false
set_option maxHeartbeats 800000 in
set_option maxRecDepth 100000 in
theorem rnum_bad (n d c : Int) (dr : Bool) (L : ByteArray) (hc : (c == 0) = false) (w : World)
    (m1 : ∀ w, Calls Tryz.prog 16 #[rate n d dr] w fun e w' => e = .returned (.int .i64 c) ∧ Below w.heap.size w w') :
    Calls Tryz.prog 57 #[rate n d dr, .string L] w fun e w' => e = .returned (.tuple #[.int .i64 0, .int .i64 14]) ∧ Below w.heap.size w w' := by
  have M1 := Lib.hid m1
  clear m1
  go_enter Tryz.func57, Tryz.ntmps57
  go_wp2_with fail
  with_reducible refine (M1.out _).mono ?_
  rintro e w1 ⟨rfl, hb1⟩
  have h_A : w1.heap[w.heap.size]? = some (.cells #[.int .i64 n, .int .i64 d, .bool dr] 23 (0, 0)) := by
    refine Hand.kb hb1 ?_; simp (disch := first | omega | (simp only [Hand.sa, Hand.ss, Hand.sd, Hand.sn]; first | done | omega)) only [Hand.q2, Hand.q1, Hand.q5, Hand.q6, Hand.q4, Hand.q3] <;> rfl
  have hB' : Below w.heap.size w w1 := Hand.stepB hb1 (by repeat (with_reducible first | apply Below.refl _ _ | apply Below.drew | apply pw_below_drewN | (apply Below.setCell; rotate_left; (dsimp only; omega)) | (apply Below.alloc; rotate_left; (first | omega | (simp only [Hand.sa, Hand.ss, Hand.sd, Hand.sn]; omega))))) (Nat.le_refl _)
  clear hb1
  have g_A := h_A
  have hB := hB'
  clear hB' h_A
  obtain ⟨z_A, z1_A, z2_A, y0_A, y1_A⟩ := Hand.hz g_A
  obtain ⟨c_A_0, f_A_0, c_A_1, f_A_1, c_A_2, f_A_2⟩ := Hand.hc3 g_A
  have zw : w.heap.size ≤ w1.heap.size := hB.size
  have HG := Lib.hid (And.intro g_A (hB))
  clear g_A hB
  go_wp2
  go_ret2
  obtain ⟨g_A, hB⟩ := HG.out
  exact ⟨rfl, hB⟩
set_option maxHeartbeats 6000000 in
set_option maxRecDepth 100000 in
theorem rnum_false (rn re o D M T P Q E N l n d f h m s k LW a1 a2 a3 a4 a5 a6 a7 : Int) (b1 b2 b3 b4 b5 b6 b7 : Bool) (L : ByteArray) (hway : ((b7 = true) ∧ (0 = rn) ∧ (13 = re)) ∨ ((b7 = false) ∧ ((a7 == (L.size : Int)) = false) ∧ (0 = rn) ∧ (13 = re)) ∨ ((b7 = false) ∧ (a7 = (L.size : Int)) ∧ (f ≤ k) ∧ (0 = rn) ∧ (13 = re)) ∨ ((b7 = false) ∧ (a7 = (L.size : Int)) ∧ (1 ≤ f) ∧ (f ≤ 240) ∧ (0 ≤ h) ∧ (h ≤ 999) ∧ (0 ≤ m) ∧ (m < 60) ∧ (0 ≤ s) ∧ (s < 60) ∧ (0 ≤ k) ∧ (k < f) ∧ (60 * h + m = M) ∧ (60 * M + s = T) ∧ (60 * M * f = P) ∧ (M - M / 10 = Q) ∧ (D * Q = E) ∧ (P + k - E = N) ∧ (0 ≤ P) ∧ (P ≤ 900000000) ∧ (0 ≤ E) ∧ (E ≤ 900000000) ∧ (0 ≤ D) ∧ (D ≤ 4) ∧ ((s == 0) = true) ∧ (k < o) ∧ (0 = rn) ∧ (15 = re) ∧ (∀ w, Calls Tryz.prog 24 #[rate n d false, .int .i64 m] w fun e w' => e = .returned (.int .i64 o) ∧ Below w.heap.size w w')) ∨ ((b7 = false) ∧ (a7 = (L.size : Int)) ∧ (1 ≤ f) ∧ (f ≤ 240) ∧ (0 ≤ h) ∧ (h ≤ 999) ∧ (0 ≤ m) ∧ (m < 60) ∧ (0 ≤ s) ∧ (s < 60) ∧ (0 ≤ k) ∧ (k < f) ∧ (60 * h + m = M) ∧ (60 * M + s = T) ∧ (T * f = P) ∧ (M - M / 10 = Q) ∧ (D * Q = E) ∧ (P + k - E = N) ∧ (0 ≤ P) ∧ (P ≤ 900000000) ∧ (0 ≤ E) ∧ (E ≤ 900000000) ∧ (0 ≤ D) ∧ (D ≤ 4) ∧ ((s == 0) = false) ∧ (N ≤ l) ∧ (N = rn) ∧ (0 = re) ∧ (∀ w, Calls Tryz.prog 23 #[rate n d false] w fun e w' => e = .returned (.int .i64 D) ∧ Below w.heap.size w w') ∧ (∀ w, Calls Tryz.prog 21 #[rate n d false] w fun e w' => e = .returned (.int .i64 l) ∧ Below w.heap.size w w')) ∨ ((b7 = false) ∧ (a7 = (L.size : Int)) ∧ (1 ≤ f) ∧ (f ≤ 240) ∧ (0 ≤ h) ∧ (h ≤ 999) ∧ (0 ≤ m) ∧ (m < 60) ∧ (0 ≤ s) ∧ (s < 60) ∧ (0 ≤ k) ∧ (k < f) ∧ (60 * h + m = M) ∧ (60 * M + s = T) ∧ (T * f = P) ∧ (M - M / 10 = Q) ∧ (D * Q = E) ∧ (P + k - E = N) ∧ (0 ≤ P) ∧ (P ≤ 900000000) ∧ (0 ≤ E) ∧ (E ≤ 900000000) ∧ (0 ≤ D) ∧ (D ≤ 4) ∧ ((s == 0) = false) ∧ (l < N) ∧ (0 = rn) ∧ (31 = re) ∧ (∀ w, Calls Tryz.prog 23 #[rate n d false] w fun e w' => e = .returned (.int .i64 D) ∧ Below w.heap.size w w') ∧ (∀ w, Calls Tryz.prog 21 #[rate n d false] w fun e w' => e = .returned (.int .i64 l) ∧ Below w.heap.size w w')) ∨ ((b7 = false) ∧ (a7 = (L.size : Int)) ∧ (1 ≤ f) ∧ (f ≤ 240) ∧ (0 ≤ h) ∧ (h ≤ 999) ∧ (0 ≤ m) ∧ (m < 60) ∧ (0 ≤ s) ∧ (s < 60) ∧ (0 ≤ k) ∧ (k < f) ∧ (60 * h + m = M) ∧ (60 * M + s = T) ∧ (60 * M * f = P) ∧ (M - M / 10 = Q) ∧ (D * Q = E) ∧ (P + k - E = N) ∧ (0 ≤ P) ∧ (P ≤ 900000000) ∧ (0 ≤ E) ∧ (E ≤ 900000000) ∧ (0 ≤ D) ∧ (D ≤ 4) ∧ ((s == 0) = true) ∧ (o ≤ k) ∧ (N ≤ l) ∧ (N = rn) ∧ (0 = re) ∧ (∀ w, Calls Tryz.prog 24 #[rate n d false, .int .i64 m] w fun e w' => e = .returned (.int .i64 o) ∧ Below w.heap.size w w') ∧ (∀ w, Calls Tryz.prog 23 #[rate n d false] w fun e w' => e = .returned (.int .i64 D) ∧ Below w.heap.size w w') ∧ (∀ w, Calls Tryz.prog 21 #[rate n d false] w fun e w' => e = .returned (.int .i64 l) ∧ Below w.heap.size w w')) ∨ ((b7 = false) ∧ (a7 = (L.size : Int)) ∧ (1 ≤ f) ∧ (f ≤ 240) ∧ (0 ≤ h) ∧ (h ≤ 999) ∧ (0 ≤ m) ∧ (m < 60) ∧ (0 ≤ s) ∧ (s < 60) ∧ (0 ≤ k) ∧ (k < f) ∧ (60 * h + m = M) ∧ (60 * M + s = T) ∧ (60 * M * f = P) ∧ (M - M / 10 = Q) ∧ (D * Q = E) ∧ (P + k - E = N) ∧ (0 ≤ P) ∧ (P ≤ 900000000) ∧ (0 ≤ E) ∧ (E ≤ 900000000) ∧ (0 ≤ D) ∧ (D ≤ 4) ∧ ((s == 0) = true) ∧ (o ≤ k) ∧ (l < N) ∧ (0 = rn) ∧ (31 = re) ∧ (∀ w, Calls Tryz.prog 24 #[rate n d false, .int .i64 m] w fun e w' => e = .returned (.int .i64 o) ∧ Below w.heap.size w w') ∧ (∀ w, Calls Tryz.prog 23 #[rate n d false] w fun e w' => e = .returned (.int .i64 D) ∧ Below w.heap.size w w') ∧ (∀ w, Calls Tryz.prog 21 #[rate n d false] w fun e w' => e = .returned (.int .i64 l) ∧ Below w.heap.size w w'))) (w : World)
    (m1 : ∀ w, Calls Tryz.prog 16 #[rate n d false] w fun e w' => e = .returned (.int .i64 0) ∧ Below w.heap.size w w')
    (m2 : ∀ w, Calls Tryz.prog 22 #[rate n d false] w fun e w' => e = .returned (.int .i64 f) ∧ Below w.heap.size w w')
    (m3 : ∀ w0 w g, w0.heap.size ≤ g → w.heap[g]? = some (rdr L 0 false) → Below w0.heap.size w0 w → Calls Tryz.prog 79 #[.pointer (some ⟨g, 0, none⟩), .int .i64 2] w fun e w' => e = .returned (.int .i64 h) ∧ RL w0 w' g L a1 b1)
    (m4 : ∀ w0 w g, w0.heap.size ≤ g → w.heap[g]? = some (rdr L a1 b1) → Below w0.heap.size w0 w → Calls Tryz.prog 80 #[.pointer (some ⟨g, 0, none⟩), .int .u8 58] w fun e w' => e = .returned (.tuple #[]) ∧ RL w0 w' g L a2 b2)
    (m5 : ∀ w0 w g, w0.heap.size ≤ g → w.heap[g]? = some (rdr L a2 b2) → Below w0.heap.size w0 w → Calls Tryz.prog 81 #[.pointer (some ⟨g, 0, none⟩)] w fun e w' => e = .returned (.int .i64 m) ∧ RL w0 w' g L a3 b3)
    (m6 : ∀ w0 w g, w0.heap.size ≤ g → w.heap[g]? = some (rdr L a3 b3) → Below w0.heap.size w0 w → Calls Tryz.prog 80 #[.pointer (some ⟨g, 0, none⟩), .int .u8 58] w fun e w' => e = .returned (.tuple #[]) ∧ RL w0 w' g L a4 b4)
    (m7 : ∀ w0 w g, w0.heap.size ≤ g → w.heap[g]? = some (rdr L a4 b4) → Below w0.heap.size w0 w → Calls Tryz.prog 81 #[.pointer (some ⟨g, 0, none⟩)] w fun e w' => e = .returned (.int .i64 s) ∧ RL w0 w' g L a5 b5)
    (m8 : ∀ w0 w g, w0.heap.size ≤ g → w.heap[g]? = some (rdr L a5 b5) → Below w0.heap.size w0 w → Calls Tryz.prog 80 #[.pointer (some ⟨g, 0, none⟩), .int .u8 58] w fun e w' => e = .returned (.tuple #[]) ∧ RL w0 w' g L a6 b6)
    (m9 : ∀ w, Calls Tryz.prog 26 #[.int .i64 f] w fun e w' => e = .returned (.int .i64 LW) ∧ Below w.heap.size w w')
    (m10 : ∀ w0 w g, w0.heap.size ≤ g → w.heap[g]? = some (rdr L a6 b6) → Below w0.heap.size w0 w → Calls Tryz.prog 82 #[.pointer (some ⟨g, 0, none⟩), .int .i64 LW] w fun e w' => e = .returned (.int .i64 k) ∧ RL w0 w' g L a7 b7) :
    Calls Tryz.prog 57 #[rate n d false, .string L] w fun e w' => e = .returned (.tuple #[.int .i64 rn, .int .i64 re]) ∧ Below w.heap.size w w' := by
  have M1 := Lib.hid m1
  have M2 := Lib.hid m2
  have M3 := Lib.hid m3
  have M4 := Lib.hid m4
  have M5 := Lib.hid m5
  have M6 := Lib.hid m6
  have M7 := Lib.hid m7
  have M8 := Lib.hid m8
  have M9 := Lib.hid m9
  have M10 := Lib.hid m10
  have HWAY := Lib.hid hway
  clear m1 m2 m3 m4 m5 m6 m7 m8 m9 m10 hway
  go_enter Tryz.func57, Tryz.ntmps57
  go_wp2_with fail
  with_reducible refine (M1.out _).mono ?_
  rintro e w1 ⟨rfl, hb1⟩
  have h_A : w1.heap[w.heap.size]? = some (.cells #[.int .i64 n, .int .i64 d, .bool false] 23 (0, 0)) := by
    refine Hand.kb hb1 ?_; simp (disch := first | omega | (simp only [Hand.sa, Hand.ss, Hand.sd, Hand.sn]; first | done | omega)) only [Hand.q2, Hand.q1, Hand.q5, Hand.q6, Hand.q4, Hand.q3] <;> rfl
  have hB' : Below w.heap.size w w1 := Hand.stepB hb1 (by repeat (with_reducible first | apply Below.refl _ _ | apply Below.drew | apply pw_below_drewN | (apply Below.setCell; rotate_left; (dsimp only; omega)) | (apply Below.alloc; rotate_left; (first | omega | (simp only [Hand.sa, Hand.ss, Hand.sd, Hand.sn]; omega))))) (Nat.le_refl _)
  clear hb1
  have g_A := h_A
  have hB := hB'
  clear hB' h_A
  obtain ⟨z_A, z1_A, z2_A, y0_A, y1_A⟩ := Hand.hz g_A
  obtain ⟨c_A_0, f_A_0, c_A_1, f_A_1, c_A_2, f_A_2⟩ := Hand.hc3 g_A
  have zw : w.heap.size ≤ w1.heap.size := hB.size
  have HG := Lib.hid (And.intro g_A (hB))
  clear g_A hB
  go_wp2_with fail
  with_reducible refine (M2.out _).mono ?_
  rintro e w2 ⟨rfl, hb2⟩
  obtain ⟨g_A, hB⟩ := HG.out
  have h_A : w2.heap[w.heap.size]? = some (.cells #[.int .i64 n, .int .i64 d, .bool false] 23 (0, 0)) := by
    refine Hand.kb hb2 ?_; first | with_reducible exact g_A | (simp (disch := first | omega | (simp only [Hand.sa, Hand.ss, Hand.sd, Hand.sn]; first | done | omega)) only [Hand.q2, Hand.q1, Hand.q5, Hand.q6, Hand.q4, Hand.q3, g_A] <;> rfl)
  have hB' : Below w.heap.size w w2 := Hand.stepB hb2 (by repeat (with_reducible first | apply hB | apply Below.drew | apply pw_below_drewN | (apply Below.setCell; rotate_left; (dsimp only; omega)) | (apply Below.alloc; rotate_left; (first | omega | (simp only [Hand.sa, Hand.ss, Hand.sd, Hand.sn]; omega))))) (Nat.le_refl _)
  clear HG hB g_A zw z_A z1_A z2_A y0_A y1_A c_A_0 f_A_0 c_A_1 f_A_1 c_A_2 f_A_2
  clear hb2
  have g_A := h_A
  have hB := hB'
  clear hB' h_A
  obtain ⟨z_A, z1_A, z2_A, y0_A, y1_A⟩ := Hand.hz g_A
  obtain ⟨c_A_0, f_A_0, c_A_1, f_A_1, c_A_2, f_A_2⟩ := Hand.hc3 g_A
  have zw : w.heap.size ≤ w2.heap.size := hB.size
  have HG := Lib.hid (And.intro g_A (hB))
  clear g_A hB
  have GA0 := Lib.hid (show w2.heap[w.heap.size]? = some (.cells #[.int .i64 n, .int .i64 d, .bool false] 23 (0, 0)) from HG.out.1)
  have HB0 := Lib.hid (show Below w.heap.size w w2 from HG.out.2)
  go_wp2_with fail
  obtain ⟨W, hW⟩ : ∃ W_, W_ = w2.alloc (rdr L 0 false) := ⟨_, rfl⟩
  rw [← hW]
  have hx_W : W.heap[w2.heap.size]? = some (rdr L 0 false) := by rw [hW]; exact Hand.q3 _ _ _ rfl
  have hb_W : Below w2.heap.size w2 W := by rw [hW]; exact (Below.refl _ _).alloc (Nat.le_refl _) _
  clear hW
  clear HG zw z_A z1_A z2_A y0_A y1_A c_A_0 f_A_0 c_A_1 f_A_1 c_A_2 f_A_2
  have HX := Lib.hid hx_W
  have HBX := Lib.hid hb_W
  have g_A := Hand.kb hb_W GA0.out
  have g_X := hx_W
  have hB := Hand.stepB hb_W HB0.out (Nat.le_refl _)
  clear hx_W hb_W
  obtain ⟨z_A, z1_A, z2_A, y0_A, y1_A⟩ := Hand.hz g_A
  obtain ⟨c_A_0, f_A_0, c_A_1, f_A_1, c_A_2, f_A_2⟩ := Hand.hc3 g_A
  obtain ⟨z_X, z1_X, z2_X, y0_X, y1_X⟩ := Hand.hz g_X
  obtain ⟨c_X_0, f_X_0, c_X_1, f_X_1, c_X_2, f_X_2⟩ := Hand.hc3 g_X
  have zw : w.heap.size ≤ W.heap.size := hB.size
  have HG := Lib.hid (And.intro g_A (And.intro g_X (hB)))
  clear g_A g_X hB
  go_wp2_with fail
  with_reducible refine (M3.out w2 _ _ (Nat.le_refl _) (bk HX.out) (bw HBX.out)).mono ?_
  rintro e w3 ⟨rfl, hx_w3, hb_w3⟩
  clear HX HBX HG zw z_A z1_A z2_A y0_A y1_A c_A_0 f_A_0 c_A_1 f_A_1 c_A_2 f_A_2 z_X z1_X z2_X y0_X y1_X c_X_0 f_X_0 c_X_1 f_X_1 c_X_2 f_X_2
  have HX := Lib.hid hx_w3
  have HBX := Lib.hid hb_w3
  have g_A := Hand.kb hb_w3 GA0.out
  have g_X := hx_w3
  have hB := Hand.stepB hb_w3 HB0.out (Nat.le_refl _)
  clear hx_w3 hb_w3
  obtain ⟨z_A, z1_A, z2_A, y0_A, y1_A⟩ := Hand.hz g_A
  obtain ⟨c_A_0, f_A_0, c_A_1, f_A_1, c_A_2, f_A_2⟩ := Hand.hc3 g_A
  obtain ⟨z_X, z1_X, z2_X, y0_X, y1_X⟩ := Hand.hz g_X
  obtain ⟨c_X_0, f_X_0, c_X_1, f_X_1, c_X_2, f_X_2⟩ := Hand.hc3 g_X
  have zw : w.heap.size ≤ w3.heap.size := hB.size
  have HG := Lib.hid (And.intro g_A (And.intro g_X (hB)))
  clear g_A g_X hB
  go_wp2_with fail
  with_reducible refine (M4.out w2 _ _ (Nat.le_refl _) (bk HX.out) (bw HBX.out)).mono ?_
  rintro e w4 ⟨rfl, hx_w4, hb_w4⟩
  clear HX HBX HG zw z_A z1_A z2_A y0_A y1_A c_A_0 f_A_0 c_A_1 f_A_1 c_A_2 f_A_2 z_X z1_X z2_X y0_X y1_X c_X_0 f_X_0 c_X_1 f_X_1 c_X_2 f_X_2
  have HX := Lib.hid hx_w4
  have HBX := Lib.hid hb_w4
  have g_A := Hand.kb hb_w4 GA0.out
  have g_X := hx_w4
  have hB := Hand.stepB hb_w4 HB0.out (Nat.le_refl _)
  clear hx_w4 hb_w4
  obtain ⟨z_A, z1_A, z2_A, y0_A, y1_A⟩ := Hand.hz g_A
  obtain ⟨c_A_0, f_A_0, c_A_1, f_A_1, c_A_2, f_A_2⟩ := Hand.hc3 g_A
  obtain ⟨z_X, z1_X, z2_X, y0_X, y1_X⟩ := Hand.hz g_X
  obtain ⟨c_X_0, f_X_0, c_X_1, f_X_1, c_X_2, f_X_2⟩ := Hand.hc3 g_X
  have zw : w.heap.size ≤ w4.heap.size := hB.size
  have HG := Lib.hid (And.intro g_A (And.intro g_X (hB)))
  clear g_A g_X hB
  go_wp2_with fail
  with_reducible refine (M5.out w2 _ _ (Nat.le_refl _) (bk HX.out) (bw HBX.out)).mono ?_
  rintro e w5 ⟨rfl, hx_w5, hb_w5⟩
  clear HX HBX HG zw z_A z1_A z2_A y0_A y1_A c_A_0 f_A_0 c_A_1 f_A_1 c_A_2 f_A_2 z_X z1_X z2_X y0_X y1_X c_X_0 f_X_0 c_X_1 f_X_1 c_X_2 f_X_2
  have HX := Lib.hid hx_w5
  have HBX := Lib.hid hb_w5
  have g_A := Hand.kb hb_w5 GA0.out
  have g_X := hx_w5
  have hB := Hand.stepB hb_w5 HB0.out (Nat.le_refl _)
  clear hx_w5 hb_w5
  obtain ⟨z_A, z1_A, z2_A, y0_A, y1_A⟩ := Hand.hz g_A
  obtain ⟨c_A_0, f_A_0, c_A_1, f_A_1, c_A_2, f_A_2⟩ := Hand.hc3 g_A
  obtain ⟨z_X, z1_X, z2_X, y0_X, y1_X⟩ := Hand.hz g_X
  obtain ⟨c_X_0, f_X_0, c_X_1, f_X_1, c_X_2, f_X_2⟩ := Hand.hc3 g_X
  have zw : w.heap.size ≤ w5.heap.size := hB.size
  have HG := Lib.hid (And.intro g_A (And.intro g_X (hB)))
  clear g_A g_X hB
  go_wp2_with fail
  with_reducible refine (M6.out w2 _ _ (Nat.le_refl _) (bk HX.out) (bw HBX.out)).mono ?_
  rintro e w6 ⟨rfl, hx_w6, hb_w6⟩
  clear HX HBX HG zw z_A z1_A z2_A y0_A y1_A c_A_0 f_A_0 c_A_1 f_A_1 c_A_2 f_A_2 z_X z1_X z2_X y0_X y1_X c_X_0 f_X_0 c_X_1 f_X_1 c_X_2 f_X_2
  have HX := Lib.hid hx_w6
  have HBX := Lib.hid hb_w6
  have g_A := Hand.kb hb_w6 GA0.out
  have g_X := hx_w6
  have hB := Hand.stepB hb_w6 HB0.out (Nat.le_refl _)
  clear hx_w6 hb_w6
  obtain ⟨z_A, z1_A, z2_A, y0_A, y1_A⟩ := Hand.hz g_A
  obtain ⟨c_A_0, f_A_0, c_A_1, f_A_1, c_A_2, f_A_2⟩ := Hand.hc3 g_A
  obtain ⟨z_X, z1_X, z2_X, y0_X, y1_X⟩ := Hand.hz g_X
  obtain ⟨c_X_0, f_X_0, c_X_1, f_X_1, c_X_2, f_X_2⟩ := Hand.hc3 g_X
  have zw : w.heap.size ≤ w6.heap.size := hB.size
  have HG := Lib.hid (And.intro g_A (And.intro g_X (hB)))
  clear g_A g_X hB
  go_wp2_with fail
  with_reducible refine (M7.out w2 _ _ (Nat.le_refl _) (bk HX.out) (bw HBX.out)).mono ?_
  rintro e w7 ⟨rfl, hx_w7, hb_w7⟩
  clear HX HBX HG zw z_A z1_A z2_A y0_A y1_A c_A_0 f_A_0 c_A_1 f_A_1 c_A_2 f_A_2 z_X z1_X z2_X y0_X y1_X c_X_0 f_X_0 c_X_1 f_X_1 c_X_2 f_X_2
  have HX := Lib.hid hx_w7
  have HBX := Lib.hid hb_w7
  have g_A := Hand.kb hb_w7 GA0.out
  have g_X := hx_w7
  have hB := Hand.stepB hb_w7 HB0.out (Nat.le_refl _)
  clear hx_w7 hb_w7
  obtain ⟨z_A, z1_A, z2_A, y0_A, y1_A⟩ := Hand.hz g_A
  obtain ⟨c_A_0, f_A_0, c_A_1, f_A_1, c_A_2, f_A_2⟩ := Hand.hc3 g_A
  obtain ⟨z_X, z1_X, z2_X, y0_X, y1_X⟩ := Hand.hz g_X
  obtain ⟨c_X_0, f_X_0, c_X_1, f_X_1, c_X_2, f_X_2⟩ := Hand.hc3 g_X
  have zw : w.heap.size ≤ w7.heap.size := hB.size
  have HG := Lib.hid (And.intro g_A (And.intro g_X (hB)))
  clear g_A g_X hB
  go_wp2_with fail
  with_reducible refine (M8.out w2 _ _ (Nat.le_refl _) (bk HX.out) (bw HBX.out)).mono ?_
  rintro e w8 ⟨rfl, hx_w8, hb_w8⟩
  clear HX HBX HG zw z_A z1_A z2_A y0_A y1_A c_A_0 f_A_0 c_A_1 f_A_1 c_A_2 f_A_2 z_X z1_X z2_X y0_X y1_X c_X_0 f_X_0 c_X_1 f_X_1 c_X_2 f_X_2
  have HX := Lib.hid hx_w8
  have HBX := Lib.hid hb_w8
  have g_A := Hand.kb hb_w8 GA0.out
  have g_X := hx_w8
  have hB := Hand.stepB hb_w8 HB0.out (Nat.le_refl _)
  clear hx_w8 hb_w8
  obtain ⟨z_A, z1_A, z2_A, y0_A, y1_A⟩ := Hand.hz g_A
  obtain ⟨c_A_0, f_A_0, c_A_1, f_A_1, c_A_2, f_A_2⟩ := Hand.hc3 g_A
  obtain ⟨z_X, z1_X, z2_X, y0_X, y1_X⟩ := Hand.hz g_X
  obtain ⟨c_X_0, f_X_0, c_X_1, f_X_1, c_X_2, f_X_2⟩ := Hand.hc3 g_X
  have zw : w.heap.size ≤ w8.heap.size := hB.size
  have HG := Lib.hid (And.intro g_A (And.intro g_X (hB)))
  clear g_A g_X hB
  go_wp2_with fail
  with_reducible refine (M9.out _).mono ?_
  rintro e w9 ⟨rfl, hq⟩
  have hx_w9 := Hand.kb hq (bk HX.out)
  have hb_w9 := Hand.stepB hq (bw HBX.out) (Nat.le_refl _)
  clear hq
  clear HX HBX HG zw z_A z1_A z2_A y0_A y1_A c_A_0 f_A_0 c_A_1 f_A_1 c_A_2 f_A_2 z_X z1_X z2_X y0_X y1_X c_X_0 f_X_0 c_X_1 f_X_1 c_X_2 f_X_2
  have HX := Lib.hid hx_w9
  have HBX := Lib.hid hb_w9
  have g_A := Hand.kb hb_w9 GA0.out
  have g_X := hx_w9
  have hB := Hand.stepB hb_w9 HB0.out (Nat.le_refl _)
  clear hx_w9 hb_w9
  obtain ⟨z_A, z1_A, z2_A, y0_A, y1_A⟩ := Hand.hz g_A
  obtain ⟨c_A_0, f_A_0, c_A_1, f_A_1, c_A_2, f_A_2⟩ := Hand.hc3 g_A
  obtain ⟨z_X, z1_X, z2_X, y0_X, y1_X⟩ := Hand.hz g_X
  obtain ⟨c_X_0, f_X_0, c_X_1, f_X_1, c_X_2, f_X_2⟩ := Hand.hc3 g_X
  have zw : w.heap.size ≤ w9.heap.size := hB.size
  have HG := Lib.hid (And.intro g_A (And.intro g_X (hB)))
  clear g_A g_X hB
  go_wp2_with fail
  with_reducible refine (M10.out w2 _ _ (Nat.le_refl _) (bk HX.out) (bw HBX.out)).mono ?_
  rintro e w10 ⟨rfl, hx_w10, hb_w10⟩
  clear HX HBX HG zw z_A z1_A z2_A y0_A y1_A c_A_0 f_A_0 c_A_1 f_A_1 c_A_2 f_A_2 z_X z1_X z2_X y0_X y1_X c_X_0 f_X_0 c_X_1 f_X_1 c_X_2 f_X_2
  have HX := Lib.hid hx_w10
  have HBX := Lib.hid hb_w10
  have g_A := Hand.kb hb_w10 GA0.out
  have g_X := hx_w10
  have hB := Hand.stepB hb_w10 HB0.out (Nat.le_refl _)
  clear hx_w10 hb_w10
  obtain ⟨z_A, z1_A, z2_A, y0_A, y1_A⟩ := Hand.hz g_A
  obtain ⟨c_A_0, f_A_0, c_A_1, f_A_1, c_A_2, f_A_2⟩ := Hand.hc3 g_A
  obtain ⟨z_X, z1_X, z2_X, y0_X, y1_X⟩ := Hand.hz g_X
  obtain ⟨c_X_0, f_X_0, c_X_1, f_X_1, c_X_2, f_X_2⟩ := Hand.hc3 g_X
  have zw : w.heap.size ≤ w10.heap.size := hB.size
  have HG := Lib.hid (And.intro g_A (And.intro g_X (hB)))
  clear g_A g_X hB
  rcases HWAY.out with ⟨rfl, rfl, rfl⟩ | ⟨rfl, hl, rfl, rfl⟩ | ⟨rfl, rfl, hk, rfl, rfl⟩ | ⟨rfl, rfl, f0, f1, h0, h1, hm0, mb, s0, sb, k0, kf, hM, hT, hP, hQ, hE, hN, P0, P1, E0, E1, D0, D1, q1, q2, rfl, rfl, m11⟩ | ⟨rfl, rfl, f0, f1, h0, h1, hm0, mb, s0, sb, k0, kf, hM, hT, hP, hQ, hE, hN, P0, P1, E0, E1, D0, D1, q1, ql, rfl, rfl, m12, m13⟩ | ⟨rfl, rfl, f0, f1, h0, h1, hm0, mb, s0, sb, k0, kf, hM, hT, hP, hQ, hE, hN, P0, P1, E0, E1, D0, D1, q1, ql, rfl, rfl, m12, m13⟩ | ⟨rfl, rfl, f0, f1, h0, h1, hm0, mb, s0, sb, k0, kf, hM, hT, hP, hQ, hE, hN, P0, P1, E0, E1, D0, D1, q1, q2, ql, rfl, rfl, m11, m12, m13⟩ | ⟨rfl, rfl, f0, f1, h0, h1, hm0, mb, s0, sb, k0, kf, hM, hT, hP, hQ, hE, hN, P0, P1, E0, E1, D0, D1, q1, q2, ql, rfl, rfl, m11, m12, m13⟩
  · have W_ := True.intro
    go_wp2
    go_ret2
    obtain ⟨g_A, g_X, hB⟩ := HG.out
    exact ⟨rfl, hB⟩
  · have W_ := True.intro
    have hl2 : ¬ a7 = (L.size : Int) := by simpa using hl
    have hl3 : (a7 != (L.size : Int)) = true := by simpa using hl
    go_wp2
    go_ret2
    obtain ⟨g_A, g_X, hB⟩ := HG.out
    exact ⟨rfl, hB⟩
  · have W_ := True.intro
    go_wp2
    go_ret2
    obtain ⟨g_A, g_X, hB⟩ := HG.out
    exact ⟨rfl, hB⟩
  · have W_ := True.intro
    have M11 := Lib.hid m11
    clear m11
    have M0 : 0 ≤ M := by omega
    have M1' : M ≤ 60000 := by omega
    have T0 : 0 ≤ T := by omega
    have T1 : T ≤ 3600060 := by omega
    have q3 : s = 0 := by simpa using q1
    go_wp2_with fail
    with_reducible refine (M11.out _).mono ?_
    rintro e w11 ⟨rfl, hq⟩
    obtain ⟨g_A, g_X, hB⟩ := HG.out
    have h_A : w11.heap[w.heap.size]? = some (.cells #[.int .i64 n, .int .i64 d, .bool false] 23 (0, 0)) := by
      refine Hand.kb hq ?_; first | with_reducible exact g_A | (simp (disch := first | omega | (simp only [Hand.sa, Hand.ss, Hand.sd, Hand.sn]; first | done | omega)) only [Hand.q2, Hand.q1, Hand.q5, Hand.q6, Hand.q4, Hand.q3, g_A] <;> rfl)
    have h_X : w11.heap[w2.heap.size]? = some (.cells #[.string L, .int .i64 (L.size : Int), .bool false] 111 (0, 0)) := by
      refine Hand.kb hq ?_; simp (disch := first | omega | (simp only [Hand.sa, Hand.ss, Hand.sd, Hand.sn]; first | done | omega)) only [Hand.q2, Hand.q1, Hand.q5, Hand.q6, Hand.q4, Hand.q3, g_X] <;> rfl
    have hB' : Below w.heap.size w w11 := Hand.stepB hq (by repeat (with_reducible first | apply hB | apply Below.drew | apply pw_below_drewN | (apply Below.setCell; rotate_left; (dsimp only; omega)) | (apply Below.alloc; rotate_left; (first | omega | (simp only [Hand.sa, Hand.ss, Hand.sd, Hand.sn]; omega))))) (Nat.le_refl _)
    clear HG hB g_A g_X zw z_A z1_A z2_A y0_A y1_A c_A_0 f_A_0 c_A_1 f_A_1 c_A_2 f_A_2 z_X z1_X z2_X y0_X y1_X c_X_0 f_X_0 c_X_1 f_X_1 c_X_2 f_X_2
    clear hq
    have g_A := h_A
    have g_X := h_X
    have hB := hB'
    clear hB' h_A h_X
    obtain ⟨z_A, z1_A, z2_A, y0_A, y1_A⟩ := Hand.hz g_A
    obtain ⟨c_A_0, f_A_0, c_A_1, f_A_1, c_A_2, f_A_2⟩ := Hand.hc3 g_A
    obtain ⟨z_X, z1_X, z2_X, y0_X, y1_X⟩ := Hand.hz g_X
    obtain ⟨c_X_0, f_X_0, c_X_1, f_X_1, c_X_2, f_X_2⟩ := Hand.hc3 g_X
    have zw : w.heap.size ≤ w11.heap.size := hB.size
    have HG := Lib.hid (And.intro g_A (And.intro g_X (hB)))
    clear g_A g_X hB
    go_wp2
    go_ret2
    obtain ⟨g_A, g_X, hB⟩ := HG.out
    exact ⟨rfl, hB⟩
  · have W_ := True.intro
    have M12 := Lib.hid m12
    have M13 := Lib.hid m13
    clear m12 m13
    have M0 : 0 ≤ M := by omega
    have M1' : M ≤ 60000 := by omega
    have T0 : 0 ≤ T := by omega
    have T1 : T ≤ 3600060 := by omega
    have q3 : ¬ s = 0 := by simpa using q1
    go_wp2_with fail
    with_reducible refine (M12.out _).mono ?_
    rintro e w12 ⟨rfl, hq⟩
    obtain ⟨g_A, g_X, hB⟩ := HG.out
    have h_A : w12.heap[w.heap.size]? = some (.cells #[.int .i64 n, .int .i64 d, .bool false] 23 (0, 0)) := by
      refine Hand.kb hq ?_; first | with_reducible exact g_A | (simp (disch := first | omega | (simp only [Hand.sa, Hand.ss, Hand.sd, Hand.sn]; first | done | omega)) only [Hand.q2, Hand.q1, Hand.q5, Hand.q6, Hand.q4, Hand.q3, g_A] <;> rfl)
    have h_X : w12.heap[w2.heap.size]? = some (.cells #[.string L, .int .i64 (L.size : Int), .bool false] 111 (0, 0)) := by
      refine Hand.kb hq ?_; simp (disch := first | omega | (simp only [Hand.sa, Hand.ss, Hand.sd, Hand.sn]; first | done | omega)) only [Hand.q2, Hand.q1, Hand.q5, Hand.q6, Hand.q4, Hand.q3, g_X] <;> rfl
    have hB' : Below w.heap.size w w12 := Hand.stepB hq (by repeat (with_reducible first | apply hB | apply Below.drew | apply pw_below_drewN | (apply Below.setCell; rotate_left; (dsimp only; omega)) | (apply Below.alloc; rotate_left; (first | omega | (simp only [Hand.sa, Hand.ss, Hand.sd, Hand.sn]; omega))))) (Nat.le_refl _)
    clear HG hB g_A g_X zw z_A z1_A z2_A y0_A y1_A c_A_0 f_A_0 c_A_1 f_A_1 c_A_2 f_A_2 z_X z1_X z2_X y0_X y1_X c_X_0 f_X_0 c_X_1 f_X_1 c_X_2 f_X_2
    clear hq
    have g_A := h_A
    have g_X := h_X
    have hB := hB'
    clear hB' h_A h_X
    obtain ⟨z_A, z1_A, z2_A, y0_A, y1_A⟩ := Hand.hz g_A
    obtain ⟨c_A_0, f_A_0, c_A_1, f_A_1, c_A_2, f_A_2⟩ := Hand.hc3 g_A
    obtain ⟨z_X, z1_X, z2_X, y0_X, y1_X⟩ := Hand.hz g_X
    obtain ⟨c_X_0, f_X_0, c_X_1, f_X_1, c_X_2, f_X_2⟩ := Hand.hc3 g_X
    have zw : w.heap.size ≤ w12.heap.size := hB.size
    have HG := Lib.hid (And.intro g_A (And.intro g_X (hB)))
    clear g_A g_X hB
    go_wp2_with fail
    with_reducible refine (M13.out _).mono ?_
    rintro e w13 ⟨rfl, hq⟩
    obtain ⟨g_A, g_X, hB⟩ := HG.out
    have h_A : w13.heap[w.heap.size]? = some (.cells #[.int .i64 n, .int .i64 d, .bool false] 23 (0, 0)) := by
      refine Hand.kb hq ?_; first | with_reducible exact g_A | (simp (disch := first | omega | (simp only [Hand.sa, Hand.ss, Hand.sd, Hand.sn]; first | done | omega)) only [Hand.q2, Hand.q1, Hand.q5, Hand.q6, Hand.q4, Hand.q3, g_A] <;> rfl)
    have h_X : w13.heap[w2.heap.size]? = some (.cells #[.string L, .int .i64 (L.size : Int), .bool false] 111 (0, 0)) := by
      refine Hand.kb hq ?_; simp (disch := first | omega | (simp only [Hand.sa, Hand.ss, Hand.sd, Hand.sn]; first | done | omega)) only [Hand.q2, Hand.q1, Hand.q5, Hand.q6, Hand.q4, Hand.q3, g_X] <;> rfl
    have hB' : Below w.heap.size w w13 := Hand.stepB hq (by repeat (with_reducible first | apply hB | apply Below.drew | apply pw_below_drewN | (apply Below.setCell; rotate_left; (dsimp only; omega)) | (apply Below.alloc; rotate_left; (first | omega | (simp only [Hand.sa, Hand.ss, Hand.sd, Hand.sn]; omega))))) (Nat.le_refl _)
    clear HG hB g_A g_X zw z_A z1_A z2_A y0_A y1_A c_A_0 f_A_0 c_A_1 f_A_1 c_A_2 f_A_2 z_X z1_X z2_X y0_X y1_X c_X_0 f_X_0 c_X_1 f_X_1 c_X_2 f_X_2
    clear hq
    have g_A := h_A
    have g_X := h_X
    have hB := hB'
    clear hB' h_A h_X
    obtain ⟨z_A, z1_A, z2_A, y0_A, y1_A⟩ := Hand.hz g_A
    obtain ⟨c_A_0, f_A_0, c_A_1, f_A_1, c_A_2, f_A_2⟩ := Hand.hc3 g_A
    obtain ⟨z_X, z1_X, z2_X, y0_X, y1_X⟩ := Hand.hz g_X
    obtain ⟨c_X_0, f_X_0, c_X_1, f_X_1, c_X_2, f_X_2⟩ := Hand.hc3 g_X
    have zw : w.heap.size ≤ w13.heap.size := hB.size
    have HG := Lib.hid (And.intro g_A (And.intro g_X (hB)))
    clear g_A g_X hB
    go_wp2
    go_ret2
    obtain ⟨g_A, g_X, hB⟩ := HG.out
    exact ⟨rfl, hB⟩
  · have W_ := True.intro
    have M12 := Lib.hid m12
    have M13 := Lib.hid m13
    clear m12 m13
    have M0 : 0 ≤ M := by omega
    have M1' : M ≤ 60000 := by omega
    have T0 : 0 ≤ T := by omega
    have T1 : T ≤ 3600060 := by omega
    have q3 : ¬ s = 0 := by simpa using q1
    go_wp2_with fail
    with_reducible refine (M12.out _).mono ?_
    rintro e w12 ⟨rfl, hq⟩
    obtain ⟨g_A, g_X, hB⟩ := HG.out
    have h_A : w12.heap[w.heap.size]? = some (.cells #[.int .i64 n, .int .i64 d, .bool false] 23 (0, 0)) := by
      refine Hand.kb hq ?_; first | with_reducible exact g_A | (simp (disch := first | omega | (simp only [Hand.sa, Hand.ss, Hand.sd, Hand.sn]; first | done | omega)) only [Hand.q2, Hand.q1, Hand.q5, Hand.q6, Hand.q4, Hand.q3, g_A] <;> rfl)
    have h_X : w12.heap[w2.heap.size]? = some (.cells #[.string L, .int .i64 (L.size : Int), .bool false] 111 (0, 0)) := by
      refine Hand.kb hq ?_; simp (disch := first | omega | (simp only [Hand.sa, Hand.ss, Hand.sd, Hand.sn]; first | done | omega)) only [Hand.q2, Hand.q1, Hand.q5, Hand.q6, Hand.q4, Hand.q3, g_X] <;> rfl
    have hB' : Below w.heap.size w w12 := Hand.stepB hq (by repeat (with_reducible first | apply hB | apply Below.drew | apply pw_below_drewN | (apply Below.setCell; rotate_left; (dsimp only; omega)) | (apply Below.alloc; rotate_left; (first | omega | (simp only [Hand.sa, Hand.ss, Hand.sd, Hand.sn]; omega))))) (Nat.le_refl _)
    clear HG hB g_A g_X zw z_A z1_A z2_A y0_A y1_A c_A_0 f_A_0 c_A_1 f_A_1 c_A_2 f_A_2 z_X z1_X z2_X y0_X y1_X c_X_0 f_X_0 c_X_1 f_X_1 c_X_2 f_X_2
    clear hq
    have g_A := h_A
    have g_X := h_X
    have hB := hB'
    clear hB' h_A h_X
    obtain ⟨z_A, z1_A, z2_A, y0_A, y1_A⟩ := Hand.hz g_A
    obtain ⟨c_A_0, f_A_0, c_A_1, f_A_1, c_A_2, f_A_2⟩ := Hand.hc3 g_A
    obtain ⟨z_X, z1_X, z2_X, y0_X, y1_X⟩ := Hand.hz g_X
    obtain ⟨c_X_0, f_X_0, c_X_1, f_X_1, c_X_2, f_X_2⟩ := Hand.hc3 g_X
    have zw : w.heap.size ≤ w12.heap.size := hB.size
    have HG := Lib.hid (And.intro g_A (And.intro g_X (hB)))
    clear g_A g_X hB
    go_wp2_with fail
    with_reducible refine (M13.out _).mono ?_
    rintro e w13 ⟨rfl, hq⟩
    obtain ⟨g_A, g_X, hB⟩ := HG.out
    have h_A : w13.heap[w.heap.size]? = some (.cells #[.int .i64 n, .int .i64 d, .bool false] 23 (0, 0)) := by
      refine Hand.kb hq ?_; first | with_reducible exact g_A | (simp (disch := first | omega | (simp only [Hand.sa, Hand.ss, Hand.sd, Hand.sn]; first | done | omega)) only [Hand.q2, Hand.q1, Hand.q5, Hand.q6, Hand.q4, Hand.q3, g_A] <;> rfl)
    have h_X : w13.heap[w2.heap.size]? = some (.cells #[.string L, .int .i64 (L.size : Int), .bool false] 111 (0, 0)) := by
      refine Hand.kb hq ?_; simp (disch := first | omega | (simp only [Hand.sa, Hand.ss, Hand.sd, Hand.sn]; first | done | omega)) only [Hand.q2, Hand.q1, Hand.q5, Hand.q6, Hand.q4, Hand.q3, g_X] <;> rfl
    have hB' : Below w.heap.size w w13 := Hand.stepB hq (by repeat (with_reducible first | apply hB | apply Below.drew | apply pw_below_drewN | (apply Below.setCell; rotate_left; (dsimp only; omega)) | (apply Below.alloc; rotate_left; (first | omega | (simp only [Hand.sa, Hand.ss, Hand.sd, Hand.sn]; omega))))) (Nat.le_refl _)
    clear HG hB g_A g_X zw z_A z1_A z2_A y0_A y1_A c_A_0 f_A_0 c_A_1 f_A_1 c_A_2 f_A_2 z_X z1_X z2_X y0_X y1_X c_X_0 f_X_0 c_X_1 f_X_1 c_X_2 f_X_2
    clear hq
    have g_A := h_A
    have g_X := h_X
    have hB := hB'
    clear hB' h_A h_X
    obtain ⟨z_A, z1_A, z2_A, y0_A, y1_A⟩ := Hand.hz g_A
    obtain ⟨c_A_0, f_A_0, c_A_1, f_A_1, c_A_2, f_A_2⟩ := Hand.hc3 g_A
    obtain ⟨z_X, z1_X, z2_X, y0_X, y1_X⟩ := Hand.hz g_X
    obtain ⟨c_X_0, f_X_0, c_X_1, f_X_1, c_X_2, f_X_2⟩ := Hand.hc3 g_X
    have zw : w.heap.size ≤ w13.heap.size := hB.size
    have HG := Lib.hid (And.intro g_A (And.intro g_X (hB)))
    clear g_A g_X hB
    go_wp2
    go_ret2
    obtain ⟨g_A, g_X, hB⟩ := HG.out
    exact ⟨rfl, hB⟩
  · have W_ := True.intro
    have M11 := Lib.hid m11
    have M12 := Lib.hid m12
    have M13 := Lib.hid m13
    clear m11 m12 m13
    have M0 : 0 ≤ M := by omega
    have M1' : M ≤ 60000 := by omega
    have T0 : 0 ≤ T := by omega
    have T1 : T ≤ 3600060 := by omega
    have q3 : s = 0 := by simpa using q1
    go_wp2_with fail
    with_reducible refine (M11.out _).mono ?_
    rintro e w11 ⟨rfl, hq⟩
    obtain ⟨g_A, g_X, hB⟩ := HG.out
    have h_A : w11.heap[w.heap.size]? = some (.cells #[.int .i64 n, .int .i64 d, .bool false] 23 (0, 0)) := by
      refine Hand.kb hq ?_; first | with_reducible exact g_A | (simp (disch := first | omega | (simp only [Hand.sa, Hand.ss, Hand.sd, Hand.sn]; first | done | omega)) only [Hand.q2, Hand.q1, Hand.q5, Hand.q6, Hand.q4, Hand.q3, g_A] <;> rfl)
    have h_X : w11.heap[w2.heap.size]? = some (.cells #[.string L, .int .i64 (L.size : Int), .bool false] 111 (0, 0)) := by
      refine Hand.kb hq ?_; simp (disch := first | omega | (simp only [Hand.sa, Hand.ss, Hand.sd, Hand.sn]; first | done | omega)) only [Hand.q2, Hand.q1, Hand.q5, Hand.q6, Hand.q4, Hand.q3, g_X] <;> rfl
    have hB' : Below w.heap.size w w11 := Hand.stepB hq (by repeat (with_reducible first | apply hB | apply Below.drew | apply pw_below_drewN | (apply Below.setCell; rotate_left; (dsimp only; omega)) | (apply Below.alloc; rotate_left; (first | omega | (simp only [Hand.sa, Hand.ss, Hand.sd, Hand.sn]; omega))))) (Nat.le_refl _)
    clear HG hB g_A g_X zw z_A z1_A z2_A y0_A y1_A c_A_0 f_A_0 c_A_1 f_A_1 c_A_2 f_A_2 z_X z1_X z2_X y0_X y1_X c_X_0 f_X_0 c_X_1 f_X_1 c_X_2 f_X_2
    clear hq
    have g_A := h_A
    have g_X := h_X
    have hB := hB'
    clear hB' h_A h_X
    obtain ⟨z_A, z1_A, z2_A, y0_A, y1_A⟩ := Hand.hz g_A
    obtain ⟨c_A_0, f_A_0, c_A_1, f_A_1, c_A_2, f_A_2⟩ := Hand.hc3 g_A
    obtain ⟨z_X, z1_X, z2_X, y0_X, y1_X⟩ := Hand.hz g_X
    obtain ⟨c_X_0, f_X_0, c_X_1, f_X_1, c_X_2, f_X_2⟩ := Hand.hc3 g_X
    have zw : w.heap.size ≤ w11.heap.size := hB.size
    have HG := Lib.hid (And.intro g_A (And.intro g_X (hB)))
    clear g_A g_X hB
    go_wp2_with fail
    with_reducible refine (M12.out _).mono ?_
    rintro e w12 ⟨rfl, hq⟩
    obtain ⟨g_A, g_X, hB⟩ := HG.out
    have h_A : w12.heap[w.heap.size]? = some (.cells #[.int .i64 n, .int .i64 d, .bool false] 23 (0, 0)) := by
      refine Hand.kb hq ?_; first | with_reducible exact g_A | (simp (disch := first | omega | (simp only [Hand.sa, Hand.ss, Hand.sd, Hand.sn]; first | done | omega)) only [Hand.q2, Hand.q1, Hand.q5, Hand.q6, Hand.q4, Hand.q3, g_A] <;> rfl)
    have h_X : w12.heap[w2.heap.size]? = some (.cells #[.string L, .int .i64 (L.size : Int), .bool false] 111 (0, 0)) := by
      refine Hand.kb hq ?_; simp (disch := first | omega | (simp only [Hand.sa, Hand.ss, Hand.sd, Hand.sn]; first | done | omega)) only [Hand.q2, Hand.q1, Hand.q5, Hand.q6, Hand.q4, Hand.q3, g_X] <;> rfl
    have hB' : Below w.heap.size w w12 := Hand.stepB hq (by repeat (with_reducible first | apply hB | apply Below.drew | apply pw_below_drewN | (apply Below.setCell; rotate_left; (dsimp only; omega)) | (apply Below.alloc; rotate_left; (first | omega | (simp only [Hand.sa, Hand.ss, Hand.sd, Hand.sn]; omega))))) (Nat.le_refl _)
    clear HG hB g_A g_X zw z_A z1_A z2_A y0_A y1_A c_A_0 f_A_0 c_A_1 f_A_1 c_A_2 f_A_2 z_X z1_X z2_X y0_X y1_X c_X_0 f_X_0 c_X_1 f_X_1 c_X_2 f_X_2
    clear hq
    have g_A := h_A
    have g_X := h_X
    have hB := hB'
    clear hB' h_A h_X
    obtain ⟨z_A, z1_A, z2_A, y0_A, y1_A⟩ := Hand.hz g_A
    obtain ⟨c_A_0, f_A_0, c_A_1, f_A_1, c_A_2, f_A_2⟩ := Hand.hc3 g_A
    obtain ⟨z_X, z1_X, z2_X, y0_X, y1_X⟩ := Hand.hz g_X
    obtain ⟨c_X_0, f_X_0, c_X_1, f_X_1, c_X_2, f_X_2⟩ := Hand.hc3 g_X
    have zw : w.heap.size ≤ w12.heap.size := hB.size
    have HG := Lib.hid (And.intro g_A (And.intro g_X (hB)))
    clear g_A g_X hB
    go_wp2_with fail
    with_reducible refine (M13.out _).mono ?_
    rintro e w13 ⟨rfl, hq⟩
    obtain ⟨g_A, g_X, hB⟩ := HG.out
    have h_A : w13.heap[w.heap.size]? = some (.cells #[.int .i64 n, .int .i64 d, .bool false] 23 (0, 0)) := by
      refine Hand.kb hq ?_; first | with_reducible exact g_A | (simp (disch := first | omega | (simp only [Hand.sa, Hand.ss, Hand.sd, Hand.sn]; first | done | omega)) only [Hand.q2, Hand.q1, Hand.q5, Hand.q6, Hand.q4, Hand.q3, g_A] <;> rfl)
    have h_X : w13.heap[w2.heap.size]? = some (.cells #[.string L, .int .i64 (L.size : Int), .bool false] 111 (0, 0)) := by
      refine Hand.kb hq ?_; simp (disch := first | omega | (simp only [Hand.sa, Hand.ss, Hand.sd, Hand.sn]; first | done | omega)) only [Hand.q2, Hand.q1, Hand.q5, Hand.q6, Hand.q4, Hand.q3, g_X] <;> rfl
    have hB' : Below w.heap.size w w13 := Hand.stepB hq (by repeat (with_reducible first | apply hB | apply Below.drew | apply pw_below_drewN | (apply Below.setCell; rotate_left; (dsimp only; omega)) | (apply Below.alloc; rotate_left; (first | omega | (simp only [Hand.sa, Hand.ss, Hand.sd, Hand.sn]; omega))))) (Nat.le_refl _)
    clear HG hB g_A g_X zw z_A z1_A z2_A y0_A y1_A c_A_0 f_A_0 c_A_1 f_A_1 c_A_2 f_A_2 z_X z1_X z2_X y0_X y1_X c_X_0 f_X_0 c_X_1 f_X_1 c_X_2 f_X_2
    clear hq
    have g_A := h_A
    have g_X := h_X
    have hB := hB'
    clear hB' h_A h_X
    obtain ⟨z_A, z1_A, z2_A, y0_A, y1_A⟩ := Hand.hz g_A
    obtain ⟨c_A_0, f_A_0, c_A_1, f_A_1, c_A_2, f_A_2⟩ := Hand.hc3 g_A
    obtain ⟨z_X, z1_X, z2_X, y0_X, y1_X⟩ := Hand.hz g_X
    obtain ⟨c_X_0, f_X_0, c_X_1, f_X_1, c_X_2, f_X_2⟩ := Hand.hc3 g_X
    have zw : w.heap.size ≤ w13.heap.size := hB.size
    have HG := Lib.hid (And.intro g_A (And.intro g_X (hB)))
    clear g_A g_X hB
    go_wp2
    go_ret2
    obtain ⟨g_A, g_X, hB⟩ := HG.out
    exact ⟨rfl, hB⟩
  · have W_ := True.intro
    have M11 := Lib.hid m11
    have M12 := Lib.hid m12
    have M13 := Lib.hid m13
    clear m11 m12 m13
    have M0 : 0 ≤ M := by omega
    have M1' : M ≤ 60000 := by omega
    have T0 : 0 ≤ T := by omega
    have T1 : T ≤ 3600060 := by omega
    have q3 : s = 0 := by simpa using q1
    go_wp2_with fail
    with_reducible refine (M11.out _).mono ?_
    rintro e w11 ⟨rfl, hq⟩
    obtain ⟨g_A, g_X, hB⟩ := HG.out
    have h_A : w11.heap[w.heap.size]? = some (.cells #[.int .i64 n, .int .i64 d, .bool false] 23 (0, 0)) := by
      refine Hand.kb hq ?_; first | with_reducible exact g_A | (simp (disch := first | omega | (simp only [Hand.sa, Hand.ss, Hand.sd, Hand.sn]; first | done | omega)) only [Hand.q2, Hand.q1, Hand.q5, Hand.q6, Hand.q4, Hand.q3, g_A] <;> rfl)
    have h_X : w11.heap[w2.heap.size]? = some (.cells #[.string L, .int .i64 (L.size : Int), .bool false] 111 (0, 0)) := by
      refine Hand.kb hq ?_; simp (disch := first | omega | (simp only [Hand.sa, Hand.ss, Hand.sd, Hand.sn]; first | done | omega)) only [Hand.q2, Hand.q1, Hand.q5, Hand.q6, Hand.q4, Hand.q3, g_X] <;> rfl
    have hB' : Below w.heap.size w w11 := Hand.stepB hq (by repeat (with_reducible first | apply hB | apply Below.drew | apply pw_below_drewN | (apply Below.setCell; rotate_left; (dsimp only; omega)) | (apply Below.alloc; rotate_left; (first | omega | (simp only [Hand.sa, Hand.ss, Hand.sd, Hand.sn]; omega))))) (Nat.le_refl _)
    clear HG hB g_A g_X zw z_A z1_A z2_A y0_A y1_A c_A_0 f_A_0 c_A_1 f_A_1 c_A_2 f_A_2 z_X z1_X z2_X y0_X y1_X c_X_0 f_X_0 c_X_1 f_X_1 c_X_2 f_X_2
    clear hq
    have g_A := h_A
    have g_X := h_X
    have hB := hB'
    clear hB' h_A h_X
    obtain ⟨z_A, z1_A, z2_A, y0_A, y1_A⟩ := Hand.hz g_A
    obtain ⟨c_A_0, f_A_0, c_A_1, f_A_1, c_A_2, f_A_2⟩ := Hand.hc3 g_A
    obtain ⟨z_X, z1_X, z2_X, y0_X, y1_X⟩ := Hand.hz g_X
    obtain ⟨c_X_0, f_X_0, c_X_1, f_X_1, c_X_2, f_X_2⟩ := Hand.hc3 g_X
    have zw : w.heap.size ≤ w11.heap.size := hB.size
    have HG := Lib.hid (And.intro g_A (And.intro g_X (hB)))
    clear g_A g_X hB
    go_wp2_with fail
    with_reducible refine (M12.out _).mono ?_
    rintro e w12 ⟨rfl, hq⟩
    obtain ⟨g_A, g_X, hB⟩ := HG.out
    have h_A : w12.heap[w.heap.size]? = some (.cells #[.int .i64 n, .int .i64 d, .bool false] 23 (0, 0)) := by
      refine Hand.kb hq ?_; first | with_reducible exact g_A | (simp (disch := first | omega | (simp only [Hand.sa, Hand.ss, Hand.sd, Hand.sn]; first | done | omega)) only [Hand.q2, Hand.q1, Hand.q5, Hand.q6, Hand.q4, Hand.q3, g_A] <;> rfl)
    have h_X : w12.heap[w2.heap.size]? = some (.cells #[.string L, .int .i64 (L.size : Int), .bool false] 111 (0, 0)) := by
      refine Hand.kb hq ?_; simp (disch := first | omega | (simp only [Hand.sa, Hand.ss, Hand.sd, Hand.sn]; first | done | omega)) only [Hand.q2, Hand.q1, Hand.q5, Hand.q6, Hand.q4, Hand.q3, g_X] <;> rfl
    have hB' : Below w.heap.size w w12 := Hand.stepB hq (by repeat (with_reducible first | apply hB | apply Below.drew | apply pw_below_drewN | (apply Below.setCell; rotate_left; (dsimp only; omega)) | (apply Below.alloc; rotate_left; (first | omega | (simp only [Hand.sa, Hand.ss, Hand.sd, Hand.sn]; omega))))) (Nat.le_refl _)
    clear HG hB g_A g_X zw z_A z1_A z2_A y0_A y1_A c_A_0 f_A_0 c_A_1 f_A_1 c_A_2 f_A_2 z_X z1_X z2_X y0_X y1_X c_X_0 f_X_0 c_X_1 f_X_1 c_X_2 f_X_2
    clear hq
    have g_A := h_A
    have g_X := h_X
    have hB := hB'
    clear hB' h_A h_X
    obtain ⟨z_A, z1_A, z2_A, y0_A, y1_A⟩ := Hand.hz g_A
    obtain ⟨c_A_0, f_A_0, c_A_1, f_A_1, c_A_2, f_A_2⟩ := Hand.hc3 g_A
    obtain ⟨z_X, z1_X, z2_X, y0_X, y1_X⟩ := Hand.hz g_X
    obtain ⟨c_X_0, f_X_0, c_X_1, f_X_1, c_X_2, f_X_2⟩ := Hand.hc3 g_X
    have zw : w.heap.size ≤ w12.heap.size := hB.size
    have HG := Lib.hid (And.intro g_A (And.intro g_X (hB)))
    clear g_A g_X hB
    go_wp2_with fail
    with_reducible refine (M13.out _).mono ?_
    rintro e w13 ⟨rfl, hq⟩
    obtain ⟨g_A, g_X, hB⟩ := HG.out
    have h_A : w13.heap[w.heap.size]? = some (.cells #[.int .i64 n, .int .i64 d, .bool false] 23 (0, 0)) := by
      refine Hand.kb hq ?_; first | with_reducible exact g_A | (simp (disch := first | omega | (simp only [Hand.sa, Hand.ss, Hand.sd, Hand.sn]; first | done | omega)) only [Hand.q2, Hand.q1, Hand.q5, Hand.q6, Hand.q4, Hand.q3, g_A] <;> rfl)
    have h_X : w13.heap[w2.heap.size]? = some (.cells #[.string L, .int .i64 (L.size : Int), .bool false] 111 (0, 0)) := by
      refine Hand.kb hq ?_; simp (disch := first | omega | (simp only [Hand.sa, Hand.ss, Hand.sd, Hand.sn]; first | done | omega)) only [Hand.q2, Hand.q1, Hand.q5, Hand.q6, Hand.q4, Hand.q3, g_X] <;> rfl
    have hB' : Below w.heap.size w w13 := Hand.stepB hq (by repeat (with_reducible first | apply hB | apply Below.drew | apply pw_below_drewN | (apply Below.setCell; rotate_left; (dsimp only; omega)) | (apply Below.alloc; rotate_left; (first | omega | (simp only [Hand.sa, Hand.ss, Hand.sd, Hand.sn]; omega))))) (Nat.le_refl _)
    clear HG hB g_A g_X zw z_A z1_A z2_A y0_A y1_A c_A_0 f_A_0 c_A_1 f_A_1 c_A_2 f_A_2 z_X z1_X z2_X y0_X y1_X c_X_0 f_X_0 c_X_1 f_X_1 c_X_2 f_X_2
    clear hq
    have g_A := h_A
    have g_X := h_X
    have hB := hB'
    clear hB' h_A h_X
    obtain ⟨z_A, z1_A, z2_A, y0_A, y1_A⟩ := Hand.hz g_A
    obtain ⟨c_A_0, f_A_0, c_A_1, f_A_1, c_A_2, f_A_2⟩ := Hand.hc3 g_A
    obtain ⟨z_X, z1_X, z2_X, y0_X, y1_X⟩ := Hand.hz g_X
    obtain ⟨c_X_0, f_X_0, c_X_1, f_X_1, c_X_2, f_X_2⟩ := Hand.hc3 g_X
    have zw : w.heap.size ≤ w13.heap.size := hB.size
    have HG := Lib.hid (And.intro g_A (And.intro g_X (hB)))
    clear g_A g_X hB
    go_wp2
    go_ret2
    obtain ⟨g_A, g_X, hB⟩ := HG.out
    exact ⟨rfl, hB⟩
set_option maxHeartbeats 6000000 in
set_option maxRecDepth 100000 in
theorem rnum_true (rn re o D M T P Q E N l n d f h m s k LW a1 a2 a3 a4 a5 a6 a7 : Int) (b1 b2 b3 b4 b5 b6 b7 : Bool) (L : ByteArray) (hway : ((b7 = true) ∧ (0 = rn) ∧ (13 = re)) ∨ ((b7 = false) ∧ ((a7 == (L.size : Int)) = false) ∧ (0 = rn) ∧ (13 = re)) ∨ ((b7 = false) ∧ (a7 = (L.size : Int)) ∧ (f ≤ k) ∧ (0 = rn) ∧ (13 = re)) ∨ ((b7 = false) ∧ (a7 = (L.size : Int)) ∧ (1 ≤ f) ∧ (f ≤ 240) ∧ (0 ≤ h) ∧ (h ≤ 999) ∧ (0 ≤ m) ∧ (m < 60) ∧ (0 ≤ s) ∧ (s < 60) ∧ (0 ≤ k) ∧ (k < f) ∧ (60 * h + m = M) ∧ (60 * M + s = T) ∧ (60 * M * f = P) ∧ (M - M / 10 = Q) ∧ (D * Q = E) ∧ (P + k - E = N) ∧ (0 ≤ P) ∧ (P ≤ 900000000) ∧ (0 ≤ E) ∧ (E ≤ 900000000) ∧ (0 ≤ D) ∧ (D ≤ 4) ∧ ((s == 0) = true) ∧ (k < o) ∧ (0 = rn) ∧ (15 = re) ∧ (∀ w, Calls Tryz.prog 24 #[rate n d true, .int .i64 m] w fun e w' => e = .returned (.int .i64 o) ∧ Below w.heap.size w w')) ∨ ((b7 = false) ∧ (a7 = (L.size : Int)) ∧ (1 ≤ f) ∧ (f ≤ 240) ∧ (0 ≤ h) ∧ (h ≤ 999) ∧ (0 ≤ m) ∧ (m < 60) ∧ (0 ≤ s) ∧ (s < 60) ∧ (0 ≤ k) ∧ (k < f) ∧ (60 * h + m = M) ∧ (60 * M + s = T) ∧ (T * f = P) ∧ (M - M / 10 = Q) ∧ (D * Q = E) ∧ (P + k - E = N) ∧ (0 ≤ P) ∧ (P ≤ 900000000) ∧ (0 ≤ E) ∧ (E ≤ 900000000) ∧ (0 ≤ D) ∧ (D ≤ 4) ∧ ((s == 0) = false) ∧ (N ≤ l) ∧ (N = rn) ∧ (0 = re) ∧ (∀ w, Calls Tryz.prog 23 #[rate n d true] w fun e w' => e = .returned (.int .i64 D) ∧ Below w.heap.size w w') ∧ (∀ w, Calls Tryz.prog 21 #[rate n d true] w fun e w' => e = .returned (.int .i64 l) ∧ Below w.heap.size w w')) ∨ ((b7 = false) ∧ (a7 = (L.size : Int)) ∧ (1 ≤ f) ∧ (f ≤ 240) ∧ (0 ≤ h) ∧ (h ≤ 999) ∧ (0 ≤ m) ∧ (m < 60) ∧ (0 ≤ s) ∧ (s < 60) ∧ (0 ≤ k) ∧ (k < f) ∧ (60 * h + m = M) ∧ (60 * M + s = T) ∧ (T * f = P) ∧ (M - M / 10 = Q) ∧ (D * Q = E) ∧ (P + k - E = N) ∧ (0 ≤ P) ∧ (P ≤ 900000000) ∧ (0 ≤ E) ∧ (E ≤ 900000000) ∧ (0 ≤ D) ∧ (D ≤ 4) ∧ ((s == 0) = false) ∧ (l < N) ∧ (0 = rn) ∧ (31 = re) ∧ (∀ w, Calls Tryz.prog 23 #[rate n d true] w fun e w' => e = .returned (.int .i64 D) ∧ Below w.heap.size w w') ∧ (∀ w, Calls Tryz.prog 21 #[rate n d true] w fun e w' => e = .returned (.int .i64 l) ∧ Below w.heap.size w w')) ∨ ((b7 = false) ∧ (a7 = (L.size : Int)) ∧ (1 ≤ f) ∧ (f ≤ 240) ∧ (0 ≤ h) ∧ (h ≤ 999) ∧ (0 ≤ m) ∧ (m < 60) ∧ (0 ≤ s) ∧ (s < 60) ∧ (0 ≤ k) ∧ (k < f) ∧ (60 * h + m = M) ∧ (60 * M + s = T) ∧ (60 * M * f = P) ∧ (M - M / 10 = Q) ∧ (D * Q = E) ∧ (P + k - E = N) ∧ (0 ≤ P) ∧ (P ≤ 900000000) ∧ (0 ≤ E) ∧ (E ≤ 900000000) ∧ (0 ≤ D) ∧ (D ≤ 4) ∧ ((s == 0) = true) ∧ (o ≤ k) ∧ (N ≤ l) ∧ (N = rn) ∧ (0 = re) ∧ (∀ w, Calls Tryz.prog 24 #[rate n d true, .int .i64 m] w fun e w' => e = .returned (.int .i64 o) ∧ Below w.heap.size w w') ∧ (∀ w, Calls Tryz.prog 23 #[rate n d true] w fun e w' => e = .returned (.int .i64 D) ∧ Below w.heap.size w w') ∧ (∀ w, Calls Tryz.prog 21 #[rate n d true] w fun e w' => e = .returned (.int .i64 l) ∧ Below w.heap.size w w')) ∨ ((b7 = false) ∧ (a7 = (L.size : Int)) ∧ (1 ≤ f) ∧ (f ≤ 240) ∧ (0 ≤ h) ∧ (h ≤ 999) ∧ (0 ≤ m) ∧ (m < 60) ∧ (0 ≤ s) ∧ (s < 60) ∧ (0 ≤ k) ∧ (k < f) ∧ (60 * h + m = M) ∧ (60 * M + s = T) ∧ (60 * M * f = P) ∧ (M - M / 10 = Q) ∧ (D * Q = E) ∧ (P + k - E = N) ∧ (0 ≤ P) ∧ (P ≤ 900000000) ∧ (0 ≤ E) ∧ (E ≤ 900000000) ∧ (0 ≤ D) ∧ (D ≤ 4) ∧ ((s == 0) = true) ∧ (o ≤ k) ∧ (l < N) ∧ (0 = rn) ∧ (31 = re) ∧ (∀ w, Calls Tryz.prog 24 #[rate n d true, .int .i64 m] w fun e w' => e = .returned (.int .i64 o) ∧ Below w.heap.size w w') ∧ (∀ w, Calls Tryz.prog 23 #[rate n d true] w fun e w' => e = .returned (.int .i64 D) ∧ Below w.heap.size w w') ∧ (∀ w, Calls Tryz.prog 21 #[rate n d true] w fun e w' => e = .returned (.int .i64 l) ∧ Below w.heap.size w w'))) (w : World)
    (m1 : ∀ w, Calls Tryz.prog 16 #[rate n d true] w fun e w' => e = .returned (.int .i64 0) ∧ Below w.heap.size w w')
    (m2 : ∀ w, Calls Tryz.prog 22 #[rate n d true] w fun e w' => e = .returned (.int .i64 f) ∧ Below w.heap.size w w')
    (m3 : ∀ w0 w g, w0.heap.size ≤ g → w.heap[g]? = some (rdr L 0 false) → Below w0.heap.size w0 w → Calls Tryz.prog 79 #[.pointer (some ⟨g, 0, none⟩), .int .i64 2] w fun e w' => e = .returned (.int .i64 h) ∧ RL w0 w' g L a1 b1)
    (m4 : ∀ w0 w g, w0.heap.size ≤ g → w.heap[g]? = some (rdr L a1 b1) → Below w0.heap.size w0 w → Calls Tryz.prog 80 #[.pointer (some ⟨g, 0, none⟩), .int .u8 58] w fun e w' => e = .returned (.tuple #[]) ∧ RL w0 w' g L a2 b2)
    (m5 : ∀ w0 w g, w0.heap.size ≤ g → w.heap[g]? = some (rdr L a2 b2) → Below w0.heap.size w0 w → Calls Tryz.prog 81 #[.pointer (some ⟨g, 0, none⟩)] w fun e w' => e = .returned (.int .i64 m) ∧ RL w0 w' g L a3 b3)
    (m6 : ∀ w0 w g, w0.heap.size ≤ g → w.heap[g]? = some (rdr L a3 b3) → Below w0.heap.size w0 w → Calls Tryz.prog 80 #[.pointer (some ⟨g, 0, none⟩), .int .u8 58] w fun e w' => e = .returned (.tuple #[]) ∧ RL w0 w' g L a4 b4)
    (m7 : ∀ w0 w g, w0.heap.size ≤ g → w.heap[g]? = some (rdr L a4 b4) → Below w0.heap.size w0 w → Calls Tryz.prog 81 #[.pointer (some ⟨g, 0, none⟩)] w fun e w' => e = .returned (.int .i64 s) ∧ RL w0 w' g L a5 b5)
    (m8 : ∀ w0 w g, w0.heap.size ≤ g → w.heap[g]? = some (rdr L a5 b5) → Below w0.heap.size w0 w → Calls Tryz.prog 80 #[.pointer (some ⟨g, 0, none⟩), .int .u8 59] w fun e w' => e = .returned (.tuple #[]) ∧ RL w0 w' g L a6 b6)
    (m9 : ∀ w, Calls Tryz.prog 26 #[.int .i64 f] w fun e w' => e = .returned (.int .i64 LW) ∧ Below w.heap.size w w')
    (m10 : ∀ w0 w g, w0.heap.size ≤ g → w.heap[g]? = some (rdr L a6 b6) → Below w0.heap.size w0 w → Calls Tryz.prog 82 #[.pointer (some ⟨g, 0, none⟩), .int .i64 LW] w fun e w' => e = .returned (.int .i64 k) ∧ RL w0 w' g L a7 b7) :
    Calls Tryz.prog 57 #[rate n d true, .string L] w fun e w' => e = .returned (.tuple #[.int .i64 rn, .int .i64 re]) ∧ Below w.heap.size w w' := by
  have M1 := Lib.hid m1
  have M2 := Lib.hid m2
  have M3 := Lib.hid m3
  have M4 := Lib.hid m4
  have M5 := Lib.hid m5
  have M6 := Lib.hid m6
  have M7 := Lib.hid m7
  have M8 := Lib.hid m8
  have M9 := Lib.hid m9
  have M10 := Lib.hid m10
  have HWAY := Lib.hid hway
  clear m1 m2 m3 m4 m5 m6 m7 m8 m9 m10 hway
  go_enter Tryz.func57, Tryz.ntmps57
  go_wp2_with fail
  with_reducible refine (M1.out _).mono ?_
  rintro e w1 ⟨rfl, hb1⟩
  have h_A : w1.heap[w.heap.size]? = some (.cells #[.int .i64 n, .int .i64 d, .bool true] 23 (0, 0)) := by
    refine Hand.kb hb1 ?_; simp (disch := first | omega | (simp only [Hand.sa, Hand.ss, Hand.sd, Hand.sn]; first | done | omega)) only [Hand.q2, Hand.q1, Hand.q5, Hand.q6, Hand.q4, Hand.q3] <;> rfl
  have hB' : Below w.heap.size w w1 := Hand.stepB hb1 (by repeat (with_reducible first | apply Below.refl _ _ | apply Below.drew | apply pw_below_drewN | (apply Below.setCell; rotate_left; (dsimp only; omega)) | (apply Below.alloc; rotate_left; (first | omega | (simp only [Hand.sa, Hand.ss, Hand.sd, Hand.sn]; omega))))) (Nat.le_refl _)
  clear hb1
  have g_A := h_A
  have hB := hB'
  clear hB' h_A
  obtain ⟨z_A, z1_A, z2_A, y0_A, y1_A⟩ := Hand.hz g_A
  obtain ⟨c_A_0, f_A_0, c_A_1, f_A_1, c_A_2, f_A_2⟩ := Hand.hc3 g_A
  have zw : w.heap.size ≤ w1.heap.size := hB.size
  have HG := Lib.hid (And.intro g_A (hB))
  clear g_A hB
  go_wp2_with fail
  with_reducible refine (M2.out _).mono ?_
  rintro e w2 ⟨rfl, hb2⟩
  obtain ⟨g_A, hB⟩ := HG.out
  have h_A : w2.heap[w.heap.size]? = some (.cells #[.int .i64 n, .int .i64 d, .bool true] 23 (0, 0)) := by
    refine Hand.kb hb2 ?_; first | with_reducible exact g_A | (simp (disch := first | omega | (simp only [Hand.sa, Hand.ss, Hand.sd, Hand.sn]; first | done | omega)) only [Hand.q2, Hand.q1, Hand.q5, Hand.q6, Hand.q4, Hand.q3, g_A] <;> rfl)
  have hB' : Below w.heap.size w w2 := Hand.stepB hb2 (by repeat (with_reducible first | apply hB | apply Below.drew | apply pw_below_drewN | (apply Below.setCell; rotate_left; (dsimp only; omega)) | (apply Below.alloc; rotate_left; (first | omega | (simp only [Hand.sa, Hand.ss, Hand.sd, Hand.sn]; omega))))) (Nat.le_refl _)
  clear HG hB g_A zw z_A z1_A z2_A y0_A y1_A c_A_0 f_A_0 c_A_1 f_A_1 c_A_2 f_A_2
  clear hb2
  have g_A := h_A
  have hB := hB'
  clear hB' h_A
  obtain ⟨z_A, z1_A, z2_A, y0_A, y1_A⟩ := Hand.hz g_A
  obtain ⟨c_A_0, f_A_0, c_A_1, f_A_1, c_A_2, f_A_2⟩ := Hand.hc3 g_A
  have zw : w.heap.size ≤ w2.heap.size := hB.size
  have HG := Lib.hid (And.intro g_A (hB))
  clear g_A hB
  have GA0 := Lib.hid (show w2.heap[w.heap.size]? = some (.cells #[.int .i64 n, .int .i64 d, .bool true] 23 (0, 0)) from HG.out.1)
  have HB0 := Lib.hid (show Below w.heap.size w w2 from HG.out.2)
  go_wp2_with fail
  obtain ⟨W, hW⟩ : ∃ W_, W_ = w2.alloc (rdr L 0 false) := ⟨_, rfl⟩
  rw [← hW]
  have hx_W : W.heap[w2.heap.size]? = some (rdr L 0 false) := by rw [hW]; exact Hand.q3 _ _ _ rfl
  have hb_W : Below w2.heap.size w2 W := by rw [hW]; exact (Below.refl _ _).alloc (Nat.le_refl _) _
  clear hW
  clear HG zw z_A z1_A z2_A y0_A y1_A c_A_0 f_A_0 c_A_1 f_A_1 c_A_2 f_A_2
  have HX := Lib.hid hx_W
  have HBX := Lib.hid hb_W
  have g_A := Hand.kb hb_W GA0.out
  have g_X := hx_W
  have hB := Hand.stepB hb_W HB0.out (Nat.le_refl _)
  clear hx_W hb_W
  obtain ⟨z_A, z1_A, z2_A, y0_A, y1_A⟩ := Hand.hz g_A
  obtain ⟨c_A_0, f_A_0, c_A_1, f_A_1, c_A_2, f_A_2⟩ := Hand.hc3 g_A
  obtain ⟨z_X, z1_X, z2_X, y0_X, y1_X⟩ := Hand.hz g_X
  obtain ⟨c_X_0, f_X_0, c_X_1, f_X_1, c_X_2, f_X_2⟩ := Hand.hc3 g_X
  have zw : w.heap.size ≤ W.heap.size := hB.size
  have HG := Lib.hid (And.intro g_A (And.intro g_X (hB)))
  clear g_A g_X hB
  go_wp2_with fail
  with_reducible refine (M3.out w2 _ _ (Nat.le_refl _) (bk HX.out) (bw HBX.out)).mono ?_
  rintro e w3 ⟨rfl, hx_w3, hb_w3⟩
  clear HX HBX HG zw z_A z1_A z2_A y0_A y1_A c_A_0 f_A_0 c_A_1 f_A_1 c_A_2 f_A_2 z_X z1_X z2_X y0_X y1_X c_X_0 f_X_0 c_X_1 f_X_1 c_X_2 f_X_2
  have HX := Lib.hid hx_w3
  have HBX := Lib.hid hb_w3
  have g_A := Hand.kb hb_w3 GA0.out
  have g_X := hx_w3
  have hB := Hand.stepB hb_w3 HB0.out (Nat.le_refl _)
  clear hx_w3 hb_w3
  obtain ⟨z_A, z1_A, z2_A, y0_A, y1_A⟩ := Hand.hz g_A
  obtain ⟨c_A_0, f_A_0, c_A_1, f_A_1, c_A_2, f_A_2⟩ := Hand.hc3 g_A
  obtain ⟨z_X, z1_X, z2_X, y0_X, y1_X⟩ := Hand.hz g_X
  obtain ⟨c_X_0, f_X_0, c_X_1, f_X_1, c_X_2, f_X_2⟩ := Hand.hc3 g_X
  have zw : w.heap.size ≤ w3.heap.size := hB.size
  have HG := Lib.hid (And.intro g_A (And.intro g_X (hB)))
  clear g_A g_X hB
  go_wp2_with fail
  with_reducible refine (M4.out w2 _ _ (Nat.le_refl _) (bk HX.out) (bw HBX.out)).mono ?_
  rintro e w4 ⟨rfl, hx_w4, hb_w4⟩
  clear HX HBX HG zw z_A z1_A z2_A y0_A y1_A c_A_0 f_A_0 c_A_1 f_A_1 c_A_2 f_A_2 z_X z1_X z2_X y0_X y1_X c_X_0 f_X_0 c_X_1 f_X_1 c_X_2 f_X_2
  have HX := Lib.hid hx_w4
  have HBX := Lib.hid hb_w4
  have g_A := Hand.kb hb_w4 GA0.out
  have g_X := hx_w4
  have hB := Hand.stepB hb_w4 HB0.out (Nat.le_refl _)
  clear hx_w4 hb_w4
  obtain ⟨z_A, z1_A, z2_A, y0_A, y1_A⟩ := Hand.hz g_A
  obtain ⟨c_A_0, f_A_0, c_A_1, f_A_1, c_A_2, f_A_2⟩ := Hand.hc3 g_A
  obtain ⟨z_X, z1_X, z2_X, y0_X, y1_X⟩ := Hand.hz g_X
  obtain ⟨c_X_0, f_X_0, c_X_1, f_X_1, c_X_2, f_X_2⟩ := Hand.hc3 g_X
  have zw : w.heap.size ≤ w4.heap.size := hB.size
  have HG := Lib.hid (And.intro g_A (And.intro g_X (hB)))
  clear g_A g_X hB
  go_wp2_with fail
  with_reducible refine (M5.out w2 _ _ (Nat.le_refl _) (bk HX.out) (bw HBX.out)).mono ?_
  rintro e w5 ⟨rfl, hx_w5, hb_w5⟩
  clear HX HBX HG zw z_A z1_A z2_A y0_A y1_A c_A_0 f_A_0 c_A_1 f_A_1 c_A_2 f_A_2 z_X z1_X z2_X y0_X y1_X c_X_0 f_X_0 c_X_1 f_X_1 c_X_2 f_X_2
  have HX := Lib.hid hx_w5
  have HBX := Lib.hid hb_w5
  have g_A := Hand.kb hb_w5 GA0.out
  have g_X := hx_w5
  have hB := Hand.stepB hb_w5 HB0.out (Nat.le_refl _)
  clear hx_w5 hb_w5
  obtain ⟨z_A, z1_A, z2_A, y0_A, y1_A⟩ := Hand.hz g_A
  obtain ⟨c_A_0, f_A_0, c_A_1, f_A_1, c_A_2, f_A_2⟩ := Hand.hc3 g_A
  obtain ⟨z_X, z1_X, z2_X, y0_X, y1_X⟩ := Hand.hz g_X
  obtain ⟨c_X_0, f_X_0, c_X_1, f_X_1, c_X_2, f_X_2⟩ := Hand.hc3 g_X
  have zw : w.heap.size ≤ w5.heap.size := hB.size
  have HG := Lib.hid (And.intro g_A (And.intro g_X (hB)))
  clear g_A g_X hB
  go_wp2_with fail
  with_reducible refine (M6.out w2 _ _ (Nat.le_refl _) (bk HX.out) (bw HBX.out)).mono ?_
  rintro e w6 ⟨rfl, hx_w6, hb_w6⟩
  clear HX HBX HG zw z_A z1_A z2_A y0_A y1_A c_A_0 f_A_0 c_A_1 f_A_1 c_A_2 f_A_2 z_X z1_X z2_X y0_X y1_X c_X_0 f_X_0 c_X_1 f_X_1 c_X_2 f_X_2
  have HX := Lib.hid hx_w6
  have HBX := Lib.hid hb_w6
  have g_A := Hand.kb hb_w6 GA0.out
  have g_X := hx_w6
  have hB := Hand.stepB hb_w6 HB0.out (Nat.le_refl _)
  clear hx_w6 hb_w6
  obtain ⟨z_A, z1_A, z2_A, y0_A, y1_A⟩ := Hand.hz g_A
  obtain ⟨c_A_0, f_A_0, c_A_1, f_A_1, c_A_2, f_A_2⟩ := Hand.hc3 g_A
  obtain ⟨z_X, z1_X, z2_X, y0_X, y1_X⟩ := Hand.hz g_X
  obtain ⟨c_X_0, f_X_0, c_X_1, f_X_1, c_X_2, f_X_2⟩ := Hand.hc3 g_X
  have zw : w.heap.size ≤ w6.heap.size := hB.size
  have HG := Lib.hid (And.intro g_A (And.intro g_X (hB)))
  clear g_A g_X hB
  go_wp2_with fail
  with_reducible refine (M7.out w2 _ _ (Nat.le_refl _) (bk HX.out) (bw HBX.out)).mono ?_
  rintro e w7 ⟨rfl, hx_w7, hb_w7⟩
  clear HX HBX HG zw z_A z1_A z2_A y0_A y1_A c_A_0 f_A_0 c_A_1 f_A_1 c_A_2 f_A_2 z_X z1_X z2_X y0_X y1_X c_X_0 f_X_0 c_X_1 f_X_1 c_X_2 f_X_2
  have HX := Lib.hid hx_w7
  have HBX := Lib.hid hb_w7
  have g_A := Hand.kb hb_w7 GA0.out
  have g_X := hx_w7
  have hB := Hand.stepB hb_w7 HB0.out (Nat.le_refl _)
  clear hx_w7 hb_w7
  obtain ⟨z_A, z1_A, z2_A, y0_A, y1_A⟩ := Hand.hz g_A
  obtain ⟨c_A_0, f_A_0, c_A_1, f_A_1, c_A_2, f_A_2⟩ := Hand.hc3 g_A
  obtain ⟨z_X, z1_X, z2_X, y0_X, y1_X⟩ := Hand.hz g_X
  obtain ⟨c_X_0, f_X_0, c_X_1, f_X_1, c_X_2, f_X_2⟩ := Hand.hc3 g_X
  have zw : w.heap.size ≤ w7.heap.size := hB.size
  have HG := Lib.hid (And.intro g_A (And.intro g_X (hB)))
  clear g_A g_X hB
  go_wp2_with fail
  with_reducible refine (M8.out w2 _ _ (Nat.le_refl _) (bk HX.out) (bw HBX.out)).mono ?_
  rintro e w8 ⟨rfl, hx_w8, hb_w8⟩
  clear HX HBX HG zw z_A z1_A z2_A y0_A y1_A c_A_0 f_A_0 c_A_1 f_A_1 c_A_2 f_A_2 z_X z1_X z2_X y0_X y1_X c_X_0 f_X_0 c_X_1 f_X_1 c_X_2 f_X_2
  have HX := Lib.hid hx_w8
  have HBX := Lib.hid hb_w8
  have g_A := Hand.kb hb_w8 GA0.out
  have g_X := hx_w8
  have hB := Hand.stepB hb_w8 HB0.out (Nat.le_refl _)
  clear hx_w8 hb_w8
  obtain ⟨z_A, z1_A, z2_A, y0_A, y1_A⟩ := Hand.hz g_A
  obtain ⟨c_A_0, f_A_0, c_A_1, f_A_1, c_A_2, f_A_2⟩ := Hand.hc3 g_A
  obtain ⟨z_X, z1_X, z2_X, y0_X, y1_X⟩ := Hand.hz g_X
  obtain ⟨c_X_0, f_X_0, c_X_1, f_X_1, c_X_2, f_X_2⟩ := Hand.hc3 g_X
  have zw : w.heap.size ≤ w8.heap.size := hB.size
  have HG := Lib.hid (And.intro g_A (And.intro g_X (hB)))
  clear g_A g_X hB
  go_wp2_with fail
  with_reducible refine (M9.out _).mono ?_
  rintro e w9 ⟨rfl, hq⟩
  have hx_w9 := Hand.kb hq (bk HX.out)
  have hb_w9 := Hand.stepB hq (bw HBX.out) (Nat.le_refl _)
  clear hq
  clear HX HBX HG zw z_A z1_A z2_A y0_A y1_A c_A_0 f_A_0 c_A_1 f_A_1 c_A_2 f_A_2 z_X z1_X z2_X y0_X y1_X c_X_0 f_X_0 c_X_1 f_X_1 c_X_2 f_X_2
  have HX := Lib.hid hx_w9
  have HBX := Lib.hid hb_w9
  have g_A := Hand.kb hb_w9 GA0.out
  have g_X := hx_w9
  have hB := Hand.stepB hb_w9 HB0.out (Nat.le_refl _)
  clear hx_w9 hb_w9
  obtain ⟨z_A, z1_A, z2_A, y0_A, y1_A⟩ := Hand.hz g_A
  obtain ⟨c_A_0, f_A_0, c_A_1, f_A_1, c_A_2, f_A_2⟩ := Hand.hc3 g_A
  obtain ⟨z_X, z1_X, z2_X, y0_X, y1_X⟩ := Hand.hz g_X
  obtain ⟨c_X_0, f_X_0, c_X_1, f_X_1, c_X_2, f_X_2⟩ := Hand.hc3 g_X
  have zw : w.heap.size ≤ w9.heap.size := hB.size
  have HG := Lib.hid (And.intro g_A (And.intro g_X (hB)))
  clear g_A g_X hB
  go_wp2_with fail
  with_reducible refine (M10.out w2 _ _ (Nat.le_refl _) (bk HX.out) (bw HBX.out)).mono ?_
  rintro e w10 ⟨rfl, hx_w10, hb_w10⟩
  clear HX HBX HG zw z_A z1_A z2_A y0_A y1_A c_A_0 f_A_0 c_A_1 f_A_1 c_A_2 f_A_2 z_X z1_X z2_X y0_X y1_X c_X_0 f_X_0 c_X_1 f_X_1 c_X_2 f_X_2
  have HX := Lib.hid hx_w10
  have HBX := Lib.hid hb_w10
  have g_A := Hand.kb hb_w10 GA0.out
  have g_X := hx_w10
  have hB := Hand.stepB hb_w10 HB0.out (Nat.le_refl _)
  clear hx_w10 hb_w10
  obtain ⟨z_A, z1_A, z2_A, y0_A, y1_A⟩ := Hand.hz g_A
  obtain ⟨c_A_0, f_A_0, c_A_1, f_A_1, c_A_2, f_A_2⟩ := Hand.hc3 g_A
  obtain ⟨z_X, z1_X, z2_X, y0_X, y1_X⟩ := Hand.hz g_X
  obtain ⟨c_X_0, f_X_0, c_X_1, f_X_1, c_X_2, f_X_2⟩ := Hand.hc3 g_X
  have zw : w.heap.size ≤ w10.heap.size := hB.size
  have HG := Lib.hid (And.intro g_A (And.intro g_X (hB)))
  clear g_A g_X hB
  rcases HWAY.out with ⟨rfl, rfl, rfl⟩ | ⟨rfl, hl, rfl, rfl⟩ | ⟨rfl, rfl, hk, rfl, rfl⟩ | ⟨rfl, rfl, f0, f1, h0, h1, hm0, mb, s0, sb, k0, kf, hM, hT, hP, hQ, hE, hN, P0, P1, E0, E1, D0, D1, q1, q2, rfl, rfl, m11⟩ | ⟨rfl, rfl, f0, f1, h0, h1, hm0, mb, s0, sb, k0, kf, hM, hT, hP, hQ, hE, hN, P0, P1, E0, E1, D0, D1, q1, ql, rfl, rfl, m12, m13⟩ | ⟨rfl, rfl, f0, f1, h0, h1, hm0, mb, s0, sb, k0, kf, hM, hT, hP, hQ, hE, hN, P0, P1, E0, E1, D0, D1, q1, ql, rfl, rfl, m12, m13⟩ | ⟨rfl, rfl, f0, f1, h0, h1, hm0, mb, s0, sb, k0, kf, hM, hT, hP, hQ, hE, hN, P0, P1, E0, E1, D0, D1, q1, q2, ql, rfl, rfl, m11, m12, m13⟩ | ⟨rfl, rfl, f0, f1, h0, h1, hm0, mb, s0, sb, k0, kf, hM, hT, hP, hQ, hE, hN, P0, P1, E0, E1, D0, D1, q1, q2, ql, rfl, rfl, m11, m12, m13⟩
  · have W_ := True.intro
    go_wp2
    go_ret2
    obtain ⟨g_A, g_X, hB⟩ := HG.out
    exact ⟨rfl, hB⟩
  · have W_ := True.intro
    have hl2 : ¬ a7 = (L.size : Int) := by simpa using hl
    have hl3 : (a7 != (L.size : Int)) = true := by simpa using hl
    go_wp2
    go_ret2
    obtain ⟨g_A, g_X, hB⟩ := HG.out
    exact ⟨rfl, hB⟩
  · have W_ := True.intro
    go_wp2
    go_ret2
    obtain ⟨g_A, g_X, hB⟩ := HG.out
    exact ⟨rfl, hB⟩
  · have W_ := True.intro
    have M11 := Lib.hid m11
    clear m11
    have M0 : 0 ≤ M := by omega
    have M1' : M ≤ 60000 := by omega
    have T0 : 0 ≤ T := by omega
    have T1 : T ≤ 3600060 := by omega
    have q3 : s = 0 := by simpa using q1
    go_wp2_with fail
    with_reducible refine (M11.out _).mono ?_
    rintro e w11 ⟨rfl, hq⟩
    obtain ⟨g_A, g_X, hB⟩ := HG.out
    have h_A : w11.heap[w.heap.size]? = some (.cells #[.int .i64 n, .int .i64 d, .bool true] 23 (0, 0)) := by
      refine Hand.kb hq ?_; first | with_reducible exact g_A | (simp (disch := first | omega | (simp only [Hand.sa, Hand.ss, Hand.sd, Hand.sn]; first | done | omega)) only [Hand.q2, Hand.q1, Hand.q5, Hand.q6, Hand.q4, Hand.q3, g_A] <;> rfl)
    have h_X : w11.heap[w2.heap.size]? = some (.cells #[.string L, .int .i64 (L.size : Int), .bool false] 111 (0, 0)) := by
      refine Hand.kb hq ?_; simp (disch := first | omega | (simp only [Hand.sa, Hand.ss, Hand.sd, Hand.sn]; first | done | omega)) only [Hand.q2, Hand.q1, Hand.q5, Hand.q6, Hand.q4, Hand.q3, g_X] <;> rfl
    have hB' : Below w.heap.size w w11 := Hand.stepB hq (by repeat (with_reducible first | apply hB | apply Below.drew | apply pw_below_drewN | (apply Below.setCell; rotate_left; (dsimp only; omega)) | (apply Below.alloc; rotate_left; (first | omega | (simp only [Hand.sa, Hand.ss, Hand.sd, Hand.sn]; omega))))) (Nat.le_refl _)
    clear HG hB g_A g_X zw z_A z1_A z2_A y0_A y1_A c_A_0 f_A_0 c_A_1 f_A_1 c_A_2 f_A_2 z_X z1_X z2_X y0_X y1_X c_X_0 f_X_0 c_X_1 f_X_1 c_X_2 f_X_2
    clear hq
    have g_A := h_A
    have g_X := h_X
    have hB := hB'
    clear hB' h_A h_X
    obtain ⟨z_A, z1_A, z2_A, y0_A, y1_A⟩ := Hand.hz g_A
    obtain ⟨c_A_0, f_A_0, c_A_1, f_A_1, c_A_2, f_A_2⟩ := Hand.hc3 g_A
    obtain ⟨z_X, z1_X, z2_X, y0_X, y1_X⟩ := Hand.hz g_X
    obtain ⟨c_X_0, f_X_0, c_X_1, f_X_1, c_X_2, f_X_2⟩ := Hand.hc3 g_X
    have zw : w.heap.size ≤ w11.heap.size := hB.size
    have HG := Lib.hid (And.intro g_A (And.intro g_X (hB)))
    clear g_A g_X hB
    go_wp2
    go_ret2
    obtain ⟨g_A, g_X, hB⟩ := HG.out
    exact ⟨rfl, hB⟩
  · have W_ := True.intro
    have M12 := Lib.hid m12
    have M13 := Lib.hid m13
    clear m12 m13
    have M0 : 0 ≤ M := by omega
    have M1' : M ≤ 60000 := by omega
    have T0 : 0 ≤ T := by omega
    have T1 : T ≤ 3600060 := by omega
    have q3 : ¬ s = 0 := by simpa using q1
    go_wp2_with fail
    with_reducible refine (M12.out _).mono ?_
    rintro e w12 ⟨rfl, hq⟩
    obtain ⟨g_A, g_X, hB⟩ := HG.out
    have h_A : w12.heap[w.heap.size]? = some (.cells #[.int .i64 n, .int .i64 d, .bool true] 23 (0, 0)) := by
      refine Hand.kb hq ?_; first | with_reducible exact g_A | (simp (disch := first | omega | (simp only [Hand.sa, Hand.ss, Hand.sd, Hand.sn]; first | done | omega)) only [Hand.q2, Hand.q1, Hand.q5, Hand.q6, Hand.q4, Hand.q3, g_A] <;> rfl)
    have h_X : w12.heap[w2.heap.size]? = some (.cells #[.string L, .int .i64 (L.size : Int), .bool false] 111 (0, 0)) := by
      refine Hand.kb hq ?_; simp (disch := first | omega | (simp only [Hand.sa, Hand.ss, Hand.sd, Hand.sn]; first | done | omega)) only [Hand.q2, Hand.q1, Hand.q5, Hand.q6, Hand.q4, Hand.q3, g_X] <;> rfl
    have hB' : Below w.heap.size w w12 := Hand.stepB hq (by repeat (with_reducible first | apply hB | apply Below.drew | apply pw_below_drewN | (apply Below.setCell; rotate_left; (dsimp only; omega)) | (apply Below.alloc; rotate_left; (first | omega | (simp only [Hand.sa, Hand.ss, Hand.sd, Hand.sn]; omega))))) (Nat.le_refl _)
    clear HG hB g_A g_X zw z_A z1_A z2_A y0_A y1_A c_A_0 f_A_0 c_A_1 f_A_1 c_A_2 f_A_2 z_X z1_X z2_X y0_X y1_X c_X_0 f_X_0 c_X_1 f_X_1 c_X_2 f_X_2
    clear hq
    have g_A := h_A
    have g_X := h_X
    have hB := hB'
    clear hB' h_A h_X
    obtain ⟨z_A, z1_A, z2_A, y0_A, y1_A⟩ := Hand.hz g_A
    obtain ⟨c_A_0, f_A_0, c_A_1, f_A_1, c_A_2, f_A_2⟩ := Hand.hc3 g_A
    obtain ⟨z_X, z1_X, z2_X, y0_X, y1_X⟩ := Hand.hz g_X
    obtain ⟨c_X_0, f_X_0, c_X_1, f_X_1, c_X_2, f_X_2⟩ := Hand.hc3 g_X
    have zw : w.heap.size ≤ w12.heap.size := hB.size
    have HG := Lib.hid (And.intro g_A (And.intro g_X (hB)))
    clear g_A g_X hB
    go_wp2_with fail
    with_reducible refine (M13.out _).mono ?_
    rintro e w13 ⟨rfl, hq⟩
    obtain ⟨g_A, g_X, hB⟩ := HG.out
    have h_A : w13.heap[w.heap.size]? = some (.cells #[.int .i64 n, .int .i64 d, .bool true] 23 (0, 0)) := by
      refine Hand.kb hq ?_; first | with_reducible exact g_A | (simp (disch := first | omega | (simp only [Hand.sa, Hand.ss, Hand.sd, Hand.sn]; first | done | omega)) only [Hand.q2, Hand.q1, Hand.q5, Hand.q6, Hand.q4, Hand.q3, g_A] <;> rfl)
    have h_X : w13.heap[w2.heap.size]? = some (.cells #[.string L, .int .i64 (L.size : Int), .bool false] 111 (0, 0)) := by
      refine Hand.kb hq ?_; simp (disch := first | omega | (simp only [Hand.sa, Hand.ss, Hand.sd, Hand.sn]; first | done | omega)) only [Hand.q2, Hand.q1, Hand.q5, Hand.q6, Hand.q4, Hand.q3, g_X] <;> rfl
    have hB' : Below w.heap.size w w13 := Hand.stepB hq (by repeat (with_reducible first | apply hB | apply Below.drew | apply pw_below_drewN | (apply Below.setCell; rotate_left; (dsimp only; omega)) | (apply Below.alloc; rotate_left; (first | omega | (simp only [Hand.sa, Hand.ss, Hand.sd, Hand.sn]; omega))))) (Nat.le_refl _)
    clear HG hB g_A g_X zw z_A z1_A z2_A y0_A y1_A c_A_0 f_A_0 c_A_1 f_A_1 c_A_2 f_A_2 z_X z1_X z2_X y0_X y1_X c_X_0 f_X_0 c_X_1 f_X_1 c_X_2 f_X_2
    clear hq
    have g_A := h_A
    have g_X := h_X
    have hB := hB'
    clear hB' h_A h_X
    obtain ⟨z_A, z1_A, z2_A, y0_A, y1_A⟩ := Hand.hz g_A
    obtain ⟨c_A_0, f_A_0, c_A_1, f_A_1, c_A_2, f_A_2⟩ := Hand.hc3 g_A
    obtain ⟨z_X, z1_X, z2_X, y0_X, y1_X⟩ := Hand.hz g_X
    obtain ⟨c_X_0, f_X_0, c_X_1, f_X_1, c_X_2, f_X_2⟩ := Hand.hc3 g_X
    have zw : w.heap.size ≤ w13.heap.size := hB.size
    have HG := Lib.hid (And.intro g_A (And.intro g_X (hB)))
    clear g_A g_X hB
    go_wp2
    go_ret2
    obtain ⟨g_A, g_X, hB⟩ := HG.out
    exact ⟨rfl, hB⟩
  · have W_ := True.intro
    have M12 := Lib.hid m12
    have M13 := Lib.hid m13
    clear m12 m13
    have M0 : 0 ≤ M := by omega
    have M1' : M ≤ 60000 := by omega
    have T0 : 0 ≤ T := by omega
    have T1 : T ≤ 3600060 := by omega
    have q3 : ¬ s = 0 := by simpa using q1
    go_wp2_with fail
    with_reducible refine (M12.out _).mono ?_
    rintro e w12 ⟨rfl, hq⟩
    obtain ⟨g_A, g_X, hB⟩ := HG.out
    have h_A : w12.heap[w.heap.size]? = some (.cells #[.int .i64 n, .int .i64 d, .bool true] 23 (0, 0)) := by
      refine Hand.kb hq ?_; first | with_reducible exact g_A | (simp (disch := first | omega | (simp only [Hand.sa, Hand.ss, Hand.sd, Hand.sn]; first | done | omega)) only [Hand.q2, Hand.q1, Hand.q5, Hand.q6, Hand.q4, Hand.q3, g_A] <;> rfl)
    have h_X : w12.heap[w2.heap.size]? = some (.cells #[.string L, .int .i64 (L.size : Int), .bool false] 111 (0, 0)) := by
      refine Hand.kb hq ?_; simp (disch := first | omega | (simp only [Hand.sa, Hand.ss, Hand.sd, Hand.sn]; first | done | omega)) only [Hand.q2, Hand.q1, Hand.q5, Hand.q6, Hand.q4, Hand.q3, g_X] <;> rfl
    have hB' : Below w.heap.size w w12 := Hand.stepB hq (by repeat (with_reducible first | apply hB | apply Below.drew | apply pw_below_drewN | (apply Below.setCell; rotate_left; (dsimp only; omega)) | (apply Below.alloc; rotate_left; (first | omega | (simp only [Hand.sa, Hand.ss, Hand.sd, Hand.sn]; omega))))) (Nat.le_refl _)
    clear HG hB g_A g_X zw z_A z1_A z2_A y0_A y1_A c_A_0 f_A_0 c_A_1 f_A_1 c_A_2 f_A_2 z_X z1_X z2_X y0_X y1_X c_X_0 f_X_0 c_X_1 f_X_1 c_X_2 f_X_2
    clear hq
    have g_A := h_A
    have g_X := h_X
    have hB := hB'
    clear hB' h_A h_X
    obtain ⟨z_A, z1_A, z2_A, y0_A, y1_A⟩ := Hand.hz g_A
    obtain ⟨c_A_0, f_A_0, c_A_1, f_A_1, c_A_2, f_A_2⟩ := Hand.hc3 g_A
    obtain ⟨z_X, z1_X, z2_X, y0_X, y1_X⟩ := Hand.hz g_X
    obtain ⟨c_X_0, f_X_0, c_X_1, f_X_1, c_X_2, f_X_2⟩ := Hand.hc3 g_X
    have zw : w.heap.size ≤ w12.heap.size := hB.size
    have HG := Lib.hid (And.intro g_A (And.intro g_X (hB)))
    clear g_A g_X hB
    go_wp2_with fail
    with_reducible refine (M13.out _).mono ?_
    rintro e w13 ⟨rfl, hq⟩
    obtain ⟨g_A, g_X, hB⟩ := HG.out
    have h_A : w13.heap[w.heap.size]? = some (.cells #[.int .i64 n, .int .i64 d, .bool true] 23 (0, 0)) := by
      refine Hand.kb hq ?_; first | with_reducible exact g_A | (simp (disch := first | omega | (simp only [Hand.sa, Hand.ss, Hand.sd, Hand.sn]; first | done | omega)) only [Hand.q2, Hand.q1, Hand.q5, Hand.q6, Hand.q4, Hand.q3, g_A] <;> rfl)
    have h_X : w13.heap[w2.heap.size]? = some (.cells #[.string L, .int .i64 (L.size : Int), .bool false] 111 (0, 0)) := by
      refine Hand.kb hq ?_; simp (disch := first | omega | (simp only [Hand.sa, Hand.ss, Hand.sd, Hand.sn]; first | done | omega)) only [Hand.q2, Hand.q1, Hand.q5, Hand.q6, Hand.q4, Hand.q3, g_X] <;> rfl
    have hB' : Below w.heap.size w w13 := Hand.stepB hq (by repeat (with_reducible first | apply hB | apply Below.drew | apply pw_below_drewN | (apply Below.setCell; rotate_left; (dsimp only; omega)) | (apply Below.alloc; rotate_left; (first | omega | (simp only [Hand.sa, Hand.ss, Hand.sd, Hand.sn]; omega))))) (Nat.le_refl _)
    clear HG hB g_A g_X zw z_A z1_A z2_A y0_A y1_A c_A_0 f_A_0 c_A_1 f_A_1 c_A_2 f_A_2 z_X z1_X z2_X y0_X y1_X c_X_0 f_X_0 c_X_1 f_X_1 c_X_2 f_X_2
    clear hq
    have g_A := h_A
    have g_X := h_X
    have hB := hB'
    clear hB' h_A h_X
    obtain ⟨z_A, z1_A, z2_A, y0_A, y1_A⟩ := Hand.hz g_A
    obtain ⟨c_A_0, f_A_0, c_A_1, f_A_1, c_A_2, f_A_2⟩ := Hand.hc3 g_A
    obtain ⟨z_X, z1_X, z2_X, y0_X, y1_X⟩ := Hand.hz g_X
    obtain ⟨c_X_0, f_X_0, c_X_1, f_X_1, c_X_2, f_X_2⟩ := Hand.hc3 g_X
    have zw : w.heap.size ≤ w13.heap.size := hB.size
    have HG := Lib.hid (And.intro g_A (And.intro g_X (hB)))
    clear g_A g_X hB
    go_wp2
    go_ret2
    obtain ⟨g_A, g_X, hB⟩ := HG.out
    exact ⟨rfl, hB⟩
  · have W_ := True.intro
    have M11 := Lib.hid m11
    have M12 := Lib.hid m12
    have M13 := Lib.hid m13
    clear m11 m12 m13
    have M0 : 0 ≤ M := by omega
    have M1' : M ≤ 60000 := by omega
    have T0 : 0 ≤ T := by omega
    have T1 : T ≤ 3600060 := by omega
    have q3 : s = 0 := by simpa using q1
    go_wp2_with fail
    with_reducible refine (M11.out _).mono ?_
    rintro e w11 ⟨rfl, hq⟩
    obtain ⟨g_A, g_X, hB⟩ := HG.out
    have h_A : w11.heap[w.heap.size]? = some (.cells #[.int .i64 n, .int .i64 d, .bool true] 23 (0, 0)) := by
      refine Hand.kb hq ?_; first | with_reducible exact g_A | (simp (disch := first | omega | (simp only [Hand.sa, Hand.ss, Hand.sd, Hand.sn]; first | done | omega)) only [Hand.q2, Hand.q1, Hand.q5, Hand.q6, Hand.q4, Hand.q3, g_A] <;> rfl)
    have h_X : w11.heap[w2.heap.size]? = some (.cells #[.string L, .int .i64 (L.size : Int), .bool false] 111 (0, 0)) := by
      refine Hand.kb hq ?_; simp (disch := first | omega | (simp only [Hand.sa, Hand.ss, Hand.sd, Hand.sn]; first | done | omega)) only [Hand.q2, Hand.q1, Hand.q5, Hand.q6, Hand.q4, Hand.q3, g_X] <;> rfl
    have hB' : Below w.heap.size w w11 := Hand.stepB hq (by repeat (with_reducible first | apply hB | apply Below.drew | apply pw_below_drewN | (apply Below.setCell; rotate_left; (dsimp only; omega)) | (apply Below.alloc; rotate_left; (first | omega | (simp only [Hand.sa, Hand.ss, Hand.sd, Hand.sn]; omega))))) (Nat.le_refl _)
    clear HG hB g_A g_X zw z_A z1_A z2_A y0_A y1_A c_A_0 f_A_0 c_A_1 f_A_1 c_A_2 f_A_2 z_X z1_X z2_X y0_X y1_X c_X_0 f_X_0 c_X_1 f_X_1 c_X_2 f_X_2
    clear hq
    have g_A := h_A
    have g_X := h_X
    have hB := hB'
    clear hB' h_A h_X
    obtain ⟨z_A, z1_A, z2_A, y0_A, y1_A⟩ := Hand.hz g_A
    obtain ⟨c_A_0, f_A_0, c_A_1, f_A_1, c_A_2, f_A_2⟩ := Hand.hc3 g_A
    obtain ⟨z_X, z1_X, z2_X, y0_X, y1_X⟩ := Hand.hz g_X
    obtain ⟨c_X_0, f_X_0, c_X_1, f_X_1, c_X_2, f_X_2⟩ := Hand.hc3 g_X
    have zw : w.heap.size ≤ w11.heap.size := hB.size
    have HG := Lib.hid (And.intro g_A (And.intro g_X (hB)))
    clear g_A g_X hB
    go_wp2_with fail
    with_reducible refine (M12.out _).mono ?_
    rintro e w12 ⟨rfl, hq⟩
    obtain ⟨g_A, g_X, hB⟩ := HG.out
    have h_A : w12.heap[w.heap.size]? = some (.cells #[.int .i64 n, .int .i64 d, .bool true] 23 (0, 0)) := by
      refine Hand.kb hq ?_; first | with_reducible exact g_A | (simp (disch := first | omega | (simp only [Hand.sa, Hand.ss, Hand.sd, Hand.sn]; first | done | omega)) only [Hand.q2, Hand.q1, Hand.q5, Hand.q6, Hand.q4, Hand.q3, g_A] <;> rfl)
    have h_X : w12.heap[w2.heap.size]? = some (.cells #[.string L, .int .i64 (L.size : Int), .bool false] 111 (0, 0)) := by
      refine Hand.kb hq ?_; simp (disch := first | omega | (simp only [Hand.sa, Hand.ss, Hand.sd, Hand.sn]; first | done | omega)) only [Hand.q2, Hand.q1, Hand.q5, Hand.q6, Hand.q4, Hand.q3, g_X] <;> rfl
    have hB' : Below w.heap.size w w12 := Hand.stepB hq (by repeat (with_reducible first | apply hB | apply Below.drew | apply pw_below_drewN | (apply Below.setCell; rotate_left; (dsimp only; omega)) | (apply Below.alloc; rotate_left; (first | omega | (simp only [Hand.sa, Hand.ss, Hand.sd, Hand.sn]; omega))))) (Nat.le_refl _)
    clear HG hB g_A g_X zw z_A z1_A z2_A y0_A y1_A c_A_0 f_A_0 c_A_1 f_A_1 c_A_2 f_A_2 z_X z1_X z2_X y0_X y1_X c_X_0 f_X_0 c_X_1 f_X_1 c_X_2 f_X_2
    clear hq
    have g_A := h_A
    have g_X := h_X
    have hB := hB'
    clear hB' h_A h_X
    obtain ⟨z_A, z1_A, z2_A, y0_A, y1_A⟩ := Hand.hz g_A
    obtain ⟨c_A_0, f_A_0, c_A_1, f_A_1, c_A_2, f_A_2⟩ := Hand.hc3 g_A
    obtain ⟨z_X, z1_X, z2_X, y0_X, y1_X⟩ := Hand.hz g_X
    obtain ⟨c_X_0, f_X_0, c_X_1, f_X_1, c_X_2, f_X_2⟩ := Hand.hc3 g_X
    have zw : w.heap.size ≤ w12.heap.size := hB.size
    have HG := Lib.hid (And.intro g_A (And.intro g_X (hB)))
    clear g_A g_X hB
    go_wp2_with fail
    with_reducible refine (M13.out _).mono ?_
    rintro e w13 ⟨rfl, hq⟩
    obtain ⟨g_A, g_X, hB⟩ := HG.out
    have h_A : w13.heap[w.heap.size]? = some (.cells #[.int .i64 n, .int .i64 d, .bool true] 23 (0, 0)) := by
      refine Hand.kb hq ?_; first | with_reducible exact g_A | (simp (disch := first | omega | (simp only [Hand.sa, Hand.ss, Hand.sd, Hand.sn]; first | done | omega)) only [Hand.q2, Hand.q1, Hand.q5, Hand.q6, Hand.q4, Hand.q3, g_A] <;> rfl)
    have h_X : w13.heap[w2.heap.size]? = some (.cells #[.string L, .int .i64 (L.size : Int), .bool false] 111 (0, 0)) := by
      refine Hand.kb hq ?_; simp (disch := first | omega | (simp only [Hand.sa, Hand.ss, Hand.sd, Hand.sn]; first | done | omega)) only [Hand.q2, Hand.q1, Hand.q5, Hand.q6, Hand.q4, Hand.q3, g_X] <;> rfl
    have hB' : Below w.heap.size w w13 := Hand.stepB hq (by repeat (with_reducible first | apply hB | apply Below.drew | apply pw_below_drewN | (apply Below.setCell; rotate_left; (dsimp only; omega)) | (apply Below.alloc; rotate_left; (first | omega | (simp only [Hand.sa, Hand.ss, Hand.sd, Hand.sn]; omega))))) (Nat.le_refl _)
    clear HG hB g_A g_X zw z_A z1_A z2_A y0_A y1_A c_A_0 f_A_0 c_A_1 f_A_1 c_A_2 f_A_2 z_X z1_X z2_X y0_X y1_X c_X_0 f_X_0 c_X_1 f_X_1 c_X_2 f_X_2
    clear hq
    have g_A := h_A
    have g_X := h_X
    have hB := hB'
    clear hB' h_A h_X
    obtain ⟨z_A, z1_A, z2_A, y0_A, y1_A⟩ := Hand.hz g_A
    obtain ⟨c_A_0, f_A_0, c_A_1, f_A_1, c_A_2, f_A_2⟩ := Hand.hc3 g_A
    obtain ⟨z_X, z1_X, z2_X, y0_X, y1_X⟩ := Hand.hz g_X
    obtain ⟨c_X_0, f_X_0, c_X_1, f_X_1, c_X_2, f_X_2⟩ := Hand.hc3 g_X
    have zw : w.heap.size ≤ w13.heap.size := hB.size
    have HG := Lib.hid (And.intro g_A (And.intro g_X (hB)))
    clear g_A g_X hB
    go_wp2
    go_ret2
    obtain ⟨g_A, g_X, hB⟩ := HG.out
    exact ⟨rfl, hB⟩
  · have W_ := True.intro
    have M11 := Lib.hid m11
    have M12 := Lib.hid m12
    have M13 := Lib.hid m13
    clear m11 m12 m13
    have M0 : 0 ≤ M := by omega
    have M1' : M ≤ 60000 := by omega
    have T0 : 0 ≤ T := by omega
    have T1 : T ≤ 3600060 := by omega
    have q3 : s = 0 := by simpa using q1
    go_wp2_with fail
    with_reducible refine (M11.out _).mono ?_
    rintro e w11 ⟨rfl, hq⟩
    obtain ⟨g_A, g_X, hB⟩ := HG.out
    have h_A : w11.heap[w.heap.size]? = some (.cells #[.int .i64 n, .int .i64 d, .bool true] 23 (0, 0)) := by
      refine Hand.kb hq ?_; first | with_reducible exact g_A | (simp (disch := first | omega | (simp only [Hand.sa, Hand.ss, Hand.sd, Hand.sn]; first | done | omega)) only [Hand.q2, Hand.q1, Hand.q5, Hand.q6, Hand.q4, Hand.q3, g_A] <;> rfl)
    have h_X : w11.heap[w2.heap.size]? = some (.cells #[.string L, .int .i64 (L.size : Int), .bool false] 111 (0, 0)) := by
      refine Hand.kb hq ?_; simp (disch := first | omega | (simp only [Hand.sa, Hand.ss, Hand.sd, Hand.sn]; first | done | omega)) only [Hand.q2, Hand.q1, Hand.q5, Hand.q6, Hand.q4, Hand.q3, g_X] <;> rfl
    have hB' : Below w.heap.size w w11 := Hand.stepB hq (by repeat (with_reducible first | apply hB | apply Below.drew | apply pw_below_drewN | (apply Below.setCell; rotate_left; (dsimp only; omega)) | (apply Below.alloc; rotate_left; (first | omega | (simp only [Hand.sa, Hand.ss, Hand.sd, Hand.sn]; omega))))) (Nat.le_refl _)
    clear HG hB g_A g_X zw z_A z1_A z2_A y0_A y1_A c_A_0 f_A_0 c_A_1 f_A_1 c_A_2 f_A_2 z_X z1_X z2_X y0_X y1_X c_X_0 f_X_0 c_X_1 f_X_1 c_X_2 f_X_2
    clear hq
    have g_A := h_A
    have g_X := h_X
    have hB := hB'
    clear hB' h_A h_X
    obtain ⟨z_A, z1_A, z2_A, y0_A, y1_A⟩ := Hand.hz g_A
    obtain ⟨c_A_0, f_A_0, c_A_1, f_A_1, c_A_2, f_A_2⟩ := Hand.hc3 g_A
    obtain ⟨z_X, z1_X, z2_X, y0_X, y1_X⟩ := Hand.hz g_X
    obtain ⟨c_X_0, f_X_0, c_X_1, f_X_1, c_X_2, f_X_2⟩ := Hand.hc3 g_X
    have zw : w.heap.size ≤ w11.heap.size := hB.size
    have HG := Lib.hid (And.intro g_A (And.intro g_X (hB)))
    clear g_A g_X hB
    go_wp2_with fail
    with_reducible refine (M12.out _).mono ?_
    rintro e w12 ⟨rfl, hq⟩
    obtain ⟨g_A, g_X, hB⟩ := HG.out
    have h_A : w12.heap[w.heap.size]? = some (.cells #[.int .i64 n, .int .i64 d, .bool true] 23 (0, 0)) := by
      refine Hand.kb hq ?_; first | with_reducible exact g_A | (simp (disch := first | omega | (simp only [Hand.sa, Hand.ss, Hand.sd, Hand.sn]; first | done | omega)) only [Hand.q2, Hand.q1, Hand.q5, Hand.q6, Hand.q4, Hand.q3, g_A] <;> rfl)
    have h_X : w12.heap[w2.heap.size]? = some (.cells #[.string L, .int .i64 (L.size : Int), .bool false] 111 (0, 0)) := by
      refine Hand.kb hq ?_; simp (disch := first | omega | (simp only [Hand.sa, Hand.ss, Hand.sd, Hand.sn]; first | done | omega)) only [Hand.q2, Hand.q1, Hand.q5, Hand.q6, Hand.q4, Hand.q3, g_X] <;> rfl
    have hB' : Below w.heap.size w w12 := Hand.stepB hq (by repeat (with_reducible first | apply hB | apply Below.drew | apply pw_below_drewN | (apply Below.setCell; rotate_left; (dsimp only; omega)) | (apply Below.alloc; rotate_left; (first | omega | (simp only [Hand.sa, Hand.ss, Hand.sd, Hand.sn]; omega))))) (Nat.le_refl _)
    clear HG hB g_A g_X zw z_A z1_A z2_A y0_A y1_A c_A_0 f_A_0 c_A_1 f_A_1 c_A_2 f_A_2 z_X z1_X z2_X y0_X y1_X c_X_0 f_X_0 c_X_1 f_X_1 c_X_2 f_X_2
    clear hq
    have g_A := h_A
    have g_X := h_X
    have hB := hB'
    clear hB' h_A h_X
    obtain ⟨z_A, z1_A, z2_A, y0_A, y1_A⟩ := Hand.hz g_A
    obtain ⟨c_A_0, f_A_0, c_A_1, f_A_1, c_A_2, f_A_2⟩ := Hand.hc3 g_A
    obtain ⟨z_X, z1_X, z2_X, y0_X, y1_X⟩ := Hand.hz g_X
    obtain ⟨c_X_0, f_X_0, c_X_1, f_X_1, c_X_2, f_X_2⟩ := Hand.hc3 g_X
    have zw : w.heap.size ≤ w12.heap.size := hB.size
    have HG := Lib.hid (And.intro g_A (And.intro g_X (hB)))
    clear g_A g_X hB
    go_wp2_with fail
    with_reducible refine (M13.out _).mono ?_
    rintro e w13 ⟨rfl, hq⟩
    obtain ⟨g_A, g_X, hB⟩ := HG.out
    have h_A : w13.heap[w.heap.size]? = some (.cells #[.int .i64 n, .int .i64 d, .bool true] 23 (0, 0)) := by
      refine Hand.kb hq ?_; first | with_reducible exact g_A | (simp (disch := first | omega | (simp only [Hand.sa, Hand.ss, Hand.sd, Hand.sn]; first | done | omega)) only [Hand.q2, Hand.q1, Hand.q5, Hand.q6, Hand.q4, Hand.q3, g_A] <;> rfl)
    have h_X : w13.heap[w2.heap.size]? = some (.cells #[.string L, .int .i64 (L.size : Int), .bool false] 111 (0, 0)) := by
      refine Hand.kb hq ?_; simp (disch := first | omega | (simp only [Hand.sa, Hand.ss, Hand.sd, Hand.sn]; first | done | omega)) only [Hand.q2, Hand.q1, Hand.q5, Hand.q6, Hand.q4, Hand.q3, g_X] <;> rfl
    have hB' : Below w.heap.size w w13 := Hand.stepB hq (by repeat (with_reducible first | apply hB | apply Below.drew | apply pw_below_drewN | (apply Below.setCell; rotate_left; (dsimp only; omega)) | (apply Below.alloc; rotate_left; (first | omega | (simp only [Hand.sa, Hand.ss, Hand.sd, Hand.sn]; omega))))) (Nat.le_refl _)
    clear HG hB g_A g_X zw z_A z1_A z2_A y0_A y1_A c_A_0 f_A_0 c_A_1 f_A_1 c_A_2 f_A_2 z_X z1_X z2_X y0_X y1_X c_X_0 f_X_0 c_X_1 f_X_1 c_X_2 f_X_2
    clear hq
    have g_A := h_A
    have g_X := h_X
    have hB := hB'
    clear hB' h_A h_X
    obtain ⟨z_A, z1_A, z2_A, y0_A, y1_A⟩ := Hand.hz g_A
    obtain ⟨c_A_0, f_A_0, c_A_1, f_A_1, c_A_2, f_A_2⟩ := Hand.hc3 g_A
    obtain ⟨z_X, z1_X, z2_X, y0_X, y1_X⟩ := Hand.hz g_X
    obtain ⟨c_X_0, f_X_0, c_X_1, f_X_1, c_X_2, f_X_2⟩ := Hand.hc3 g_X
    have zw : w.heap.size ≤ w13.heap.size := hB.size
    have HG := Lib.hid (And.intro g_A (And.intro g_X (hB)))
    clear g_A g_X hB
    go_wp2
    go_ret2
    obtain ⟨g_A, g_X, hB⟩ := HG.out
    exact ⟨rfl, hB⟩
end Go.Proofs.YtghiibdhibcbaaaGreatDoor.PA
namespace Go.Proofs.YtghiibdhibcbaaaGreatDoor.PA
open Go Go.RowKit Go.Proofs.YtghiibdhibcbaaaGreatDoor.CS
set_option linter.unusedSimpArgs false
set_option linter.unusedVariables false
theorem tl_nil {S : ByteArray} {a : Nat} (h : a ≤ S.size) : tl S a = [] ↔ a = S.size := by
  rw [← List.length_eq_zero_iff, tl_len]; omega
theorem rhrs_le (S : ByteArray) (a : Nat) (b : Bool) (least : Nat) (h : a ≤ S.size) : (rhrsS S a b least).2.1 ≤ S.size := by
  have hl := run_le (tl S a)
  rw [tl_len] at hl
  unfold rhrsS
  split
  · exact h
  · unfold rnumS
    rw [show S.data.toList.drop a = tl S a from rfl]
    split <;> (dsimp only; omega)
set_option maxHeartbeats 1600000 in
/-- the states that the reference's Number goes through -/
theorem labO_rrun (dr : Bool) (f : Int) (S : ByteArray) :
    ∃ y3 y4 y5 y6 y7 y8 y10, rhrsS S 0 false 2 = y3 ∧ rmarkS S y3.2.1 y3.2.2 58 = y4 ∧ rsixS S y4.1 y4.2 = y5 ∧ rmarkS S y5.2.1 y5.2.2 58 = y6 ∧ rsixS S y6.1 y6.2 = y7 ∧ rmarkS S y7.2.1 y7.2.2 (if dr = true then 59 else 58) = y8 ∧ rnumS S y8.1 y8.2 (wide f) = y10 ∧
      y3.2.1 ≤ S.size ∧ y4.1 ≤ S.size ∧ y5.2.1 ≤ S.size ∧ y6.1 ≤ S.size ∧ y7.2.1 ≤ S.size ∧ y8.1 ≤ S.size ∧
      (match labO dr f (tl S 0) with | some (h, m, s, k) => y3.1 = h ∧ y5.1 = m ∧ y7.1 = s ∧ y10 = (k, S.size, false) | none => y10.2.2 = true ∨ y10.2.1 ≠ S.size ∨ f ≤ y10.1) := by
  obtain ⟨y3, e3⟩ : ∃ y, rhrsS S 0 false 2 = y := ⟨_, rfl⟩
  obtain ⟨y4, e4⟩ : ∃ y, rmarkS S y3.2.1 y3.2.2 58 = y := ⟨_, rfl⟩
  obtain ⟨y5, e5⟩ : ∃ y, rsixS S y4.1 y4.2 = y := ⟨_, rfl⟩
  obtain ⟨y6, e6⟩ : ∃ y, rmarkS S y5.2.1 y5.2.2 58 = y := ⟨_, rfl⟩
  obtain ⟨y7, e7⟩ : ∃ y, rsixS S y6.1 y6.2 = y := ⟨_, rfl⟩
  obtain ⟨y8, e8⟩ : ∃ y, rmarkS S y7.2.1 y7.2.2 (if dr = true then 59 else 58) = y := ⟨_, rfl⟩
  obtain ⟨y10, e10⟩ : ∃ y, rnumS S y8.1 y8.2 (wide f) = y := ⟨_, rfl⟩
  refine ⟨y3, y4, y5, y6, y7, y8, y10, e3, e4, e5, e6, e7, e8, e10, ?_⟩
  have r2 := rhrs_rel S 2 (by decide)
  rw [e3, e4] at r2
  have r3 := rsix_rel r2.st
  dsimp only at r3
  rw [e5] at r3
  have r4 := rmark_rel 58 r3.st
  rw [e6] at r4
  have r5 := rsix_rel r4
  rw [e7] at r5
  have r6 := rmark_rel (if dr = true then 59 else 58) r5.st
  rw [e8] at r6
  have r7 := rnum_rel (wide f) r6
  rw [e10] at r7
  have q3 := rhrs_le S 0 false 2 (Nat.zero_le _)
  rw [e3] at q3
  refine ⟨q3, r2.1, r3.1, r4.1, r5.1, r6.1, ?_⟩
  have z7 := r7.1
  unfold labO
  cases h1 : hcO 2 (tl S 0) with
  | none => rw [h1] at r7; simp only [Option.map_none, Option.bind_none] at r7 ⊢; exact .inl r7.2
  | some a =>
  rw [h1] at r2 r3 r5 r7
  cases h2 : belO 2 60 a.2 with
  | none => simp only [Option.map_some, Option.bind_some, h2, Option.map_none, Option.bind_none] at r7 ⊢; exact .inl r7.2
  | some b =>
  cases h3 : byteO 58 b.2 with
  | none => simp only [Option.map_some, Option.bind_some, h2, h3, Option.map_none, Option.bind_none] at r7 ⊢; exact .inl r7.2
  | some c =>
  cases h4 : belO 2 60 c with
  | none => simp only [Option.map_some, Option.bind_some, h2, h3, h4, Option.map_none, Option.bind_none] at r7 ⊢; exact .inl r7.2
  | some d =>
  cases h5 : byteO (if dr = true then 59 else 58) d.2 with
  | none => simp only [Option.map_some, Option.bind_some, h2, h3, h4, h5, Option.map_none, Option.bind_none] at r7 ⊢; exact .inl r7.2
  | some q =>
  cases h6 : digO (wide f) q with
  | none =>
    have h8 : belO (wide f) f q = none := by unfold belO; rw [h6]; rfl
    simp only [Option.map_some, Option.bind_some, h2, h3, h4, h5, h6, h8, Option.map_none, Option.bind_none] at r7 ⊢; exact .inl r7.2
  | some g =>
    have h8 : belO (wide f) f q = if g.1 < f then some g else none := by unfold belO; rw [h6]; rfl
    simp only [Option.map_some, Option.bind_some, h2, h3, h4, h5, h6] at r2 r3 r5 r7
    obtain ⟨_, v1, v2, v3⟩ := r7
    simp only [Option.bind_some, h2, h3, h4, h5, h8]
    by_cases hk : g.1 < f
    · rw [if_pos hk]
      simp only [Option.bind_some]
      by_cases hg : g.2 = []
      · rw [if_pos hg]
        dsimp only
        refine ⟨r2.2.1, r3.2.1, r5.2.1, ?_⟩
        rw [hg] at v2
        exact Prod.ext v1 (Prod.ext ((tl_nil z7).mp v2) v3)
      · rw [if_neg hg]
        dsimp only
        exact .inr (.inl (fun e2 => hg (Eq.trans v2.symm ((tl_nil z7).mpr e2))))
    · rw [if_neg hk]
      simp only [Option.bind_none]
      exact .inr (.inr (by rw [v1]; omega))
set_option maxHeartbeats 1600000 in
theorem rnumber5_any (n d : Int) (dr : Bool) (S : ByteArray) (hS : S.size ≤ 9223372036854775807) (w : World) :
    Calls Tryz.prog 57 #[rate n d dr, .string S] w fun e w' => e = .returned (.tuple #[.int .i64 (nmbS n d dr S.data.toList).1, .int .i64 (nmbS n d dr S.data.toList).2]) ∧ Below w.heap.size w w' := by
  have m1 := rcheck_any n d dr
  unfold checkS at m1
  unfold nmbS
  by_cases hk : okR n d dr = true
  · rw [if_pos hk] at m1 ⊢
    have o := okR_iff.mp hk
    obtain ⟨f0, f1⟩ := full_le o
    have m2 := rfull_any n d dr o
    have c9 := rwide_any (full n d)
    have hw9 : wide (full n d) ≤ 9 := by unfold wide; split <;> decide
    obtain ⟨y3, y4, y5, y6, y7, y8, y10, e3, e4, e5, e6, e7, e8, e10, s3, s4, s5, s6, s7, s8, hm⟩ := labO_rrun dr (full n d) S
    have c3 := fun (w0 w : World) g hg hx hB => rhours_any S 0 false 2 g w0 w hS (Nat.zero_le _) (by decide) hg hx hB
    have c4 := fun (w0 w : World) g hg hx hB => rmark_any S y3.2.1 y3.2.2 58 g w0 w (by omega) s3 hg hx hB
    have c5 := fun (w0 w : World) g hg hx hB => rsixty_any S y4.1 y4.2 g w0 w hS s4 hg hx hB
    have c6 := fun (w0 w : World) g hg hx hB => rmark_any S y5.2.1 y5.2.2 58 g w0 w (by omega) s5 hg hx hB
    have c7 := fun (w0 w : World) g hg hx hB => rsixty_any S y6.1 y6.2 g w0 w hS s6 hg hx hB
    have c8 := fun (w0 w : World) g hg hx hB => rmark_any S y7.2.1 y7.2.2 (if dr = true then 59 else 58) g w0 w (by omega) s7 hg hx hB
    have c10 := fun (w0 w : World) g hg hx hB => rnumber_any S y8.1 (wide (full n d)) y8.2 g w0 w (by omega) s8 hw9 hg hx hB
    rw [e3] at c3
    rw [e4] at c4
    rw [e5] at c5
    rw [e6] at c6
    rw [e7] at c7
    rw [e8] at c8
    rw [e10] at c10
    have et : S.data.toList = tl S 0 := rfl
    rw [et]
    cases hp : labO dr (full n d) (tl S 0) with
    | none =>
      rw [hp] at hm
      dsimp only at hm ⊢
      cases dr with
      | false =>
        by_cases hb : y10.2.2 = true
        · exact rnum_false _ _ 0 0 0 0 0 0 0 0 0 n d (full n d) _ _ _ _ _ _ _ _ _ _ _ _ _ _ _ _ _ _ _ S (.inl ⟨hb, rfl, rfl⟩) w m1 m2 c3 c4 c5 c6 c7 c8 c9 c10
        · have hb' : y10.2.2 = false := by simpa using hb
          by_cases hl : y10.2.1 = S.size
          · have hk := (hm.resolve_left hb).resolve_left (fun h => h hl)
            rw [hb', hl] at c10
            exact rnum_false _ _ 0 0 0 0 0 0 0 0 0 n d (full n d) _ _ _ _ _ _ _ _ _ _ _ _ _ _ _ _ _ _ _ S (.inr (.inr (.inl ⟨rfl, rfl, hk, rfl, rfl⟩))) w m1 m2 c3 c4 c5 c6 c7 c8 c9 c10
          · exact rnum_false _ _ 0 0 0 0 0 0 0 0 0 n d (full n d) _ _ _ _ _ _ _ _ _ _ _ _ _ _ _ _ _ _ _ S (.inr (.inl ⟨hb', by simp; omega, rfl, rfl⟩)) w m1 m2 c3 c4 c5 c6 c7 c8 c9 c10
      | true =>
        by_cases hb : y10.2.2 = true
        · exact rnum_true _ _ 0 0 0 0 0 0 0 0 0 n d (full n d) _ _ _ _ _ _ _ _ _ _ _ _ _ _ _ _ _ _ _ S (.inl ⟨hb, rfl, rfl⟩) w m1 m2 c3 c4 c5 c6 c7 c8 c9 c10
        · have hb' : y10.2.2 = false := by simpa using hb
          by_cases hl : y10.2.1 = S.size
          · have hk := (hm.resolve_left hb).resolve_left (fun h => h hl)
            rw [hb', hl] at c10
            exact rnum_true _ _ 0 0 0 0 0 0 0 0 0 n d (full n d) _ _ _ _ _ _ _ _ _ _ _ _ _ _ _ _ _ _ _ S (.inr (.inr (.inl ⟨rfl, rfl, hk, rfl, rfl⟩))) w m1 m2 c3 c4 c5 c6 c7 c8 c9 c10
          · exact rnum_true _ _ 0 0 0 0 0 0 0 0 0 n d (full n d) _ _ _ _ _ _ _ _ _ _ _ _ _ _ _ _ _ _ _ S (.inr (.inl ⟨hb', by simp; omega, rfl, rfl⟩)) w m1 m2 c3 c4 c5 c6 c7 c8 c9 c10
    | some p =>
      obtain ⟨h, m, s, k⟩ := p
      rw [hp] at hm
      dsimp only at hm ⊢
      obtain ⟨a1, a2, a3, a4⟩ := hm
      obtain ⟨h0, h1, m0, mb, s0, sb, k0, kf⟩ := labO_le hp
      rw [a1] at c3
      rw [a2] at c5
      rw [a3] at c7
      rw [a4] at c10
      dsimp only at c10
      have c11 := rout_any n d m dr o m0
      have c12 := rleft_any n d dr o
      have c13 := rlast_any n d dr o
      obtain ⟨F, hF⟩ : ∃ F, full n d = F := ⟨_, rfl⟩
      obtain ⟨D, hD⟩ : ∃ D, drop n d dr = D := ⟨_, rfl⟩
      obtain ⟨D0, D1⟩ := @drop_le n d dr
      have hDF : D = 0 ∨ 30 ≤ F := by rcases o.kinds with ⟨_, h⟩ | ⟨_, _, _, _, h⟩ | ⟨_, _, _, _, h⟩ <;> omega
      have hdr : dr = true ∨ D = 0 := by rcases o.kinds with ⟨_, h⟩ | ⟨h, _⟩ | ⟨h, _⟩ <;> first | exact .inl h | (right; omega)
      have hQ0 : 0 ≤ (60 * h + m) - (60 * h + m) / 10 := by omega
      have hQ1 : (60 * h + m) - (60 * h + m) / 10 ≤ 60 * h + m := by omega
      have E0 : 0 ≤ D * ((60 * h + m) - (60 * h + m) / 10) := Int.mul_nonneg (by omega) hQ0
      have E1 : D * ((60 * h + m) - (60 * h + m) / 10) ≤ 4 * 60000 := Int.mul_le_mul (by omega) (by omega) (by omega) (by omega)
      have P0 : 0 ≤ (60 * (60 * h + m) + s) * F := Int.mul_nonneg (by omega) (by omega)
      have P1 : (60 * (60 * h + m) + s) * F ≤ 3600060 * 240 := Int.mul_le_mul (by omega) (by omega) (by omega) (by omega)
      have hEP : D * ((60 * h + m) - (60 * h + m) / 10) ≤ (60 * (60 * h + m) + s) * F := by
        have g1 : D * ((60 * h + m) - (60 * h + m) / 10) ≤ 4 * (60 * h + m) := Int.mul_le_mul (by omega) hQ1 hQ0 (by omega)
        rcases hDF with hz | hz
        · rw [hz, Int.zero_mul]; exact P0
        · have g2 : (60 * (60 * h + m) + s) * 30 ≤ (60 * (60 * h + m) + s) * F := Int.mul_le_mul_of_nonneg_left hz (by omega)
          omega
      have hsaid : said n d h m s k - D * ((60 * h + m) - (60 * h + m) / 10) = (60 * (60 * h + m) + s) * F + k - D * ((60 * h + m) - (60 * h + m) / 10) := by
        unfold said
        rw [hF, Int.mul_comm F]; omega
      have hin : ∀ N, said n d h m s k - D * ((60 * h + m) - (60 * h + m) / 10) = N → (inF n d N = true ↔ N ≤ last n d) := by
        intro N hN
        rw [inF_iff]
        constructor
        · exact fun h => h.2
        · intro h; exact ⟨by omega, h⟩
      unfold valS
      rw [hD] at c12 D0 D1 ⊢
      rw [hF] at m2 c9 c10 f0 f1 kf
      by_cases q1 : s = 0
      · by_cases q2 : k < outS n d dr m
        · have hm10 : m % 10 ≠ 0 := by intro e; unfold outS at q2; rw [if_pos e] at q2; omega
          have hkD : k < D := by unfold outS at q2; rw [if_neg hm10, hD] at q2; exact q2
          rw [if_pos ⟨hdr.resolve_right (by omega), q1, hm10, hkD⟩]
          subst q1
          rw [Int.add_zero] at P0 P1
          cases dr with
          | false => exact rnum_false _ _ _ D _ _ _ _ _ _ 0 n d F h m 0 k _ _ _ _ _ _ _ _ _ _ _ _ _ _ _ S (.inr (.inr (.inr (.inl ⟨rfl, rfl, f0, f1, h0, h1, m0, mb, s0, sb, k0, kf, rfl, rfl, rfl, rfl, rfl, rfl, P0, by omega, E0, by omega, D0, D1, rfl, q2, rfl, rfl, c11⟩)))) w m1 m2 c3 c4 c5 c6 c7 c8 c9 c10
          | true => exact rnum_true _ _ _ D _ _ _ _ _ _ 0 n d F h m 0 k _ _ _ _ _ _ _ _ _ _ _ _ _ _ _ S (.inr (.inr (.inr (.inl ⟨rfl, rfl, f0, f1, h0, h1, m0, mb, s0, sb, k0, kf, rfl, rfl, rfl, rfl, rfl, rfl, P0, by omega, E0, by omega, D0, D1, rfl, q2, rfl, rfl, c11⟩)))) w m1 m2 c3 c4 c5 c6 c7 c8 c9 c10
        · rw [if_neg (by rintro ⟨_, _, e1, e2⟩; apply q2; unfold outS; rw [if_neg e1, hD]; exact e2)]
          subst q1
          rw [Int.add_zero] at P0 P1 hsaid
          have hi := hin _ hsaid
          rw [hsaid]
          by_cases ql : 60 * (60 * h + m) * F + k - D * (60 * h + m - (60 * h + m) / 10) ≤ last n d
          · rw [if_pos (hi.mpr ql)]
            cases dr with
            | false => exact rnum_false _ _ _ D _ _ _ _ _ _ _ n d F h m 0 k _ _ _ _ _ _ _ _ _ _ _ _ _ _ _ S (.inr (.inr (.inr (.inr (.inr (.inr (.inl ⟨rfl, rfl, f0, f1, h0, h1, m0, mb, s0, sb, k0, kf, rfl, rfl, rfl, rfl, rfl, rfl, P0, by omega, E0, by omega, D0, D1, rfl, by omega, ql, rfl, rfl, c11, c12, c13⟩))))))) w m1 m2 c3 c4 c5 c6 c7 c8 c9 c10
            | true => exact rnum_true _ _ _ D _ _ _ _ _ _ _ n d F h m 0 k _ _ _ _ _ _ _ _ _ _ _ _ _ _ _ S (.inr (.inr (.inr (.inr (.inr (.inr (.inl ⟨rfl, rfl, f0, f1, h0, h1, m0, mb, s0, sb, k0, kf, rfl, rfl, rfl, rfl, rfl, rfl, P0, by omega, E0, by omega, D0, D1, rfl, by omega, ql, rfl, rfl, c11, c12, c13⟩))))))) w m1 m2 c3 c4 c5 c6 c7 c8 c9 c10
          · rw [if_neg (fun e => ql (hi.mp e))]
            cases dr with
            | false => exact rnum_false _ _ _ D _ _ _ _ _ _ _ n d F h m 0 k _ _ _ _ _ _ _ _ _ _ _ _ _ _ _ S (.inr (.inr (.inr (.inr (.inr (.inr (.inr (⟨rfl, rfl, f0, f1, h0, h1, m0, mb, s0, sb, k0, kf, rfl, rfl, rfl, rfl, rfl, rfl, P0, by omega, E0, by omega, D0, D1, rfl, by omega, by omega, rfl, rfl, c11, c12, c13⟩)))))))) w m1 m2 c3 c4 c5 c6 c7 c8 c9 c10
            | true => exact rnum_true _ _ _ D _ _ _ _ _ _ _ n d F h m 0 k _ _ _ _ _ _ _ _ _ _ _ _ _ _ _ S (.inr (.inr (.inr (.inr (.inr (.inr (.inr (⟨rfl, rfl, f0, f1, h0, h1, m0, mb, s0, sb, k0, kf, rfl, rfl, rfl, rfl, rfl, rfl, P0, by omega, E0, by omega, D0, D1, rfl, by omega, by omega, rfl, rfl, c11, c12, c13⟩)))))))) w m1 m2 c3 c4 c5 c6 c7 c8 c9 c10
      · rw [if_neg (fun e => q1 e.2.1)]
        have hi := hin _ hsaid
        rw [hsaid]
        have q3 : (s == 0) = false := by simpa using q1
        by_cases ql : (60 * (60 * h + m) + s) * F + k - D * (60 * h + m - (60 * h + m) / 10) ≤ last n d
        · rw [if_pos (hi.mpr ql)]
          cases dr with
          | false => exact rnum_false _ _ 0 D _ _ _ _ _ _ _ n d F h m s k _ _ _ _ _ _ _ _ _ _ _ _ _ _ _ S (.inr (.inr (.inr (.inr (.inl ⟨rfl, rfl, f0, f1, h0, h1, m0, mb, s0, sb, k0, kf, rfl, rfl, rfl, rfl, rfl, rfl, P0, by omega, E0, by omega, D0, D1, q3, ql, rfl, rfl, c12, c13⟩))))) w m1 m2 c3 c4 c5 c6 c7 c8 c9 c10
          | true => exact rnum_true _ _ 0 D _ _ _ _ _ _ _ n d F h m s k _ _ _ _ _ _ _ _ _ _ _ _ _ _ _ S (.inr (.inr (.inr (.inr (.inl ⟨rfl, rfl, f0, f1, h0, h1, m0, mb, s0, sb, k0, kf, rfl, rfl, rfl, rfl, rfl, rfl, P0, by omega, E0, by omega, D0, D1, q3, ql, rfl, rfl, c12, c13⟩))))) w m1 m2 c3 c4 c5 c6 c7 c8 c9 c10
        · rw [if_neg (fun e => ql (hi.mp e))]
          cases dr with
          | false => exact rnum_false _ _ 0 D _ _ _ _ _ _ _ n d F h m s k _ _ _ _ _ _ _ _ _ _ _ _ _ _ _ S (.inr (.inr (.inr (.inr (.inr (.inl ⟨rfl, rfl, f0, f1, h0, h1, m0, mb, s0, sb, k0, kf, rfl, rfl, rfl, rfl, rfl, rfl, P0, by omega, E0, by omega, D0, D1, q3, by omega, rfl, rfl, c12, c13⟩)))))) w m1 m2 c3 c4 c5 c6 c7 c8 c9 c10
          | true => exact rnum_true _ _ 0 D _ _ _ _ _ _ _ n d F h m s k _ _ _ _ _ _ _ _ _ _ _ _ _ _ _ S (.inr (.inr (.inr (.inr (.inr (.inl ⟨rfl, rfl, f0, f1, h0, h1, m0, mb, s0, sb, k0, kf, rfl, rfl, rfl, rfl, rfl, rfl, P0, by omega, E0, by omega, D0, D1, q3, by omega, rfl, rfl, c12, c13⟩)))))) w m1 m2 c3 c4 c5 c6 c7 c8 c9 c10
  · rw [if_neg hk] at m1 ⊢
    exact rnum_bad n d 14 dr S (by decide) w m1
end Go.Proofs.YtghiibdhibcbaaaGreatDoor.PA
