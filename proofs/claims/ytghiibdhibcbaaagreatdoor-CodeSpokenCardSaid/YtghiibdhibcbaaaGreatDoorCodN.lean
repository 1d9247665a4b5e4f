/- code: Number. -/
import Derived.Test.YtghiibdhibcbaaaGreatDoorMC
import Derived.Test.YtghiibdhibcbaaaGreatDoorME
namespace Go.Proofs.YtghiibdhibcbaaaGreatDoor.PA
open Go Go.RowKit Go.Proofs.YtghiibdhibcbaaaGreatDoorW.PrintWords Go.Proofs.YtghiibdhibcbaaaGreatDoorW.PrintLast Go.Proofs.YtghiibdhibcbaaaGreatDoorW.PrintMore Go.Proofs.YtghiibdhibcbaaaGreatDoor.CS
set_option linter.unusedSimpArgs false
set_option linter.unusedVariables false
set_option maxHeartbeats 800000 in
set_option maxRecDepth 100000 in
theorem cnum_bad (n d c : Int) (dr : Bool) (L : ByteArray) (hc : (c == 0) = false) (w : World)
    (m1 : ∀ w, Calls Tryz.prog 45 #[rate n d dr] w fun e w' => e = .returned (.int .i64 c) ∧ Below w.heap.size w w') :
    Calls Tryz.prog 20 #[rate n d dr, .string L] w fun e w' => e = .returned (.tuple #[.int .i64 0, .int .i64 c]) ∧ Below w.heap.size w w' := by
  have M1 := Lib.hid m1
  clear m1
  go_enter Tryz.func20, Tryz.ntmps20
  go_wp2_with fail
  with_reducible refine (M1.out _).mono ?_
  rintro e w1 ⟨rfl, hb1⟩
  have h_A : w1.heap[w.heap.size]? = some (.cells #[.int .i64 n, .int .i64 d, .bool dr] 23 (0, 0)) := by
    refine Hand.kb hb1 ?_; simp (disch := first | omega | (simp only [Hand.sa, Hand.ss, Hand.sd, Hand.sn]; first | done | omega)) only [Hand.q2, Hand.q1, Hand.q5, Hand.q6, Hand.q4, Hand.q3] <;> rfl
  have hB' : Below w.heap.size w w1 := Hand.stepB hb1 (by repeat (with_reducible first | apply Below.refl _ _ | apply Below.drew | apply pw_below_drewN | (apply Below.setCell; rotate_left; (dsimp only; omega)) | (apply Below.alloc; rotate_left; (first | omega | (simp only [Hand.sa, Hand.ss, Hand.sd, Hand.sn]; omega))))) (Nat.le_refl _)
  clear hb1
  have g_A := h_A
  have hB := hB'
  clear hB' h_A
  obtain ⟨z_A, z1_A, z2_A, y0_A, y1_A⟩ := Hand.hz g_A
  obtain ⟨c_A_0, f_A_0, c_A_1, f_A_1, c_A_2, f_A_2⟩ := Hand.hc3 g_A
  have zw : w.heap.size ≤ w1.heap.size := hB.size
  have HG := Lib.hid (And.intro g_A (hB))
  clear g_A hB
  go_wp2
  go_ret2
  obtain ⟨g_A, hB⟩ := HG.out
  exact ⟨rfl, hB⟩
set_option maxHeartbeats 800000 in
set_option maxRecDepth 100000 in
theorem cnum_no (n d f h m s k LW : Int) (dr b1 b2 b3 b4 b5 b6 b7 : Bool) (L L1 L2 L3 L4 L5 L6 L7 C : ByteArray) (hb : b7 = true) (w : World) (ht : TabN w)
    (m1 : ∀ w, Calls Tryz.prog 45 #[rate n d dr] w fun e w' => e = .returned (.int .i64 0) ∧ Below w.heap.size w w')
    (m2 : ∀ w, Calls Tryz.prog 53 #[rate n d dr] w fun e w' => e = .returned (.int .i64 f) ∧ Below w.heap.size w w')
    (m3 : ∀ w0 w g, w0.heap.size ≤ g → w.heap[g]? = some (scan L false) → Below w0.heap.size w0 w → Calls Tryz.prog 39 #[.pointer (some ⟨g, 0, none⟩), .int .i64 2] w fun e w' => e = .returned (.int .i64 h) ∧ SL w0 w' g L1 b1)
    (m4 : ∀ w0 w g, w0.heap.size ≤ g → w.heap[g]? = some (scan L1 b1) → Below w0.heap.size w0 w → Calls Tryz.prog 40 #[.pointer (some ⟨g, 0, none⟩), .string ⟨#[58]⟩] w fun e w' => e = .returned (.tuple #[]) ∧ SL w0 w' g L2 b2)
    (m5 : ∀ w0 w g, w0.heap.size ≤ g → w.heap[g]? = some (scan L2 b2) → Below w0.heap.size w0 w → Calls Tryz.prog 41 #[.pointer (some ⟨g, 0, none⟩), .int .i64 2, .int .i64 60] w fun e w' => e = .returned (.int .i64 m) ∧ SL w0 w' g L3 b3)
    (m6 : ∀ w0 w g, w0.heap.size ≤ g → w.heap[g]? = some (scan L3 b3) → Below w0.heap.size w0 w → Calls Tryz.prog 40 #[.pointer (some ⟨g, 0, none⟩), .string ⟨#[58]⟩] w fun e w' => e = .returned (.tuple #[]) ∧ SL w0 w' g L4 b4)
    (m7 : ∀ w0 w g, w0.heap.size ≤ g → w.heap[g]? = some (scan L4 b4) → Below w0.heap.size w0 w → Calls Tryz.prog 41 #[.pointer (some ⟨g, 0, none⟩), .int .i64 2, .int .i64 60] w fun e w' => e = .returned (.int .i64 s) ∧ SL w0 w' g L5 b5)
    (m8 : ∀ w, Calls Tryz.prog 54 #[rate n d dr] w fun e w' => e = .returned (.string C) ∧ Below w.heap.size w w')
    (m9 : ∀ w0 w g, w0.heap.size ≤ g → w.heap[g]? = some (scan L5 b5) → Below w0.heap.size w0 w → Calls Tryz.prog 40 #[.pointer (some ⟨g, 0, none⟩), .string C] w fun e w' => e = .returned (.tuple #[]) ∧ SL w0 w' g L6 b6)
    (m10 : ∀ w, TabN w → Calls Tryz.prog 55 #[rate n d dr] w fun e w' => e = .returned (.int .i64 LW) ∧ Below w.heap.size w w')
    (m11 : ∀ w0 w g, w0.heap.size ≤ g → w.heap[g]? = some (scan L6 b6) → Below w0.heap.size w0 w → Calls Tryz.prog 41 #[.pointer (some ⟨g, 0, none⟩), .int .i64 LW, .int .i64 f] w fun e w' => e = .returned (.int .i64 k) ∧ SL w0 w' g L7 b7) :
    Calls Tryz.prog 20 #[rate n d dr, .string L] w fun e w' => e = .returned (.tuple #[.int .i64 0, .int .i64 13]) ∧ Below w.heap.size w w' := by
  subst hb
  have HT0 := Lib.hid ht
  have M1 := Lib.hid m1
  have M2 := Lib.hid m2
  have M3 := Lib.hid m3
  have M4 := Lib.hid m4
  have M5 := Lib.hid m5
  have M6 := Lib.hid m6
  have M7 := Lib.hid m7
  have M8 := Lib.hid m8
  have M9 := Lib.hid m9
  have M10 := Lib.hid m10
  have M11 := Lib.hid m11
  clear m1 m2 m3 m4 m5 m6 m7 m8 m9 m10 m11 ht
  go_enter Tryz.func20, Tryz.ntmps20
  go_wp2_with fail
  with_reducible refine (M1.out _).mono ?_
  rintro e w1 ⟨rfl, hb1⟩
  have h_A : w1.heap[w.heap.size]? = some (.cells #[.int .i64 n, .int .i64 d, .bool dr] 23 (0, 0)) := by
    refine Hand.kb hb1 ?_; simp (disch := first | omega | (simp only [Hand.sa, Hand.ss, Hand.sd, Hand.sn]; first | done | omega)) only [Hand.q2, Hand.q1, Hand.q5, Hand.q6, Hand.q4, Hand.q3] <;> rfl
  have hB' : Below w.heap.size w w1 := Hand.stepB hb1 (by repeat (with_reducible first | apply Below.refl _ _ | apply Below.drew | apply pw_below_drewN | (apply Below.setCell; rotate_left; (dsimp only; omega)) | (apply Below.alloc; rotate_left; (first | omega | (simp only [Hand.sa, Hand.ss, Hand.sd, Hand.sn]; omega))))) (Nat.le_refl _)
  clear hb1
  have g_A := h_A
  have hB := hB'
  clear hB' h_A
  obtain ⟨z_A, z1_A, z2_A, y0_A, y1_A⟩ := Hand.hz g_A
  obtain ⟨c_A_0, f_A_0, c_A_1, f_A_1, c_A_2, f_A_2⟩ := Hand.hc3 g_A
  have zw : w.heap.size ≤ w1.heap.size := hB.size
  have HG := Lib.hid (And.intro g_A (hB))
  clear g_A hB
  go_wp2_with fail
  with_reducible refine (M2.out _).mono ?_
  rintro e w2 ⟨rfl, hb2⟩
  obtain ⟨g_A, hB⟩ := HG.out
  have h_A : w2.heap[w.heap.size]? = some (.cells #[.int .i64 n, .int .i64 d, .bool dr] 23 (0, 0)) := by
    refine Hand.kb hb2 ?_; first | with_reducible exact g_A | (simp (disch := first | omega | (simp only [Hand.sa, Hand.ss, Hand.sd, Hand.sn]; first | done | omega)) only [Hand.q2, Hand.q1, Hand.q5, Hand.q6, Hand.q4, Hand.q3, g_A] <;> rfl)
  have hB' : Below w.heap.size w w2 := Hand.stepB hb2 (by repeat (with_reducible first | apply hB | apply Below.drew | apply pw_below_drewN | (apply Below.setCell; rotate_left; (dsimp only; omega)) | (apply Below.alloc; rotate_left; (first | omega | (simp only [Hand.sa, Hand.ss, Hand.sd, Hand.sn]; omega))))) (Nat.le_refl _)
  clear HG hB g_A zw z_A z1_A z2_A y0_A y1_A c_A_0 f_A_0 c_A_1 f_A_1 c_A_2 f_A_2
  clear hb2
  have g_A := h_A
  have hB := hB'
  clear hB' h_A
  obtain ⟨z_A, z1_A, z2_A, y0_A, y1_A⟩ := Hand.hz g_A
  obtain ⟨c_A_0, f_A_0, c_A_1, f_A_1, c_A_2, f_A_2⟩ := Hand.hc3 g_A
  have zw : w.heap.size ≤ w2.heap.size := hB.size
  have HG := Lib.hid (And.intro g_A (hB))
  clear g_A hB
  have GA0 := Lib.hid (show w2.heap[w.heap.size]? = some (.cells #[.int .i64 n, .int .i64 d, .bool dr] 23 (0, 0)) from HG.out.1)
  have HB0 := Lib.hid (show Below w.heap.size w w2 from HG.out.2)
  have HT2 := Lib.hid (tab_below HT0.out HB0.out)
  go_wp2_with fail
  obtain ⟨W, hW⟩ : ∃ W_, W_ = w2.alloc (scan L false) := ⟨_, rfl⟩
  rw [← hW]
  have hx_W : W.heap[w2.heap.size]? = some (scan L false) := by rw [hW]; exact Hand.q3 _ _ _ rfl
  have hb_W : Below w2.heap.size w2 W := by rw [hW]; exact (Below.refl _ _).alloc (Nat.le_refl _) _
  clear hW
  clear HG zw z_A z1_A z2_A y0_A y1_A c_A_0 f_A_0 c_A_1 f_A_1 c_A_2 f_A_2
  have HX := Lib.hid hx_W
  have HBX := Lib.hid hb_W
  have g_A := Hand.kb hb_W GA0.out
  have g_X := hx_W
  have hB := Hand.stepB hb_W HB0.out (Nat.le_refl _)
  clear hx_W hb_W
  obtain ⟨z_A, z1_A, z2_A, y0_A, y1_A⟩ := Hand.hz g_A
  obtain ⟨c_A_0, f_A_0, c_A_1, f_A_1, c_A_2, f_A_2⟩ := Hand.hc3 g_A
  obtain ⟨z_X, z1_X, z2_X, y0_X, y1_X⟩ := Hand.hz g_X
  obtain ⟨c_X_0, f_X_0, c_X_1, f_X_1⟩ := Hand.hc2 g_X
  have zw : w.heap.size ≤ W.heap.size := hB.size
  have HG := Lib.hid (And.intro g_A (And.intro g_X (hB)))
  clear g_A g_X hB
  go_wp2_with fail
  with_reducible refine (M3.out w2 _ _ (Nat.le_refl _) (bk HX.out) (bw HBX.out)).mono ?_
  rintro e w3 ⟨rfl, hx_w3, hb_w3⟩
  clear HX HBX HG zw z_A z1_A z2_A y0_A y1_A c_A_0 f_A_0 c_A_1 f_A_1 c_A_2 f_A_2 z_X z1_X z2_X y0_X y1_X c_X_0 f_X_0 c_X_1 f_X_1
  have HX := Lib.hid hx_w3
  have HBX := Lib.hid hb_w3
  have g_A := Hand.kb hb_w3 GA0.out
  have g_X := hx_w3
  have hB := Hand.stepB hb_w3 HB0.out (Nat.le_refl _)
  clear hx_w3 hb_w3
  obtain ⟨z_A, z1_A, z2_A, y0_A, y1_A⟩ := Hand.hz g_A
  obtain ⟨c_A_0, f_A_0, c_A_1, f_A_1, c_A_2, f_A_2⟩ := Hand.hc3 g_A
  obtain ⟨z_X, z1_X, z2_X, y0_X, y1_X⟩ := Hand.hz g_X
  obtain ⟨c_X_0, f_X_0, c_X_1, f_X_1⟩ := Hand.hc2 g_X
  have zw : w.heap.size ≤ w3.heap.size := hB.size
  have HG := Lib.hid (And.intro g_A (And.intro g_X (hB)))
  clear g_A g_X hB
  go_wp2_with fail
  with_reducible refine (M4.out w2 _ _ (Nat.le_refl _) (bk HX.out) (bw HBX.out)).mono ?_
  rintro e w4 ⟨rfl, hx_w4, hb_w4⟩
  clear HX HBX HG zw z_A z1_A z2_A y0_A y1_A c_A_0 f_A_0 c_A_1 f_A_1 c_A_2 f_A_2 z_X z1_X z2_X y0_X y1_X c_X_0 f_X_0 c_X_1 f_X_1
  have HX := Lib.hid hx_w4
  have HBX := Lib.hid hb_w4
  have g_A := Hand.kb hb_w4 GA0.out
  have g_X := hx_w4
  have hB := Hand.stepB hb_w4 HB0.out (Nat.le_refl _)
  clear hx_w4 hb_w4
  obtain ⟨z_A, z1_A, z2_A, y0_A, y1_A⟩ := Hand.hz g_A
  obtain ⟨c_A_0, f_A_0, c_A_1, f_A_1, c_A_2, f_A_2⟩ := Hand.hc3 g_A
  obtain ⟨z_X, z1_X, z2_X, y0_X, y1_X⟩ := Hand.hz g_X
  obtain ⟨c_X_0, f_X_0, c_X_1, f_X_1⟩ := Hand.hc2 g_X
  have zw : w.heap.size ≤ w4.heap.size := hB.size
  have HG := Lib.hid (And.intro g_A (And.intro g_X (hB)))
  clear g_A g_X hB
  go_wp2_with fail
  with_reducible refine (M5.out w2 _ _ (Nat.le_refl _) (bk HX.out) (bw HBX.out)).mono ?_
  rintro e w5 ⟨rfl, hx_w5, hb_w5⟩
  clear HX HBX HG zw z_A z1_A z2_A y0_A y1_A c_A_0 f_A_0 c_A_1 f_A_1 c_A_2 f_A_2 z_X z1_X z2_X y0_X y1_X c_X_0 f_X_0 c_X_1 f_X_1
  have HX := Lib.hid hx_w5
  have HBX := Lib.hid hb_w5
  have g_A := Hand.kb hb_w5 GA0.out
  have g_X := hx_w5
  have hB := Hand.stepB hb_w5 HB0.out (Nat.le_refl _)
  clear hx_w5 hb_w5
  obtain ⟨z_A, z1_A, z2_A, y0_A, y1_A⟩ := Hand.hz g_A
  obtain ⟨c_A_0, f_A_0, c_A_1, f_A_1, c_A_2, f_A_2⟩ := Hand.hc3 g_A
  obtain ⟨z_X, z1_X, z2_X, y0_X, y1_X⟩ := Hand.hz g_X
  obtain ⟨c_X_0, f_X_0, c_X_1, f_X_1⟩ := Hand.hc2 g_X
  have zw : w.heap.size ≤ w5.heap.size := hB.size
  have HG := Lib.hid (And.intro g_A (And.intro g_X (hB)))
  clear g_A g_X hB
  go_wp2_with fail
  with_reducible refine (M6.out w2 _ _ (Nat.le_refl _) (bk HX.out) (bw HBX.out)).mono ?_
  rintro e w6 ⟨rfl, hx_w6, hb_w6⟩
  clear HX HBX HG zw z_A z1_A z2_A y0_A y1_A c_A_0 f_A_0 c_A_1 f_A_1 c_A_2 f_A_2 z_X z1_X z2_X y0_X y1_X c_X_0 f_X_0 c_X_1 f_X_1
  have HX := Lib.hid hx_w6
  have HBX := Lib.hid hb_w6
  have g_A := Hand.kb hb_w6 GA0.out
  have g_X := hx_w6
  have hB := Hand.stepB hb_w6 HB0.out (Nat.le_refl _)
  clear hx_w6 hb_w6
  obtain ⟨z_A, z1_A, z2_A, y0_A, y1_A⟩ := Hand.hz g_A
  obtain ⟨c_A_0, f_A_0, c_A_1, f_A_1, c_A_2, f_A_2⟩ := Hand.hc3 g_A
  obtain ⟨z_X, z1_X, z2_X, y0_X, y1_X⟩ := Hand.hz g_X
  obtain ⟨c_X_0, f_X_0, c_X_1, f_X_1⟩ := Hand.hc2 g_X
  have zw : w.heap.size ≤ w6.heap.size := hB.size
  have HG := Lib.hid (And.intro g_A (And.intro g_X (hB)))
  clear g_A g_X hB
  go_wp2_with fail
  with_reducible refine (M7.out w2 _ _ (Nat.le_refl _) (bk HX.out) (bw HBX.out)).mono ?_
  rintro e w7 ⟨rfl, hx_w7, hb_w7⟩
  clear HX HBX HG zw z_A z1_A z2_A y0_A y1_A c_A_0 f_A_0 c_A_1 f_A_1 c_A_2 f_A_2 z_X z1_X z2_X y0_X y1_X c_X_0 f_X_0 c_X_1 f_X_1
  have HX := Lib.hid hx_w7
  have HBX := Lib.hid hb_w7
  have g_A := Hand.kb hb_w7 GA0.out
  have g_X := hx_w7
  have hB := Hand.stepB hb_w7 HB0.out (Nat.le_refl _)
  clear hx_w7 hb_w7
  obtain ⟨z_A, z1_A, z2_A, y0_A, y1_A⟩ := Hand.hz g_A
  obtain ⟨c_A_0, f_A_0, c_A_1, f_A_1, c_A_2, f_A_2⟩ := Hand.hc3 g_A
  obtain ⟨z_X, z1_X, z2_X, y0_X, y1_X⟩ := Hand.hz g_X
  obtain ⟨c_X_0, f_X_0, c_X_1, f_X_1⟩ := Hand.hc2 g_X
  have zw : w.heap.size ≤ w7.heap.size := hB.size
  have HG := Lib.hid (And.intro g_A (And.intro g_X (hB)))
  clear g_A g_X hB
  go_wp2_with fail
  with_reducible refine (M8.out _).mono ?_
  rintro e w8 ⟨rfl, hq⟩
  have hx_w8 := Hand.kb hq (bk HX.out)
  have hb_w8 := Hand.stepB hq (bw HBX.out) (Nat.le_refl _)
  clear hq
  clear HX HBX HG zw z_A z1_A z2_A y0_A y1_A c_A_0 f_A_0 c_A_1 f_A_1 c_A_2 f_A_2 z_X z1_X z2_X y0_X y1_X c_X_0 f_X_0 c_X_1 f_X_1
  have HX := Lib.hid hx_w8
  have HBX := Lib.hid hb_w8
  have g_A := Hand.kb hb_w8 GA0.out
  have g_X := hx_w8
  have hB := Hand.stepB hb_w8 HB0.out (Nat.le_refl _)
  clear hx_w8 hb_w8
  obtain ⟨z_A, z1_A, z2_A, y0_A, y1_A⟩ := Hand.hz g_A
  obtain ⟨c_A_0, f_A_0, c_A_1, f_A_1, c_A_2, f_A_2⟩ := Hand.hc3 g_A
  obtain ⟨z_X, z1_X, z2_X, y0_X, y1_X⟩ := Hand.hz g_X
  obtain ⟨c_X_0, f_X_0, c_X_1, f_X_1⟩ := Hand.hc2 g_X
  have zw : w.heap.size ≤ w8.heap.size := hB.size
  have HG := Lib.hid (And.intro g_A (And.intro g_X (hB)))
  clear g_A g_X hB
  go_wp2_with fail
  with_reducible refine (M9.out w2 _ _ (Nat.le_refl _) (bk HX.out) (bw HBX.out)).mono ?_
  rintro e w9 ⟨rfl, hx_w9, hb_w9⟩
  clear HX HBX HG zw z_A z1_A z2_A y0_A y1_A c_A_0 f_A_0 c_A_1 f_A_1 c_A_2 f_A_2 z_X z1_X z2_X y0_X y1_X c_X_0 f_X_0 c_X_1 f_X_1
  have HX := Lib.hid hx_w9
  have HBX := Lib.hid hb_w9
  have g_A := Hand.kb hb_w9 GA0.out
  have g_X := hx_w9
  have hB := Hand.stepB hb_w9 HB0.out (Nat.le_refl _)
  clear hx_w9 hb_w9
  obtain ⟨z_A, z1_A, z2_A, y0_A, y1_A⟩ := Hand.hz g_A
  obtain ⟨c_A_0, f_A_0, c_A_1, f_A_1, c_A_2, f_A_2⟩ := Hand.hc3 g_A
  obtain ⟨z_X, z1_X, z2_X, y0_X, y1_X⟩ := Hand.hz g_X
  obtain ⟨c_X_0, f_X_0, c_X_1, f_X_1⟩ := Hand.hc2 g_X
  have zw : w.heap.size ≤ w9.heap.size := hB.size
  have HG := Lib.hid (And.intro g_A (And.intro g_X (hB)))
  clear g_A g_X hB
  go_wp2_with fail
  with_reducible refine (M10.out _ (tab_below HT2.out (bw HBX.out))).mono ?_
  rintro e w10 ⟨rfl, hq⟩
  have hx_w10 := Hand.kb hq (bk HX.out)
  have hb_w10 := Hand.stepB hq (bw HBX.out) (Nat.le_refl _)
  clear hq
  clear HX HBX HG zw z_A z1_A z2_A y0_A y1_A c_A_0 f_A_0 c_A_1 f_A_1 c_A_2 f_A_2 z_X z1_X z2_X y0_X y1_X c_X_0 f_X_0 c_X_1 f_X_1
  have HX := Lib.hid hx_w10
  have HBX := Lib.hid hb_w10
  have g_A := Hand.kb hb_w10 GA0.out
  have g_X := hx_w10
  have hB := Hand.stepB hb_w10 HB0.out (Nat.le_refl _)
  clear hx_w10 hb_w10
  obtain ⟨z_A, z1_A, z2_A, y0_A, y1_A⟩ := Hand.hz g_A
  obtain ⟨c_A_0, f_A_0, c_A_1, f_A_1, c_A_2, f_A_2⟩ := Hand.hc3 g_A
  obtain ⟨z_X, z1_X, z2_X, y0_X, y1_X⟩ := Hand.hz g_X
  obtain ⟨c_X_0, f_X_0, c_X_1, f_X_1⟩ := Hand.hc2 g_X
  have zw : w.heap.size ≤ w10.heap.size := hB.size
  have HG := Lib.hid (And.intro g_A (And.intro g_X (hB)))
  clear g_A g_X hB
  go_wp2_with fail
  with_reducible refine (M11.out w2 _ _ (Nat.le_refl _) (bk HX.out) (bw HBX.out)).mono ?_
  rintro e w11 ⟨rfl, hx_w11, hb_w11⟩
  clear HX HBX HG zw z_A z1_A z2_A y0_A y1_A c_A_0 f_A_0 c_A_1 f_A_1 c_A_2 f_A_2 z_X z1_X z2_X y0_X y1_X c_X_0 f_X_0 c_X_1 f_X_1
  have HX := Lib.hid hx_w11
  have HBX := Lib.hid hb_w11
  have g_A := Hand.kb hb_w11 GA0.out
  have g_X := hx_w11
  have hB := Hand.stepB hb_w11 HB0.out (Nat.le_refl _)
  clear hx_w11 hb_w11
  obtain ⟨z_A, z1_A, z2_A, y0_A, y1_A⟩ := Hand.hz g_A
  obtain ⟨c_A_0, f_A_0, c_A_1, f_A_1, c_A_2, f_A_2⟩ := Hand.hc3 g_A
  obtain ⟨z_X, z1_X, z2_X, y0_X, y1_X⟩ := Hand.hz g_X
  obtain ⟨c_X_0, f_X_0, c_X_1, f_X_1⟩ := Hand.hc2 g_X
  have zw : w.heap.size ≤ w11.heap.size := hB.size
  have HG := Lib.hid (And.intro g_A (And.intro g_X (hB)))
  clear g_A g_X hB
  go_wp2
  go_ret2
  obtain ⟨g_A, g_X, hB⟩ := HG.out
  exact ⟨rfl, hB⟩
set_option maxHeartbeats 800000 in
set_option maxRecDepth 100000 in
theorem cnum_more (n d f h m s k LW : Int) (dr b1 b2 b3 b4 b5 b6 b7 : Bool) (L L1 L2 L3 L4 L5 L6 L7 C : ByteArray) (hb : b7 = false) (hl : L7.toList.isEmpty = false) (w : World) (ht : TabN w)
    (m1 : ∀ w, Calls Tryz.prog 45 #[rate n d dr] w fun e w' => e = .returned (.int .i64 0) ∧ Below w.heap.size w w')
    (m2 : ∀ w, Calls Tryz.prog 53 #[rate n d dr] w fun e w' => e = .returned (.int .i64 f) ∧ Below w.heap.size w w')
    (m3 : ∀ w0 w g, w0.heap.size ≤ g → w.heap[g]? = some (scan L false) → Below w0.heap.size w0 w → Calls Tryz.prog 39 #[.pointer (some ⟨g, 0, none⟩), .int .i64 2] w fun e w' => e = .returned (.int .i64 h) ∧ SL w0 w' g L1 b1)
    (m4 : ∀ w0 w g, w0.heap.size ≤ g → w.heap[g]? = some (scan L1 b1) → Below w0.heap.size w0 w → Calls Tryz.prog 40 #[.pointer (some ⟨g, 0, none⟩), .string ⟨#[58]⟩] w fun e w' => e = .returned (.tuple #[]) ∧ SL w0 w' g L2 b2)
    (m5 : ∀ w0 w g, w0.heap.size ≤ g → w.heap[g]? = some (scan L2 b2) → Below w0.heap.size w0 w → Calls Tryz.prog 41 #[.pointer (some ⟨g, 0, none⟩), .int .i64 2, .int .i64 60] w fun e w' => e = .returned (.int .i64 m) ∧ SL w0 w' g L3 b3)
    (m6 : ∀ w0 w g, w0.heap.size ≤ g → w.heap[g]? = some (scan L3 b3) → Below w0.heap.size w0 w → Calls Tryz.prog 40 #[.pointer (some ⟨g, 0, none⟩), .string ⟨#[58]⟩] w fun e w' => e = .returned (.tuple #[]) ∧ SL w0 w' g L4 b4)
    (m7 : ∀ w0 w g, w0.heap.size ≤ g → w.heap[g]? = some (scan L4 b4) → Below w0.heap.size w0 w → Calls Tryz.prog 41 #[.pointer (some ⟨g, 0, none⟩), .int .i64 2, .int .i64 60] w fun e w' => e = .returned (.int .i64 s) ∧ SL w0 w' g L5 b5)
    (m8 : ∀ w, Calls Tryz.prog 54 #[rate n d dr] w fun e w' => e = .returned (.string C) ∧ Below w.heap.size w w')
    (m9 : ∀ w0 w g, w0.heap.size ≤ g → w.heap[g]? = some (scan L5 b5) → Below w0.heap.size w0 w → Calls Tryz.prog 40 #[.pointer (some ⟨g, 0, none⟩), .string C] w fun e w' => e = .returned (.tuple #[]) ∧ SL w0 w' g L6 b6)
    (m10 : ∀ w, TabN w → Calls Tryz.prog 55 #[rate n d dr] w fun e w' => e = .returned (.int .i64 LW) ∧ Below w.heap.size w w')
    (m11 : ∀ w0 w g, w0.heap.size ≤ g → w.heap[g]? = some (scan L6 b6) → Below w0.heap.size w0 w → Calls Tryz.prog 41 #[.pointer (some ⟨g, 0, none⟩), .int .i64 LW, .int .i64 f] w fun e w' => e = .returned (.int .i64 k) ∧ SL w0 w' g L7 b7) :
    Calls Tryz.prog 20 #[rate n d dr, .string L] w fun e w' => e = .returned (.tuple #[.int .i64 0, .int .i64 13]) ∧ Below w.heap.size w w' := by
  subst hb
  have hl2 : ¬ L7.toList = [] := by intro e; rw [e] at hl; exact absurd hl (by decide)
  have HT0 := Lib.hid ht
  have M1 := Lib.hid m1
  have M2 := Lib.hid m2
  have M3 := Lib.hid m3
  have M4 := Lib.hid m4
  have M5 := Lib.hid m5
  have M6 := Lib.hid m6
  have M7 := Lib.hid m7
  have M8 := Lib.hid m8
  have M9 := Lib.hid m9
  have M10 := Lib.hid m10
  have M11 := Lib.hid m11
  clear m1 m2 m3 m4 m5 m6 m7 m8 m9 m10 m11 ht
  go_enter Tryz.func20, Tryz.ntmps20
  go_wp2_with fail
  with_reducible refine (M1.out _).mono ?_
  rintro e w1 ⟨rfl, hb1⟩
  have h_A : w1.heap[w.heap.size]? = some (.cells #[.int .i64 n, .int .i64 d, .bool dr] 23 (0, 0)) := by
    refine Hand.kb hb1 ?_; simp (disch := first | omega | (simp only [Hand.sa, Hand.ss, Hand.sd, Hand.sn]; first | done | omega)) only [Hand.q2, Hand.q1, Hand.q5, Hand.q6, Hand.q4, Hand.q3] <;> rfl
  have hB' : Below w.heap.size w w1 := Hand.stepB hb1 (by repeat (with_reducible first | apply Below.refl _ _ | apply Below.drew | apply pw_below_drewN | (apply Below.setCell; rotate_left; (dsimp only; omega)) | (apply Below.alloc; rotate_left; (first | omega | (simp only [Hand.sa, Hand.ss, Hand.sd, Hand.sn]; omega))))) (Nat.le_refl _)
  clear hb1
  have g_A := h_A
  have hB := hB'
  clear hB' h_A
  obtain ⟨z_A, z1_A, z2_A, y0_A, y1_A⟩ := Hand.hz g_A
  obtain ⟨c_A_0, f_A_0, c_A_1, f_A_1, c_A_2, f_A_2⟩ := Hand.hc3 g_A
  have zw : w.heap.size ≤ w1.heap.size := hB.size
  have HG := Lib.hid (And.intro g_A (hB))
  clear g_A hB
  go_wp2_with fail
  with_reducible refine (M2.out _).mono ?_
  rintro e w2 ⟨rfl, hb2⟩
  obtain ⟨g_A, hB⟩ := HG.out
  have h_A : w2.heap[w.heap.size]? = some (.cells #[.int .i64 n, .int .i64 d, .bool dr] 23 (0, 0)) := by
    refine Hand.kb hb2 ?_; first | with_reducible exact g_A | (simp (disch := first | omega | (simp only [Hand.sa, Hand.ss, Hand.sd, Hand.sn]; first | done | omega)) only [Hand.q2, Hand.q1, Hand.q5, Hand.q6, Hand.q4, Hand.q3, g_A] <;> rfl)
  have hB' : Below w.heap.size w w2 := Hand.stepB hb2 (by repeat (with_reducible first | apply hB | apply Below.drew | apply pw_below_drewN | (apply Below.setCell; rotate_left; (dsimp only; omega)) | (apply Below.alloc; rotate_left; (first | omega | (simp only [Hand.sa, Hand.ss, Hand.sd, Hand.sn]; omega))))) (Nat.le_refl _)
  clear HG hB g_A zw z_A z1_A z2_A y0_A y1_A c_A_0 f_A_0 c_A_1 f_A_1 c_A_2 f_A_2
  clear hb2
  have g_A := h_A
  have hB := hB'
  clear hB' h_A
  obtain ⟨z_A, z1_A, z2_A, y0_A, y1_A⟩ := Hand.hz g_A
  obtain ⟨c_A_0, f_A_0, c_A_1, f_A_1, c_A_2, f_A_2⟩ := Hand.hc3 g_A
  have zw : w.heap.size ≤ w2.heap.size := hB.size
  have HG := Lib.hid (And.intro g_A (hB))
  clear g_A hB
  have GA0 := Lib.hid (show w2.heap[w.heap.size]? = some (.cells #[.int .i64 n, .int .i64 d, .bool dr] 23 (0, 0)) from HG.out.1)
  have HB0 := Lib.hid (show Below w.heap.size w w2 from HG.out.2)
  have HT2 := Lib.hid (tab_below HT0.out HB0.out)
  go_wp2_with fail
  obtain ⟨W, hW⟩ : ∃ W_, W_ = w2.alloc (scan L false) := ⟨_, rfl⟩
  rw [← hW]
  have hx_W : W.heap[w2.heap.size]? = some (scan L false) := by rw [hW]; exact Hand.q3 _ _ _ rfl
  have hb_W : Below w2.heap.size w2 W := by rw [hW]; exact (Below.refl _ _).alloc (Nat.le_refl _) _
  clear hW
  clear HG zw z_A z1_A z2_A y0_A y1_A c_A_0 f_A_0 c_A_1 f_A_1 c_A_2 f_A_2
  have HX := Lib.hid hx_W
  have HBX := Lib.hid hb_W
  have g_A := Hand.kb hb_W GA0.out
  have g_X := hx_W
  have hB := Hand.stepB hb_W HB0.out (Nat.le_refl _)
  clear hx_W hb_W
  obtain ⟨z_A, z1_A, z2_A, y0_A, y1_A⟩ := Hand.hz g_A
  obtain ⟨c_A_0, f_A_0, c_A_1, f_A_1, c_A_2, f_A_2⟩ := Hand.hc3 g_A
  obtain ⟨z_X, z1_X, z2_X, y0_X, y1_X⟩ := Hand.hz g_X
  obtain ⟨c_X_0, f_X_0, c_X_1, f_X_1⟩ := Hand.hc2 g_X
  have zw : w.heap.size ≤ W.heap.size := hB.size
  have HG := Lib.hid (And.intro g_A (And.intro g_X (hB)))
  clear g_A g_X hB
  go_wp2_with fail
  with_reducible refine (M3.out w2 _ _ (Nat.le_refl _) (bk HX.out) (bw HBX.out)).mono ?_
  rintro e w3 ⟨rfl, hx_w3, hb_w3⟩
  clear HX HBX HG zw z_A z1_A z2_A y0_A y1_A c_A_0 f_A_0 c_A_1 f_A_1 c_A_2 f_A_2 z_X z1_X z2_X y0_X y1_X c_X_0 f_X_0 c_X_1 f_X_1
  have HX := Lib.hid hx_w3
  have HBX := Lib.hid hb_w3
  have g_A := Hand.kb hb_w3 GA0.out
  have g_X := hx_w3
  have hB := Hand.stepB hb_w3 HB0.out (Nat.le_refl _)
  clear hx_w3 hb_w3
  obtain ⟨z_A, z1_A, z2_A, y0_A, y1_A⟩ := Hand.hz g_A
  obtain ⟨c_A_0, f_A_0, c_A_1, f_A_1, c_A_2, f_A_2⟩ := Hand.hc3 g_A
  obtain ⟨z_X, z1_X, z2_X, y0_X, y1_X⟩ := Hand.hz g_X
  obtain ⟨c_X_0, f_X_0, c_X_1, f_X_1⟩ := Hand.hc2 g_X
  have zw : w.heap.size ≤ w3.heap.size := hB.size
  have HG := Lib.hid (And.intro g_A (And.intro g_X (hB)))
  clear g_A g_X hB
  go_wp2_with fail
  with_reducible refine (M4.out w2 _ _ (Nat.le_refl _) (bk HX.out) (bw HBX.out)).mono ?_
  rintro e w4 ⟨rfl, hx_w4, hb_w4⟩
  clear HX HBX HG zw z_A z1_A z2_A y0_A y1_A c_A_0 f_A_0 c_A_1 f_A_1 c_A_2 f_A_2 z_X z1_X z2_X y0_X y1_X c_X_0 f_X_0 c_X_1 f_X_1
  have HX := Lib.hid hx_w4
  have HBX := Lib.hid hb_w4
  have g_A := Hand.kb hb_w4 GA0.out
  have g_X := hx_w4
  have hB := Hand.stepB hb_w4 HB0.out (Nat.le_refl _)
  clear hx_w4 hb_w4
  obtain ⟨z_A, z1_A, z2_A, y0_A, y1_A⟩ := Hand.hz g_A
  obtain ⟨c_A_0, f_A_0, c_A_1, f_A_1, c_A_2, f_A_2⟩ := Hand.hc3 g_A
  obtain ⟨z_X, z1_X, z2_X, y0_X, y1_X⟩ := Hand.hz g_X
  obtain ⟨c_X_0, f_X_0, c_X_1, f_X_1⟩ := Hand.hc2 g_X
  have zw : w.heap.size ≤ w4.heap.size := hB.size
  have HG := Lib.hid (And.intro g_A (And.intro g_X (hB)))
  clear g_A g_X hB
  go_wp2_with fail
  with_reducible refine (M5.out w2 _ _ (Nat.le_refl _) (bk HX.out) (bw HBX.out)).mono ?_
  rintro e w5 ⟨rfl, hx_w5, hb_w5⟩
  clear HX HBX HG zw z_A z1_A z2_A y0_A y1_A c_A_0 f_A_0 c_A_1 f_A_1 c_A_2 f_A_2 z_X z1_X z2_X y0_X y1_X c_X_0 f_X_0 c_X_1 f_X_1
  have HX := Lib.hid hx_w5
  have HBX := Lib.hid hb_w5
  have g_A := Hand.kb hb_w5 GA0.out
  have g_X := hx_w5
  have hB := Hand.stepB hb_w5 HB0.out (Nat.le_refl _)
  clear hx_w5 hb_w5
  obtain ⟨z_A, z1_A, z2_A, y0_A, y1_A⟩ := Hand.hz g_A
  obtain ⟨c_A_0, f_A_0, c_A_1, f_A_1, c_A_2, f_A_2⟩ := Hand.hc3 g_A
  obtain ⟨z_X, z1_X, z2_X, y0_X, y1_X⟩ := Hand.hz g_X
  obtain ⟨c_X_0, f_X_0, c_X_1, f_X_1⟩ := Hand.hc2 g_X
  have zw : w.heap.size ≤ w5.heap.size := hB.size
  have HG := Lib.hid (And.intro g_A (And.intro g_X (hB)))
  clear g_A g_X hB
  go_wp2_with fail
  with_reducible refine (M6.out w2 _ _ (Nat.le_refl _) (bk HX.out) (bw HBX.out)).mono ?_
  rintro e w6 ⟨rfl, hx_w6, hb_w6⟩
  clear HX HBX HG zw z_A z1_A z2_A y0_A y1_A c_A_0 f_A_0 c_A_1 f_A_1 c_A_2 f_A_2 z_X z1_X z2_X y0_X y1_X c_X_0 f_X_0 c_X_1 f_X_1
  have HX := Lib.hid hx_w6
  have HBX := Lib.hid hb_w6
  have g_A := Hand.kb hb_w6 GA0.out
  have g_X := hx_w6
  have hB := Hand.stepB hb_w6 HB0.out (Nat.le_refl _)
  clear hx_w6 hb_w6
  obtain ⟨z_A, z1_A, z2_A, y0_A, y1_A⟩ := Hand.hz g_A
  obtain ⟨c_A_0, f_A_0, c_A_1, f_A_1, c_A_2, f_A_2⟩ := Hand.hc3 g_A
  obtain ⟨z_X, z1_X, z2_X, y0_X, y1_X⟩ := Hand.hz g_X
  obtain ⟨c_X_0, f_X_0, c_X_1, f_X_1⟩ := Hand.hc2 g_X
  have zw : w.heap.size ≤ w6.heap.size := hB.size
  have HG := Lib.hid (And.intro g_A (And.intro g_X (hB)))
  clear g_A g_X hB
  go_wp2_with fail
  with_reducible refine (M7.out w2 _ _ (Nat.le_refl _) (bk HX.out) (bw HBX.out)).mono ?_
  rintro e w7 ⟨rfl, hx_w7, hb_w7⟩
  clear HX HBX HG zw z_A z1_A z2_A y0_A y1_A c_A_0 f_A_0 c_A_1 f_A_1 c_A_2 f_A_2 z_X z1_X z2_X y0_X y1_X c_X_0 f_X_0 c_X_1 f_X_1
  have HX := Lib.hid hx_w7
  have HBX := Lib.hid hb_w7
  have g_A := Hand.kb hb_w7 GA0.out
  have g_X := hx_w7
  have hB := Hand.stepB hb_w7 HB0.out (Nat.le_refl _)
  clear hx_w7 hb_w7
  obtain ⟨z_A, z1_A, z2_A, y0_A, y1_A⟩ := Hand.hz g_A
  obtain ⟨c_A_0, f_A_0, c_A_1, f_A_1, c_A_2, f_A_2⟩ := Hand.hc3 g_A
  obtain ⟨z_X, z1_X, z2_X, y0_X, y1_X⟩ := Hand.hz g_X
  obtain ⟨c_X_0, f_X_0, c_X_1, f_X_1⟩ := Hand.hc2 g_X
  have zw : w.heap.size ≤ w7.heap.size := hB.size
  have HG := Lib.hid (And.intro g_A (And.intro g_X (hB)))
  clear g_A g_X hB
  go_wp2_with fail
  with_reducible refine (M8.out _).mono ?_
  rintro e w8 ⟨rfl, hq⟩
  have hx_w8 := Hand.kb hq (bk HX.out)
  have hb_w8 := Hand.stepB hq (bw HBX.out) (Nat.le_refl _)
  clear hq
  clear HX HBX HG zw z_A z1_A z2_A y0_A y1_A c_A_0 f_A_0 c_A_1 f_A_1 c_A_2 f_A_2 z_X z1_X z2_X y0_X y1_X c_X_0 f_X_0 c_X_1 f_X_1
  have HX := Lib.hid hx_w8
  have HBX := Lib.hid hb_w8
  have g_A := Hand.kb hb_w8 GA0.out
  have g_X := hx_w8
  have hB := Hand.stepB hb_w8 HB0.out (Nat.le_refl _)
  clear hx_w8 hb_w8
  obtain ⟨z_A, z1_A, z2_A, y0_A, y1_A⟩ := Hand.hz g_A
  obtain ⟨c_A_0, f_A_0, c_A_1, f_A_1, c_A_2, f_A_2⟩ := Hand.hc3 g_A
  obtain ⟨z_X, z1_X, z2_X, y0_X, y1_X⟩ := Hand.hz g_X
  obtain ⟨c_X_0, f_X_0, c_X_1, f_X_1⟩ := Hand.hc2 g_X
  have zw : w.heap.size ≤ w8.heap.size := hB.size
  have HG := Lib.hid (And.intro g_A (And.intro g_X (hB)))
  clear g_A g_X hB
  go_wp2_with fail
  with_reducible refine (M9.out w2 _ _ (Nat.le_refl _) (bk HX.out) (bw HBX.out)).mono ?_
  rintro e w9 ⟨rfl, hx_w9, hb_w9⟩
  clear HX HBX HG zw z_A z1_A z2_A y0_A y1_A c_A_0 f_A_0 c_A_1 f_A_1 c_A_2 f_A_2 z_X z1_X z2_X y0_X y1_X c_X_0 f_X_0 c_X_1 f_X_1
  have HX := Lib.hid hx_w9
  have HBX := Lib.hid hb_w9
  have g_A := Hand.kb hb_w9 GA0.out
  have g_X := hx_w9
  have hB := Hand.stepB hb_w9 HB0.out (Nat.le_refl _)
  clear hx_w9 hb_w9
  obtain ⟨z_A, z1_A, z2_A, y0_A, y1_A⟩ := Hand.hz g_A
  obtain ⟨c_A_0, f_A_0, c_A_1, f_A_1, c_A_2, f_A_2⟩ := Hand.hc3 g_A
  obtain ⟨z_X, z1_X, z2_X, y0_X, y1_X⟩ := Hand.hz g_X
  obtain ⟨c_X_0, f_X_0, c_X_1, f_X_1⟩ := Hand.hc2 g_X
  have zw : w.heap.size ≤ w9.heap.size := hB.size
  have HG := Lib.hid (And.intro g_A (And.intro g_X (hB)))
  clear g_A g_X hB
  go_wp2_with fail
  with_reducible refine (M10.out _ (tab_below HT2.out (bw HBX.out))).mono ?_
  rintro e w10 ⟨rfl, hq⟩
  have hx_w10 := Hand.kb hq (bk HX.out)
  have hb_w10 := Hand.stepB hq (bw HBX.out) (Nat.le_refl _)
  clear hq
  clear HX HBX HG zw z_A z1_A z2_A y0_A y1_A c_A_0 f_A_0 c_A_1 f_A_1 c_A_2 f_A_2 z_X z1_X z2_X y0_X y1_X c_X_0 f_X_0 c_X_1 f_X_1
  have HX := Lib.hid hx_w10
  have HBX := Lib.hid hb_w10
  have g_A := Hand.kb hb_w10 GA0.out
  have g_X := hx_w10
  have hB := Hand.stepB hb_w10 HB0.out (Nat.le_refl _)
  clear hx_w10 hb_w10
  obtain ⟨z_A, z1_A, z2_A, y0_A, y1_A⟩ := Hand.hz g_A
  obtain ⟨c_A_0, f_A_0, c_A_1, f_A_1, c_A_2, f_A_2⟩ := Hand.hc3 g_A
  obtain ⟨z_X, z1_X, z2_X, y0_X, y1_X⟩ := Hand.hz g_X
  obtain ⟨c_X_0, f_X_0, c_X_1, f_X_1⟩ := Hand.hc2 g_X
  have zw : w.heap.size ≤ w10.heap.size := hB.size
  have HG := Lib.hid (And.intro g_A (And.intro g_X (hB)))
  clear g_A g_X hB
  go_wp2_with fail
  with_reducible refine (M11.out w2 _ _ (Nat.le_refl _) (bk HX.out) (bw HBX.out)).mono ?_
  rintro e w11 ⟨rfl, hx_w11, hb_w11⟩
  clear HX HBX HG zw z_A z1_A z2_A y0_A y1_A c_A_0 f_A_0 c_A_1 f_A_1 c_A_2 f_A_2 z_X z1_X z2_X y0_X y1_X c_X_0 f_X_0 c_X_1 f_X_1
  have HX := Lib.hid hx_w11
  have HBX := Lib.hid hb_w11
  have g_A := Hand.kb hb_w11 GA0.out
  have g_X := hx_w11
  have hB := Hand.stepB hb_w11 HB0.out (Nat.le_refl _)
  clear hx_w11 hb_w11
  obtain ⟨z_A, z1_A, z2_A, y0_A, y1_A⟩ := Hand.hz g_A
  obtain ⟨c_A_0, f_A_0, c_A_1, f_A_1, c_A_2, f_A_2⟩ := Hand.hc3 g_A
  obtain ⟨z_X, z1_X, z2_X, y0_X, y1_X⟩ := Hand.hz g_X
  obtain ⟨c_X_0, f_X_0, c_X_1, f_X_1⟩ := Hand.hc2 g_X
  have zw : w.heap.size ≤ w11.heap.size := hB.size
  have HG := Lib.hid (And.intro g_A (And.intro g_X (hB)))
  clear g_A g_X hB
  go_wp2
  go_ret2
  obtain ⟨g_A, g_X, hB⟩ := HG.out
  exact ⟨rfl, hB⟩
set_option maxHeartbeats 1600000 in
set_option maxRecDepth 100000 in
theorem cnum_plain (n d f h m s k LW : Int) (b1 b2 b3 b4 b5 b6 b7 : Bool) (L L1 L2 L3 L4 L5 L6 L7 C : ByteArray) (hb : b7 = false) (hl : L7 = ⟨#[]⟩) (f0 : 1 ≤ f) (f1 : f ≤ 240) (h0 : 0 ≤ h) (h1 : h ≤ 999) (m0 : 0 ≤ m) (mb : m < 60) (s0 : 0 ≤ s) (sb : s < 60) (k0 : 0 ≤ k) (kf : k < f) (M T P N : Int) (hM : 60 * h + m = M) (hT : 60 * M + s = T) (hP : f * T = P) (hN : k + P = N) (N0 : 0 ≤ N) (N1 : N ≤ 1000000000) (w : World) (ht : TabN w)
    (m1 : ∀ w, Calls Tryz.prog 45 #[rate n d false] w fun e w' => e = .returned (.int .i64 0) ∧ Below w.heap.size w w')
    (m2 : ∀ w, Calls Tryz.prog 53 #[rate n d false] w fun e w' => e = .returned (.int .i64 f) ∧ Below w.heap.size w w')
    (m3 : ∀ w0 w g, w0.heap.size ≤ g → w.heap[g]? = some (scan L false) → Below w0.heap.size w0 w → Calls Tryz.prog 39 #[.pointer (some ⟨g, 0, none⟩), .int .i64 2] w fun e w' => e = .returned (.int .i64 h) ∧ SL w0 w' g L1 b1)
    (m4 : ∀ w0 w g, w0.heap.size ≤ g → w.heap[g]? = some (scan L1 b1) → Below w0.heap.size w0 w → Calls Tryz.prog 40 #[.pointer (some ⟨g, 0, none⟩), .string ⟨#[58]⟩] w fun e w' => e = .returned (.tuple #[]) ∧ SL w0 w' g L2 b2)
    (m5 : ∀ w0 w g, w0.heap.size ≤ g → w.heap[g]? = some (scan L2 b2) → Below w0.heap.size w0 w → Calls Tryz.prog 41 #[.pointer (some ⟨g, 0, none⟩), .int .i64 2, .int .i64 60] w fun e w' => e = .returned (.int .i64 m) ∧ SL w0 w' g L3 b3)
    (m6 : ∀ w0 w g, w0.heap.size ≤ g → w.heap[g]? = some (scan L3 b3) → Below w0.heap.size w0 w → Calls Tryz.prog 40 #[.pointer (some ⟨g, 0, none⟩), .string ⟨#[58]⟩] w fun e w' => e = .returned (.tuple #[]) ∧ SL w0 w' g L4 b4)
    (m7 : ∀ w0 w g, w0.heap.size ≤ g → w.heap[g]? = some (scan L4 b4) → Below w0.heap.size w0 w → Calls Tryz.prog 41 #[.pointer (some ⟨g, 0, none⟩), .int .i64 2, .int .i64 60] w fun e w' => e = .returned (.int .i64 s) ∧ SL w0 w' g L5 b5)
    (m8 : ∀ w, Calls Tryz.prog 54 #[rate n d false] w fun e w' => e = .returned (.string C) ∧ Below w.heap.size w w')
    (m9 : ∀ w0 w g, w0.heap.size ≤ g → w.heap[g]? = some (scan L5 b5) → Below w0.heap.size w0 w → Calls Tryz.prog 40 #[.pointer (some ⟨g, 0, none⟩), .string C] w fun e w' => e = .returned (.tuple #[]) ∧ SL w0 w' g L6 b6)
    (m10 : ∀ w, TabN w → Calls Tryz.prog 55 #[rate n d false] w fun e w' => e = .returned (.int .i64 LW) ∧ Below w.heap.size w w')
    (m11 : ∀ w0 w g, w0.heap.size ≤ g → w.heap[g]? = some (scan L6 b6) → Below w0.heap.size w0 w → Calls Tryz.prog 41 #[.pointer (some ⟨g, 0, none⟩), .int .i64 LW, .int .i64 f] w fun e w' => e = .returned (.int .i64 k) ∧ SL w0 w' g L7 b7)
    (m13 : ∀ w, Calls Tryz.prog 51 #[rate n d false, .int .i64 N] w fun e w' => e = .returned (.bool true) ∧ Below w.heap.size w w') :
    Calls Tryz.prog 20 #[rate n d false, .string L] w fun e w' => e = .returned (.tuple #[.int .i64 N, .int .i64 0]) ∧ Below w.heap.size w w' := by
  subst hb
  subst hl
  have hf2 : ¬ f = 0 := by omega
  have M0 : 0 ≤ M := by omega
  have M1' : M ≤ 60000 := by omega
  have T0 : 0 ≤ T := by omega
  have T1 : T ≤ 3600060 := by omega
  have P0 : 0 ≤ P := by rw [← hP]; exact Int.mul_nonneg (by omega) T0
  have P1 : P ≤ 1000000000 := by omega
  have HT0 := Lib.hid ht
  have M1 := Lib.hid m1
  have M2 := Lib.hid m2
  have M3 := Lib.hid m3
  have M4 := Lib.hid m4
  have M5 := Lib.hid m5
  have M6 := Lib.hid m6
  have M7 := Lib.hid m7
  have M8 := Lib.hid m8
  have M9 := Lib.hid m9
  have M10 := Lib.hid m10
  have M11 := Lib.hid m11
  have M13 := Lib.hid m13
  clear m1 m2 m3 m4 m5 m6 m7 m8 m9 m10 m11 m13 ht
  go_enter Tryz.func20, Tryz.ntmps20
  go_wp2_with fail
  with_reducible refine (M1.out _).mono ?_
  rintro e w1 ⟨rfl, hb1⟩
  have h_A : w1.heap[w.heap.size]? = some (.cells #[.int .i64 n, .int .i64 d, .bool false] 23 (0, 0)) := by
    refine Hand.kb hb1 ?_; simp (disch := first | omega | (simp only [Hand.sa, Hand.ss, Hand.sd, Hand.sn]; first | done | omega)) only [Hand.q2, Hand.q1, Hand.q5, Hand.q6, Hand.q4, Hand.q3] <;> rfl
  have hB' : Below w.heap.size w w1 := Hand.stepB hb1 (by repeat (with_reducible first | apply Below.refl _ _ | apply Below.drew | apply pw_below_drewN | (apply Below.setCell; rotate_left; (dsimp only; omega)) | (apply Below.alloc; rotate_left; (first | omega | (simp only [Hand.sa, Hand.ss, Hand.sd, Hand.sn]; omega))))) (Nat.le_refl _)
  clear hb1
  have g_A := h_A
  have hB := hB'
  clear hB' h_A
  obtain ⟨z_A, z1_A, z2_A, y0_A, y1_A⟩ := Hand.hz g_A
  obtain ⟨c_A_0, f_A_0, c_A_1, f_A_1, c_A_2, f_A_2⟩ := Hand.hc3 g_A
  have zw : w.heap.size ≤ w1.heap.size := hB.size
  have HG := Lib.hid (And.intro g_A (hB))
  clear g_A hB
  go_wp2_with fail
  with_reducible refine (M2.out _).mono ?_
  rintro e w2 ⟨rfl, hb2⟩
  obtain ⟨g_A, hB⟩ := HG.out
  have h_A : w2.heap[w.heap.size]? = some (.cells #[.int .i64 n, .int .i64 d, .bool false] 23 (0, 0)) := by
    refine Hand.kb hb2 ?_; first | with_reducible exact g_A | (simp (disch := first | omega | (simp only [Hand.sa, Hand.ss, Hand.sd, Hand.sn]; first | done | omega)) only [Hand.q2, Hand.q1, Hand.q5, Hand.q6, Hand.q4, Hand.q3, g_A] <;> rfl)
  have hB' : Below w.heap.size w w2 := Hand.stepB hb2 (by repeat (with_reducible first | apply hB | apply Below.drew | apply pw_below_drewN | (apply Below.setCell; rotate_left; (dsimp only; omega)) | (apply Below.alloc; rotate_left; (first | omega | (simp only [Hand.sa, Hand.ss, Hand.sd, Hand.sn]; omega))))) (Nat.le_refl _)
  clear HG hB g_A zw z_A z1_A z2_A y0_A y1_A c_A_0 f_A_0 c_A_1 f_A_1 c_A_2 f_A_2
  clear hb2
  have g_A := h_A
  have hB := hB'
  clear hB' h_A
  obtain ⟨z_A, z1_A, z2_A, y0_A, y1_A⟩ := Hand.hz g_A
  obtain ⟨c_A_0, f_A_0, c_A_1, f_A_1, c_A_2, f_A_2⟩ := Hand.hc3 g_A
  have zw : w.heap.size ≤ w2.heap.size := hB.size
  have HG := Lib.hid (And.intro g_A (hB))
  clear g_A hB
  have GA0 := Lib.hid (show w2.heap[w.heap.size]? = some (.cells #[.int .i64 n, .int .i64 d, .bool false] 23 (0, 0)) from HG.out.1)
  have HB0 := Lib.hid (show Below w.heap.size w w2 from HG.out.2)
  have HT2 := Lib.hid (tab_below HT0.out HB0.out)
  go_wp2_with fail
  obtain ⟨W, hW⟩ : ∃ W_, W_ = w2.alloc (scan L false) := ⟨_, rfl⟩
  rw [← hW]
  have hx_W : W.heap[w2.heap.size]? = some (scan L false) := by rw [hW]; exact Hand.q3 _ _ _ rfl
  have hb_W : Below w2.heap.size w2 W := by rw [hW]; exact (Below.refl _ _).alloc (Nat.le_refl _) _
  clear hW
  clear HG zw z_A z1_A z2_A y0_A y1_A c_A_0 f_A_0 c_A_1 f_A_1 c_A_2 f_A_2
  have HX := Lib.hid hx_W
  have HBX := Lib.hid hb_W
  have g_A := Hand.kb hb_W GA0.out
  have g_X := hx_W
  have hB := Hand.stepB hb_W HB0.out (Nat.le_refl _)
  clear hx_W hb_W
  obtain ⟨z_A, z1_A, z2_A, y0_A, y1_A⟩ := Hand.hz g_A
  obtain ⟨c_A_0, f_A_0, c_A_1, f_A_1, c_A_2, f_A_2⟩ := Hand.hc3 g_A
  obtain ⟨z_X, z1_X, z2_X, y0_X, y1_X⟩ := Hand.hz g_X
  obtain ⟨c_X_0, f_X_0, c_X_1, f_X_1⟩ := Hand.hc2 g_X
  have zw : w.heap.size ≤ W.heap.size := hB.size
  have HG := Lib.hid (And.intro g_A (And.intro g_X (hB)))
  clear g_A g_X hB
  go_wp2_with fail
  with_reducible refine (M3.out w2 _ _ (Nat.le_refl _) (bk HX.out) (bw HBX.out)).mono ?_
  rintro e w3 ⟨rfl, hx_w3, hb_w3⟩
  clear HX HBX HG zw z_A z1_A z2_A y0_A y1_A c_A_0 f_A_0 c_A_1 f_A_1 c_A_2 f_A_2 z_X z1_X z2_X y0_X y1_X c_X_0 f_X_0 c_X_1 f_X_1
  have HX := Lib.hid hx_w3
  have HBX := Lib.hid hb_w3
  have g_A := Hand.kb hb_w3 GA0.out
  have g_X := hx_w3
  have hB := Hand.stepB hb_w3 HB0.out (Nat.le_refl _)
  clear hx_w3 hb_w3
  obtain ⟨z_A, z1_A, z2_A, y0_A, y1_A⟩ := Hand.hz g_A
  obtain ⟨c_A_0, f_A_0, c_A_1, f_A_1, c_A_2, f_A_2⟩ := Hand.hc3 g_A
  obtain ⟨z_X, z1_X, z2_X, y0_X, y1_X⟩ := Hand.hz g_X
  obtain ⟨c_X_0, f_X_0, c_X_1, f_X_1⟩ := Hand.hc2 g_X
  have zw : w.heap.size ≤ w3.heap.size := hB.size
  have HG := Lib.hid (And.intro g_A (And.intro g_X (hB)))
  clear g_A g_X hB
  go_wp2_with fail
  with_reducible refine (M4.out w2 _ _ (Nat.le_refl _) (bk HX.out) (bw HBX.out)).mono ?_
  rintro e w4 ⟨rfl, hx_w4, hb_w4⟩
  clear HX HBX HG zw z_A z1_A z2_A y0_A y1_A c_A_0 f_A_0 c_A_1 f_A_1 c_A_2 f_A_2 z_X z1_X z2_X y0_X y1_X c_X_0 f_X_0 c_X_1 f_X_1
  have HX := Lib.hid hx_w4
  have HBX := Lib.hid hb_w4
  have g_A := Hand.kb hb_w4 GA0.out
  have g_X := hx_w4
  have hB := Hand.stepB hb_w4 HB0.out (Nat.le_refl _)
  clear hx_w4 hb_w4
  obtain ⟨z_A, z1_A, z2_A, y0_A, y1_A⟩ := Hand.hz g_A
  obtain ⟨c_A_0, f_A_0, c_A_1, f_A_1, c_A_2, f_A_2⟩ := Hand.hc3 g_A
  obtain ⟨z_X, z1_X, z2_X, y0_X, y1_X⟩ := Hand.hz g_X
  obtain ⟨c_X_0, f_X_0, c_X_1, f_X_1⟩ := Hand.hc2 g_X
  have zw : w.heap.size ≤ w4.heap.size := hB.size
  have HG := Lib.hid (And.intro g_A (And.intro g_X (hB)))
  clear g_A g_X hB
  go_wp2_with fail
  with_reducible refine (M5.out w2 _ _ (Nat.le_refl _) (bk HX.out) (bw HBX.out)).mono ?_
  rintro e w5 ⟨rfl, hx_w5, hb_w5⟩
  clear HX HBX HG zw z_A z1_A z2_A y0_A y1_A c_A_0 f_A_0 c_A_1 f_A_1 c_A_2 f_A_2 z_X z1_X z2_X y0_X y1_X c_X_0 f_X_0 c_X_1 f_X_1
  have HX := Lib.hid hx_w5
  have HBX := Lib.hid hb_w5
  have g_A := Hand.kb hb_w5 GA0.out
  have g_X := hx_w5
  have hB := Hand.stepB hb_w5 HB0.out (Nat.le_refl _)
  clear hx_w5 hb_w5
  obtain ⟨z_A, z1_A, z2_A, y0_A, y1_A⟩ := Hand.hz g_A
  obtain ⟨c_A_0, f_A_0, c_A_1, f_A_1, c_A_2, f_A_2⟩ := Hand.hc3 g_A
  obtain ⟨z_X, z1_X, z2_X, y0_X, y1_X⟩ := Hand.hz g_X
  obtain ⟨c_X_0, f_X_0, c_X_1, f_X_1⟩ := Hand.hc2 g_X
  have zw : w.heap.size ≤ w5.heap.size := hB.size
  have HG := Lib.hid (And.intro g_A (And.intro g_X (hB)))
  clear g_A g_X hB
  go_wp2_with fail
  with_reducible refine (M6.out w2 _ _ (Nat.le_refl _) (bk HX.out) (bw HBX.out)).mono ?_
  rintro e w6 ⟨rfl, hx_w6, hb_w6⟩
  clear HX HBX HG zw z_A z1_A z2_A y0_A y1_A c_A_0 f_A_0 c_A_1 f_A_1 c_A_2 f_A_2 z_X z1_X z2_X y0_X y1_X c_X_0 f_X_0 c_X_1 f_X_1
  have HX := Lib.hid hx_w6
  have HBX := Lib.hid hb_w6
  have g_A := Hand.kb hb_w6 GA0.out
  have g_X := hx_w6
  have hB := Hand.stepB hb_w6 HB0.out (Nat.le_refl _)
  clear hx_w6 hb_w6
  obtain ⟨z_A, z1_A, z2_A, y0_A, y1_A⟩ := Hand.hz g_A
  obtain ⟨c_A_0, f_A_0, c_A_1, f_A_1, c_A_2, f_A_2⟩ := Hand.hc3 g_A
  obtain ⟨z_X, z1_X, z2_X, y0_X, y1_X⟩ := Hand.hz g_X
  obtain ⟨c_X_0, f_X_0, c_X_1, f_X_1⟩ := Hand.hc2 g_X
  have zw : w.heap.size ≤ w6.heap.size := hB.size
  have HG := Lib.hid (And.intro g_A (And.intro g_X (hB)))
  clear g_A g_X hB
  go_wp2_with fail
  with_reducible refine (M7.out w2 _ _ (Nat.le_refl _) (bk HX.out) (bw HBX.out)).mono ?_
  rintro e w7 ⟨rfl, hx_w7, hb_w7⟩
  clear HX HBX HG zw z_A z1_A z2_A y0_A y1_A c_A_0 f_A_0 c_A_1 f_A_1 c_A_2 f_A_2 z_X z1_X z2_X y0_X y1_X c_X_0 f_X_0 c_X_1 f_X_1
  have HX := Lib.hid hx_w7
  have HBX := Lib.hid hb_w7
  have g_A := Hand.kb hb_w7 GA0.out
  have g_X := hx_w7
  have hB := Hand.stepB hb_w7 HB0.out (Nat.le_refl _)
  clear hx_w7 hb_w7
  obtain ⟨z_A, z1_A, z2_A, y0_A, y1_A⟩ := Hand.hz g_A
  obtain ⟨c_A_0, f_A_0, c_A_1, f_A_1, c_A_2, f_A_2⟩ := Hand.hc3 g_A
  obtain ⟨z_X, z1_X, z2_X, y0_X, y1_X⟩ := Hand.hz g_X
  obtain ⟨c_X_0, f_X_0, c_X_1, f_X_1⟩ := Hand.hc2 g_X
  have zw : w.heap.size ≤ w7.heap.size := hB.size
  have HG := Lib.hid (And.intro g_A (And.intro g_X (hB)))
  clear g_A g_X hB
  go_wp2_with fail
  with_reducible refine (M8.out _).mono ?_
  rintro e w8 ⟨rfl, hq⟩
  have hx_w8 := Hand.kb hq (bk HX.out)
  have hb_w8 := Hand.stepB hq (bw HBX.out) (Nat.le_refl _)
  clear hq
  clear HX HBX HG zw z_A z1_A z2_A y0_A y1_A c_A_0 f_A_0 c_A_1 f_A_1 c_A_2 f_A_2 z_X z1_X z2_X y0_X y1_X c_X_0 f_X_0 c_X_1 f_X_1
  have HX := Lib.hid hx_w8
  have HBX := Lib.hid hb_w8
  have g_A := Hand.kb hb_w8 GA0.out
  have g_X := hx_w8
  have hB := Hand.stepB hb_w8 HB0.out (Nat.le_refl _)
  clear hx_w8 hb_w8
  obtain ⟨z_A, z1_A, z2_A, y0_A, y1_A⟩ := Hand.hz g_A
  obtain ⟨c_A_0, f_A_0, c_A_1, f_A_1, c_A_2, f_A_2⟩ := Hand.hc3 g_A
  obtain ⟨z_X, z1_X, z2_X, y0_X, y1_X⟩ := Hand.hz g_X
  obtain ⟨c_X_0, f_X_0, c_X_1, f_X_1⟩ := Hand.hc2 g_X
  have zw : w.heap.size ≤ w8.heap.size := hB.size
  have HG := Lib.hid (And.intro g_A (And.intro g_X (hB)))
  clear g_A g_X hB
  go_wp2_with fail
  with_reducible refine (M9.out w2 _ _ (Nat.le_refl _) (bk HX.out) (bw HBX.out)).mono ?_
  rintro e w9 ⟨rfl, hx_w9, hb_w9⟩
  clear HX HBX HG zw z_A z1_A z2_A y0_A y1_A c_A_0 f_A_0 c_A_1 f_A_1 c_A_2 f_A_2 z_X z1_X z2_X y0_X y1_X c_X_0 f_X_0 c_X_1 f_X_1
  have HX := Lib.hid hx_w9
  have HBX := Lib.hid hb_w9
  have g_A := Hand.kb hb_w9 GA0.out
  have g_X := hx_w9
  have hB := Hand.stepB hb_w9 HB0.out (Nat.le_refl _)
  clear hx_w9 hb_w9
  obtain ⟨z_A, z1_A, z2_A, y0_A, y1_A⟩ := Hand.hz g_A
  obtain ⟨c_A_0, f_A_0, c_A_1, f_A_1, c_A_2, f_A_2⟩ := Hand.hc3 g_A
  obtain ⟨z_X, z1_X, z2_X, y0_X, y1_X⟩ := Hand.hz g_X
  obtain ⟨c_X_0, f_X_0, c_X_1, f_X_1⟩ := Hand.hc2 g_X
  have zw : w.heap.size ≤ w9.heap.size := hB.size
  have HG := Lib.hid (And.intro g_A (And.intro g_X (hB)))
  clear g_A g_X hB
  go_wp2_with fail
  with_reducible refine (M10.out _ (tab_below HT2.out (bw HBX.out))).mono ?_
  rintro e w10 ⟨rfl, hq⟩
  have hx_w10 := Hand.kb hq (bk HX.out)
  have hb_w10 := Hand.stepB hq (bw HBX.out) (Nat.le_refl _)
  clear hq
  clear HX HBX HG zw z_A z1_A z2_A y0_A y1_A c_A_0 f_A_0 c_A_1 f_A_1 c_A_2 f_A_2 z_X z1_X z2_X y0_X y1_X c_X_0 f_X_0 c_X_1 f_X_1
  have HX := Lib.hid hx_w10
  have HBX := Lib.hid hb_w10
  have g_A := Hand.kb hb_w10 GA0.out
  have g_X := hx_w10
  have hB := Hand.stepB hb_w10 HB0.out (Nat.le_refl _)
  clear hx_w10 hb_w10
  obtain ⟨z_A, z1_A, z2_A, y0_A, y1_A⟩ := Hand.hz g_A
  obtain ⟨c_A_0, f_A_0, c_A_1, f_A_1, c_A_2, f_A_2⟩ := Hand.hc3 g_A
  obtain ⟨z_X, z1_X, z2_X, y0_X, y1_X⟩ := Hand.hz g_X
  obtain ⟨c_X_0, f_X_0, c_X_1, f_X_1⟩ := Hand.hc2 g_X
  have zw : w.heap.size ≤ w10.heap.size := hB.size
  have HG := Lib.hid (And.intro g_A (And.intro g_X (hB)))
  clear g_A g_X hB
  go_wp2_with fail
  with_reducible refine (M11.out w2 _ _ (Nat.le_refl _) (bk HX.out) (bw HBX.out)).mono ?_
  rintro e w11 ⟨rfl, hx_w11, hb_w11⟩
  clear HX HBX HG zw z_A z1_A z2_A y0_A y1_A c_A_0 f_A_0 c_A_1 f_A_1 c_A_2 f_A_2 z_X z1_X z2_X y0_X y1_X c_X_0 f_X_0 c_X_1 f_X_1
  have HX := Lib.hid hx_w11
  have HBX := Lib.hid hb_w11
  have g_A := Hand.kb hb_w11 GA0.out
  have g_X := hx_w11
  have hB := Hand.stepB hb_w11 HB0.out (Nat.le_refl _)
  clear hx_w11 hb_w11
  obtain ⟨z_A, z1_A, z2_A, y0_A, y1_A⟩ := Hand.hz g_A
  obtain ⟨c_A_0, f_A_0, c_A_1, f_A_1, c_A_2, f_A_2⟩ := Hand.hc3 g_A
  obtain ⟨z_X, z1_X, z2_X, y0_X, y1_X⟩ := Hand.hz g_X
  obtain ⟨c_X_0, f_X_0, c_X_1, f_X_1⟩ := Hand.hc2 g_X
  have zw : w.heap.size ≤ w11.heap.size := hB.size
  have HG := Lib.hid (And.intro g_A (And.intro g_X (hB)))
  clear g_A g_X hB
  go_wp2_with fail
  with_reducible refine (M13.out _).mono ?_
  rintro e w12 ⟨rfl, hb12⟩
  obtain ⟨g_A, g_X, hB⟩ := HG.out
  have h_A : w12.heap[w.heap.size]? = some (.cells #[.int .i64 n, .int .i64 d, .bool false] 23 (0, 0)) := by
    refine Hand.kb hb12 ?_; first | with_reducible exact g_A | (simp (disch := first | omega | (simp only [Hand.sa, Hand.ss, Hand.sd, Hand.sn]; first | done | omega)) only [Hand.q2, Hand.q1, Hand.q5, Hand.q6, Hand.q4, Hand.q3, g_A] <;> rfl)
  have h_X : w12.heap[w2.heap.size]? = some (.cells #[.string ⟨#[]⟩, .bool false] 70 (0, 0)) := by
    refine Hand.kb hb12 ?_; simp (disch := first | omega | (simp only [Hand.sa, Hand.ss, Hand.sd, Hand.sn]; first | done | omega)) only [Hand.q2, Hand.q1, Hand.q5, Hand.q6, Hand.q4, Hand.q3, g_X] <;> rfl
  have hB' : Below w.heap.size w w12 := Hand.stepB hb12 (by repeat (with_reducible first | apply hB | apply Below.drew | apply pw_below_drewN | (apply Below.setCell; rotate_left; (dsimp only; omega)) | (apply Below.alloc; rotate_left; (first | omega | (simp only [Hand.sa, Hand.ss, Hand.sd, Hand.sn]; omega))))) (Nat.le_refl _)
  clear HG hB g_A g_X zw z_A z1_A z2_A y0_A y1_A c_A_0 f_A_0 c_A_1 f_A_1 c_A_2 f_A_2 z_X z1_X z2_X y0_X y1_X c_X_0 f_X_0 c_X_1 f_X_1
  clear hb12
  have g_A := h_A
  have g_X := h_X
  have hB := hB'
  clear hB' h_A h_X
  obtain ⟨z_A, z1_A, z2_A, y0_A, y1_A⟩ := Hand.hz g_A
  obtain ⟨c_A_0, f_A_0, c_A_1, f_A_1, c_A_2, f_A_2⟩ := Hand.hc3 g_A
  obtain ⟨z_X, z1_X, z2_X, y0_X, y1_X⟩ := Hand.hz g_X
  obtain ⟨c_X_0, f_X_0, c_X_1, f_X_1⟩ := Hand.hc2 g_X
  have zw : w.heap.size ≤ w12.heap.size := hB.size
  have HG := Lib.hid (And.intro g_A (And.intro g_X (hB)))
  clear g_A g_X hB
  go_wp2
  go_ret2
  obtain ⟨g_A, g_X, hB⟩ := HG.out
  exact ⟨rfl, hB⟩
set_option maxHeartbeats 1600000 in
set_option maxRecDepth 100000 in
theorem cnum_far (n d f h m s k LW : Int) (b1 b2 b3 b4 b5 b6 b7 : Bool) (L L1 L2 L3 L4 L5 L6 L7 C : ByteArray) (hb : b7 = false) (hl : L7 = ⟨#[]⟩) (f0 : 1 ≤ f) (f1 : f ≤ 240) (h0 : 0 ≤ h) (h1 : h ≤ 999) (m0 : 0 ≤ m) (mb : m < 60) (s0 : 0 ≤ s) (sb : s < 60) (k0 : 0 ≤ k) (kf : k < f) (M T P N : Int) (hM : 60 * h + m = M) (hT : 60 * M + s = T) (hP : f * T = P) (hN : k + P = N) (N0 : 0 ≤ N) (N1 : N ≤ 1000000000) (w : World) (ht : TabN w)
    (m1 : ∀ w, Calls Tryz.prog 45 #[rate n d false] w fun e w' => e = .returned (.int .i64 0) ∧ Below w.heap.size w w')
    (m2 : ∀ w, Calls Tryz.prog 53 #[rate n d false] w fun e w' => e = .returned (.int .i64 f) ∧ Below w.heap.size w w')
    (m3 : ∀ w0 w g, w0.heap.size ≤ g → w.heap[g]? = some (scan L false) → Below w0.heap.size w0 w → Calls Tryz.prog 39 #[.pointer (some ⟨g, 0, none⟩), .int .i64 2] w fun e w' => e = .returned (.int .i64 h) ∧ SL w0 w' g L1 b1)
    (m4 : ∀ w0 w g, w0.heap.size ≤ g → w.heap[g]? = some (scan L1 b1) → Below w0.heap.size w0 w → Calls Tryz.prog 40 #[.pointer (some ⟨g, 0, none⟩), .string ⟨#[58]⟩] w fun e w' => e = .returned (.tuple #[]) ∧ SL w0 w' g L2 b2)
    (m5 : ∀ w0 w g, w0.heap.size ≤ g → w.heap[g]? = some (scan L2 b2) → Below w0.heap.size w0 w → Calls Tryz.prog 41 #[.pointer (some ⟨g, 0, none⟩), .int .i64 2, .int .i64 60] w fun e w' => e = .returned (.int .i64 m) ∧ SL w0 w' g L3 b3)
    (m6 : ∀ w0 w g, w0.heap.size ≤ g → w.heap[g]? = some (scan L3 b3) → Below w0.heap.size w0 w → Calls Tryz.prog 40 #[.pointer (some ⟨g, 0, none⟩), .string ⟨#[58]⟩] w fun e w' => e = .returned (.tuple #[]) ∧ SL w0 w' g L4 b4)
    (m7 : ∀ w0 w g, w0.heap.size ≤ g → w.heap[g]? = some (scan L4 b4) → Below w0.heap.size w0 w → Calls Tryz.prog 41 #[.pointer (some ⟨g, 0, none⟩), .int .i64 2, .int .i64 60] w fun e w' => e = .returned (.int .i64 s) ∧ SL w0 w' g L5 b5)
    (m8 : ∀ w, Calls Tryz.prog 54 #[rate n d false] w fun e w' => e = .returned (.string C) ∧ Below w.heap.size w w')
    (m9 : ∀ w0 w g, w0.heap.size ≤ g → w.heap[g]? = some (scan L5 b5) → Below w0.heap.size w0 w → Calls Tryz.prog 40 #[.pointer (some ⟨g, 0, none⟩), .string C] w fun e w' => e = .returned (.tuple #[]) ∧ SL w0 w' g L6 b6)
    (m10 : ∀ w, TabN w → Calls Tryz.prog 55 #[rate n d false] w fun e w' => e = .returned (.int .i64 LW) ∧ Below w.heap.size w w')
    (m11 : ∀ w0 w g, w0.heap.size ≤ g → w.heap[g]? = some (scan L6 b6) → Below w0.heap.size w0 w → Calls Tryz.prog 41 #[.pointer (some ⟨g, 0, none⟩), .int .i64 LW, .int .i64 f] w fun e w' => e = .returned (.int .i64 k) ∧ SL w0 w' g L7 b7)
    (m13 : ∀ w, Calls Tryz.prog 51 #[rate n d false, .int .i64 N] w fun e w' => e = .returned (.bool false) ∧ Below w.heap.size w w') :
    Calls Tryz.prog 20 #[rate n d false, .string L] w fun e w' => e = .returned (.tuple #[.int .i64 0, .int .i64 31]) ∧ Below w.heap.size w w' := by
  subst hb
  subst hl
  have hf2 : ¬ f = 0 := by omega
  have M0 : 0 ≤ M := by omega
  have M1' : M ≤ 60000 := by omega
  have T0 : 0 ≤ T := by omega
  have T1 : T ≤ 3600060 := by omega
  have P0 : 0 ≤ P := by rw [← hP]; exact Int.mul_nonneg (by omega) T0
  have P1 : P ≤ 1000000000 := by omega
  have HT0 := Lib.hid ht
  have M1 := Lib.hid m1
  have M2 := Lib.hid m2
  have M3 := Lib.hid m3
  have M4 := Lib.hid m4
  have M5 := Lib.hid m5
  have M6 := Lib.hid m6
  have M7 := Lib.hid m7
  have M8 := Lib.hid m8
  have M9 := Lib.hid m9
  have M10 := Lib.hid m10
  have M11 := Lib.hid m11
  have M13 := Lib.hid m13
  clear m1 m2 m3 m4 m5 m6 m7 m8 m9 m10 m11 m13 ht
  go_enter Tryz.func20, Tryz.ntmps20
  go_wp2_with fail
  with_reducible refine (M1.out _).mono ?_
  rintro e w1 ⟨rfl, hb1⟩
  have h_A : w1.heap[w.heap.size]? = some (.cells #[.int .i64 n, .int .i64 d, .bool false] 23 (0, 0)) := by
    refine Hand.kb hb1 ?_; simp (disch := first | omega | (simp only [Hand.sa, Hand.ss, Hand.sd, Hand.sn]; first | done | omega)) only [Hand.q2, Hand.q1, Hand.q5, Hand.q6, Hand.q4, Hand.q3] <;> rfl
  have hB' : Below w.heap.size w w1 := Hand.stepB hb1 (by repeat (with_reducible first | apply Below.refl _ _ | apply Below.drew | apply pw_below_drewN | (apply Below.setCell; rotate_left; (dsimp only; omega)) | (apply Below.alloc; rotate_left; (first | omega | (simp only [Hand.sa, Hand.ss, Hand.sd, Hand.sn]; omega))))) (Nat.le_refl _)
  clear hb1
  have g_A := h_A
  have hB := hB'
  clear hB' h_A
  obtain ⟨z_A, z1_A, z2_A, y0_A, y1_A⟩ := Hand.hz g_A
  obtain ⟨c_A_0, f_A_0, c_A_1, f_A_1, c_A_2, f_A_2⟩ := Hand.hc3 g_A
  have zw : w.heap.size ≤ w1.heap.size := hB.size
  have HG := Lib.hid (And.intro g_A (hB))
  clear g_A hB
  go_wp2_with fail
  with_reducible refine (M2.out _).mono ?_
  rintro e w2 ⟨rfl, hb2⟩
  obtain ⟨g_A, hB⟩ := HG.out
  have h_A : w2.heap[w.heap.size]? = some (.cells #[.int .i64 n, .int .i64 d, .bool false] 23 (0, 0)) := by
    refine Hand.kb hb2 ?_; first | with_reducible exact g_A | (simp (disch := first | omega | (simp only [Hand.sa, Hand.ss, Hand.sd, Hand.sn]; first | done | omega)) only [Hand.q2, Hand.q1, Hand.q5, Hand.q6, Hand.q4, Hand.q3, g_A] <;> rfl)
  have hB' : Below w.heap.size w w2 := Hand.stepB hb2 (by repeat (with_reducible first | apply hB | apply Below.drew | apply pw_below_drewN | (apply Below.setCell; rotate_left; (dsimp only; omega)) | (apply Below.alloc; rotate_left; (first | omega | (simp only [Hand.sa, Hand.ss, Hand.sd, Hand.sn]; omega))))) (Nat.le_refl _)
  clear HG hB g_A zw z_A z1_A z2_A y0_A y1_A c_A_0 f_A_0 c_A_1 f_A_1 c_A_2 f_A_2
  clear hb2
  have g_A := h_A
  have hB := hB'
  clear hB' h_A
  obtain ⟨z_A, z1_A, z2_A, y0_A, y1_A⟩ := Hand.hz g_A
  obtain ⟨c_A_0, f_A_0, c_A_1, f_A_1, c_A_2, f_A_2⟩ := Hand.hc3 g_A
  have zw : w.heap.size ≤ w2.heap.size := hB.size
  have HG := Lib.hid (And.intro g_A (hB))
  clear g_A hB
  have GA0 := Lib.hid (show w2.heap[w.heap.size]? = some (.cells #[.int .i64 n, .int .i64 d, .bool false] 23 (0, 0)) from HG.out.1)
  have HB0 := Lib.hid (show Below w.heap.size w w2 from HG.out.2)
  have HT2 := Lib.hid (tab_below HT0.out HB0.out)
  go_wp2_with fail
  obtain ⟨W, hW⟩ : ∃ W_, W_ = w2.alloc (scan L false) := ⟨_, rfl⟩
  rw [← hW]
  have hx_W : W.heap[w2.heap.size]? = some (scan L false) := by rw [hW]; exact Hand.q3 _ _ _ rfl
  have hb_W : Below w2.heap.size w2 W := by rw [hW]; exact (Below.refl _ _).alloc (Nat.le_refl _) _
  clear hW
  clear HG zw z_A z1_A z2_A y0_A y1_A c_A_0 f_A_0 c_A_1 f_A_1 c_A_2 f_A_2
  have HX := Lib.hid hx_W
  have HBX := Lib.hid hb_W
  have g_A := Hand.kb hb_W GA0.out
  have g_X := hx_W
  have hB := Hand.stepB hb_W HB0.out (Nat.le_refl _)
  clear hx_W hb_W
  obtain ⟨z_A, z1_A, z2_A, y0_A, y1_A⟩ := Hand.hz g_A
  obtain ⟨c_A_0, f_A_0, c_A_1, f_A_1, c_A_2, f_A_2⟩ := Hand.hc3 g_A
  obtain ⟨z_X, z1_X, z2_X, y0_X, y1_X⟩ := Hand.hz g_X
  obtain ⟨c_X_0, f_X_0, c_X_1, f_X_1⟩ := Hand.hc2 g_X
  have zw : w.heap.size ≤ W.heap.size := hB.size
  have HG := Lib.hid (And.intro g_A (And.intro g_X (hB)))
  clear g_A g_X hB
  go_wp2_with fail
  with_reducible refine (M3.out w2 _ _ (Nat.le_refl _) (bk HX.out) (bw HBX.out)).mono ?_
  rintro e w3 ⟨rfl, hx_w3, hb_w3⟩
  clear HX HBX HG zw z_A z1_A z2_A y0_A y1_A c_A_0 f_A_0 c_A_1 f_A_1 c_A_2 f_A_2 z_X z1_X z2_X y0_X y1_X c_X_0 f_X_0 c_X_1 f_X_1
  have HX := Lib.hid hx_w3
  have HBX := Lib.hid hb_w3
  have g_A := Hand.kb hb_w3 GA0.out
  have g_X := hx_w3
  have hB := Hand.stepB hb_w3 HB0.out (Nat.le_refl _)
  clear hx_w3 hb_w3
  obtain ⟨z_A, z1_A, z2_A, y0_A, y1_A⟩ := Hand.hz g_A
  obtain ⟨c_A_0, f_A_0, c_A_1, f_A_1, c_A_2, f_A_2⟩ := Hand.hc3 g_A
  obtain ⟨z_X, z1_X, z2_X, y0_X, y1_X⟩ := Hand.hz g_X
  obtain ⟨c_X_0, f_X_0, c_X_1, f_X_1⟩ := Hand.hc2 g_X
  have zw : w.heap.size ≤ w3.heap.size := hB.size
  have HG := Lib.hid (And.intro g_A (And.intro g_X (hB)))
  clear g_A g_X hB
  go_wp2_with fail
  with_reducible refine (M4.out w2 _ _ (Nat.le_refl _) (bk HX.out) (bw HBX.out)).mono ?_
  rintro e w4 ⟨rfl, hx_w4, hb_w4⟩
  clear HX HBX HG zw z_A z1_A z2_A y0_A y1_A c_A_0 f_A_0 c_A_1 f_A_1 c_A_2 f_A_2 z_X z1_X z2_X y0_X y1_X c_X_0 f_X_0 c_X_1 f_X_1
  have HX := Lib.hid hx_w4
  have HBX := Lib.hid hb_w4
  have g_A := Hand.kb hb_w4 GA0.out
  have g_X := hx_w4
  have hB := Hand.stepB hb_w4 HB0.out (Nat.le_refl _)
  clear hx_w4 hb_w4
  obtain ⟨z_A, z1_A, z2_A, y0_A, y1_A⟩ := Hand.hz g_A
  obtain ⟨c_A_0, f_A_0, c_A_1, f_A_1, c_A_2, f_A_2⟩ := Hand.hc3 g_A
  obtain ⟨z_X, z1_X, z2_X, y0_X, y1_X⟩ := Hand.hz g_X
  obtain ⟨c_X_0, f_X_0, c_X_1, f_X_1⟩ := Hand.hc2 g_X
  have zw : w.heap.size ≤ w4.heap.size := hB.size
  have HG := Lib.hid (And.intro g_A (And.intro g_X (hB)))
  clear g_A g_X hB
  go_wp2_with fail
  with_reducible refine (M5.out w2 _ _ (Nat.le_refl _) (bk HX.out) (bw HBX.out)).mono ?_
  rintro e w5 ⟨rfl, hx_w5, hb_w5⟩
  clear HX HBX HG zw z_A z1_A z2_A y0_A y1_A c_A_0 f_A_0 c_A_1 f_A_1 c_A_2 f_A_2 z_X z1_X z2_X y0_X y1_X c_X_0 f_X_0 c_X_1 f_X_1
  have HX := Lib.hid hx_w5
  have HBX := Lib.hid hb_w5
  have g_A := Hand.kb hb_w5 GA0.out
  have g_X := hx_w5
  have hB := Hand.stepB hb_w5 HB0.out (Nat.le_refl _)
  clear hx_w5 hb_w5
  obtain ⟨z_A, z1_A, z2_A, y0_A, y1_A⟩ := Hand.hz g_A
  obtain ⟨c_A_0, f_A_0, c_A_1, f_A_1, c_A_2, f_A_2⟩ := Hand.hc3 g_A
  obtain ⟨z_X, z1_X, z2_X, y0_X, y1_X⟩ := Hand.hz g_X
  obtain ⟨c_X_0, f_X_0, c_X_1, f_X_1⟩ := Hand.hc2 g_X
  have zw : w.heap.size ≤ w5.heap.size := hB.size
  have HG := Lib.hid (And.intro g_A (And.intro g_X (hB)))
  clear g_A g_X hB
  go_wp2_with fail
  with_reducible refine (M6.out w2 _ _ (Nat.le_refl _) (bk HX.out) (bw HBX.out)).mono ?_
  rintro e w6 ⟨rfl, hx_w6, hb_w6⟩
  clear HX HBX HG zw z_A z1_A z2_A y0_A y1_A c_A_0 f_A_0 c_A_1 f_A_1 c_A_2 f_A_2 z_X z1_X z2_X y0_X y1_X c_X_0 f_X_0 c_X_1 f_X_1
  have HX := Lib.hid hx_w6
  have HBX := Lib.hid hb_w6
  have g_A := Hand.kb hb_w6 GA0.out
  have g_X := hx_w6
  have hB := Hand.stepB hb_w6 HB0.out (Nat.le_refl _)
  clear hx_w6 hb_w6
  obtain ⟨z_A, z1_A, z2_A, y0_A, y1_A⟩ := Hand.hz g_A
  obtain ⟨c_A_0, f_A_0, c_A_1, f_A_1, c_A_2, f_A_2⟩ := Hand.hc3 g_A
  obtain ⟨z_X, z1_X, z2_X, y0_X, y1_X⟩ := Hand.hz g_X
  obtain ⟨c_X_0, f_X_0, c_X_1, f_X_1⟩ := Hand.hc2 g_X
  have zw : w.heap.size ≤ w6.heap.size := hB.size
  have HG := Lib.hid (And.intro g_A (And.intro g_X (hB)))
  clear g_A g_X hB
  go_wp2_with fail
  with_reducible refine (M7.out w2 _ _ (Nat.le_refl _) (bk HX.out) (bw HBX.out)).mono ?_
  rintro e w7 ⟨rfl, hx_w7, hb_w7⟩
  clear HX HBX HG zw z_A z1_A z2_A y0_A y1_A c_A_0 f_A_0 c_A_1 f_A_1 c_A_2 f_A_2 z_X z1_X z2_X y0_X y1_X c_X_0 f_X_0 c_X_1 f_X_1
  have HX := Lib.hid hx_w7
  have HBX := Lib.hid hb_w7
  have g_A := Hand.kb hb_w7 GA0.out
  have g_X := hx_w7
  have hB := Hand.stepB hb_w7 HB0.out (Nat.le_refl _)
  clear hx_w7 hb_w7
  obtain ⟨z_A, z1_A, z2_A, y0_A, y1_A⟩ := Hand.hz g_A
  obtain ⟨c_A_0, f_A_0, c_A_1, f_A_1, c_A_2, f_A_2⟩ := Hand.hc3 g_A
  obtain ⟨z_X, z1_X, z2_X, y0_X, y1_X⟩ := Hand.hz g_X
  obtain ⟨c_X_0, f_X_0, c_X_1, f_X_1⟩ := Hand.hc2 g_X
  have zw : w.heap.size ≤ w7.heap.size := hB.size
  have HG := Lib.hid (And.intro g_A (And.intro g_X (hB)))
  clear g_A g_X hB
  go_wp2_with fail
  with_reducible refine (M8.out _).mono ?_
  rintro e w8 ⟨rfl, hq⟩
  have hx_w8 := Hand.kb hq (bk HX.out)
  have hb_w8 := Hand.stepB hq (bw HBX.out) (Nat.le_refl _)
  clear hq
  clear HX HBX HG zw z_A z1_A z2_A y0_A y1_A c_A_0 f_A_0 c_A_1 f_A_1 c_A_2 f_A_2 z_X z1_X z2_X y0_X y1_X c_X_0 f_X_0 c_X_1 f_X_1
  have HX := Lib.hid hx_w8
  have HBX := Lib.hid hb_w8
  have g_A := Hand.kb hb_w8 GA0.out
  have g_X := hx_w8
  have hB := Hand.stepB hb_w8 HB0.out (Nat.le_refl _)
  clear hx_w8 hb_w8
  obtain ⟨z_A, z1_A, z2_A, y0_A, y1_A⟩ := Hand.hz g_A
  obtain ⟨c_A_0, f_A_0, c_A_1, f_A_1, c_A_2, f_A_2⟩ := Hand.hc3 g_A
  obtain ⟨z_X, z1_X, z2_X, y0_X, y1_X⟩ := Hand.hz g_X
  obtain ⟨c_X_0, f_X_0, c_X_1, f_X_1⟩ := Hand.hc2 g_X
  have zw : w.heap.size ≤ w8.heap.size := hB.size
  have HG := Lib.hid (And.intro g_A (And.intro g_X (hB)))
  clear g_A g_X hB
  go_wp2_with fail
  with_reducible refine (M9.out w2 _ _ (Nat.le_refl _) (bk HX.out) (bw HBX.out)).mono ?_
  rintro e w9 ⟨rfl, hx_w9, hb_w9⟩
  clear HX HBX HG zw z_A z1_A z2_A y0_A y1_A c_A_0 f_A_0 c_A_1 f_A_1 c_A_2 f_A_2 z_X z1_X z2_X y0_X y1_X c_X_0 f_X_0 c_X_1 f_X_1
  have HX := Lib.hid hx_w9
  have HBX := Lib.hid hb_w9
  have g_A := Hand.kb hb_w9 GA0.out
  have g_X := hx_w9
  have hB := Hand.stepB hb_w9 HB0.out (Nat.le_refl _)
  clear hx_w9 hb_w9
  obtain ⟨z_A, z1_A, z2_A, y0_A, y1_A⟩ := Hand.hz g_A
  obtain ⟨c_A_0, f_A_0, c_A_1, f_A_1, c_A_2, f_A_2⟩ := Hand.hc3 g_A
  obtain ⟨z_X, z1_X, z2_X, y0_X, y1_X⟩ := Hand.hz g_X
  obtain ⟨c_X_0, f_X_0, c_X_1, f_X_1⟩ := Hand.hc2 g_X
  have zw : w.heap.size ≤ w9.heap.size := hB.size
  have HG := Lib.hid (And.intro g_A (And.intro g_X (hB)))
  clear g_A g_X hB
  go_wp2_with fail
  with_reducible refine (M10.out _ (tab_below HT2.out (bw HBX.out))).mono ?_
  rintro e w10 ⟨rfl, hq⟩
  have hx_w10 := Hand.kb hq (bk HX.out)
  have hb_w10 := Hand.stepB hq (bw HBX.out) (Nat.le_refl _)
  clear hq
  clear HX HBX HG zw z_A z1_A z2_A y0_A y1_A c_A_0 f_A_0 c_A_1 f_A_1 c_A_2 f_A_2 z_X z1_X z2_X y0_X y1_X c_X_0 f_X_0 c_X_1 f_X_1
  have HX := Lib.hid hx_w10
  have HBX := Lib.hid hb_w10
  have g_A := Hand.kb hb_w10 GA0.out
  have g_X := hx_w10
  have hB := Hand.stepB hb_w10 HB0.out (Nat.le_refl _)
  clear hx_w10 hb_w10
  obtain ⟨z_A, z1_A, z2_A, y0_A, y1_A⟩ := Hand.hz g_A
  obtain ⟨c_A_0, f_A_0, c_A_1, f_A_1, c_A_2, f_A_2⟩ := Hand.hc3 g_A
  obtain ⟨z_X, z1_X, z2_X, y0_X, y1_X⟩ := Hand.hz g_X
  obtain ⟨c_X_0, f_X_0, c_X_1, f_X_1⟩ := Hand.hc2 g_X
  have zw : w.heap.size ≤ w10.heap.size := hB.size
  have HG := Lib.hid (And.intro g_A (And.intro g_X (hB)))
  clear g_A g_X hB
  go_wp2_with fail
  with_reducible refine (M11.out w2 _ _ (Nat.le_refl _) (bk HX.out) (bw HBX.out)).mono ?_
  rintro e w11 ⟨rfl, hx_w11, hb_w11⟩
  clear HX HBX HG zw z_A z1_A z2_A y0_A y1_A c_A_0 f_A_0 c_A_1 f_A_1 c_A_2 f_A_2 z_X z1_X z2_X y0_X y1_X c_X_0 f_X_0 c_X_1 f_X_1
  have HX := Lib.hid hx_w11
  have HBX := Lib.hid hb_w11
  have g_A := Hand.kb hb_w11 GA0.out
  have g_X := hx_w11
  have hB := Hand.stepB hb_w11 HB0.out (Nat.le_refl _)
  clear hx_w11 hb_w11
  obtain ⟨z_A, z1_A, z2_A, y0_A, y1_A⟩ := Hand.hz g_A
  obtain ⟨c_A_0, f_A_0, c_A_1, f_A_1, c_A_2, f_A_2⟩ := Hand.hc3 g_A
  obtain ⟨z_X, z1_X, z2_X, y0_X, y1_X⟩ := Hand.hz g_X
  obtain ⟨c_X_0, f_X_0, c_X_1, f_X_1⟩ := Hand.hc2 g_X
  have zw : w.heap.size ≤ w11.heap.size := hB.size
  have HG := Lib.hid (And.intro g_A (And.intro g_X (hB)))
  clear g_A g_X hB
  go_wp2_with fail
  with_reducible refine (M13.out _).mono ?_
  rintro e w12 ⟨rfl, hb12⟩
  obtain ⟨g_A, g_X, hB⟩ := HG.out
  have h_A : w12.heap[w.heap.size]? = some (.cells #[.int .i64 n, .int .i64 d, .bool false] 23 (0, 0)) := by
    refine Hand.kb hb12 ?_; first | with_reducible exact g_A | (simp (disch := first | omega | (simp only [Hand.sa, Hand.ss, Hand.sd, Hand.sn]; first | done | omega)) only [Hand.q2, Hand.q1, Hand.q5, Hand.q6, Hand.q4, Hand.q3, g_A] <;> rfl)
  have h_X : w12.heap[w2.heap.size]? = some (.cells #[.string ⟨#[]⟩, .bool false] 70 (0, 0)) := by
    refine Hand.kb hb12 ?_; simp (disch := first | omega | (simp only [Hand.sa, Hand.ss, Hand.sd, Hand.sn]; first | done | omega)) only [Hand.q2, Hand.q1, Hand.q5, Hand.q6, Hand.q4, Hand.q3, g_X] <;> rfl
  have hB' : Below w.heap.size w w12 := Hand.stepB hb12 (by repeat (with_reducible first | apply hB | apply Below.drew | apply pw_below_drewN | (apply Below.setCell; rotate_left; (dsimp only; omega)) | (apply Below.alloc; rotate_left; (first | omega | (simp only [Hand.sa, Hand.ss, Hand.sd, Hand.sn]; omega))))) (Nat.le_refl _)
  clear HG hB g_A g_X zw z_A z1_A z2_A y0_A y1_A c_A_0 f_A_0 c_A_1 f_A_1 c_A_2 f_A_2 z_X z1_X z2_X y0_X y1_X c_X_0 f_X_0 c_X_1 f_X_1
  clear hb12
  have g_A := h_A
  have g_X := h_X
  have hB := hB'
  clear hB' h_A h_X
  obtain ⟨z_A, z1_A, z2_A, y0_A, y1_A⟩ := Hand.hz g_A
  obtain ⟨c_A_0, f_A_0, c_A_1, f_A_1, c_A_2, f_A_2⟩ := Hand.hc3 g_A
  obtain ⟨z_X, z1_X, z2_X, y0_X, y1_X⟩ := Hand.hz g_X
  obtain ⟨c_X_0, f_X_0, c_X_1, f_X_1⟩ := Hand.hc2 g_X
  have zw : w.heap.size ≤ w12.heap.size := hB.size
  have HG := Lib.hid (And.intro g_A (And.intro g_X (hB)))
  clear g_A g_X hB
  go_wp2
  go_ret2
  obtain ⟨g_A, g_X, hB⟩ := HG.out
  exact ⟨rfl, hB⟩
set_option maxHeartbeats 1600000 in
set_option maxRecDepth 100000 in
theorem cnum_drop (n d f h m s k LW : Int) (b1 b2 b3 b4 b5 b6 b7 : Bool) (L L1 L2 L3 L4 L5 L6 L7 C : ByteArray) (hb : b7 = false) (hl : L7 = ⟨#[]⟩) (f0 : 1 ≤ f) (f1 : f ≤ 240) (h0 : 0 ≤ h) (h1 : h ≤ 999) (m0 : 0 ≤ m) (mb : m < 60) (s0 : 0 ≤ s) (sb : s < 60) (k0 : 0 ≤ k) (kf : k < f) (M T P N : Int) (hM : 60 * h + m = M) (hT : 60 * M + s = T) (hP : f * T = P) (hN : k + P = N) (N0 : 0 ≤ N) (N1 : N ≤ 1000000000) (D Q E R : Int) (D0 : 0 ≤ D) (D1 : D ≤ 4) (hr : N % f = k) (q : s = 0 ∧ m % 10 ≠ 0 ∧ k < D) (w : World) (ht : TabN w)
    (m1 : ∀ w, Calls Tryz.prog 45 #[rate n d true] w fun e w' => e = .returned (.int .i64 0) ∧ Below w.heap.size w w')
    (m2 : ∀ w, Calls Tryz.prog 53 #[rate n d true] w fun e w' => e = .returned (.int .i64 f) ∧ Below w.heap.size w w')
    (m3 : ∀ w0 w g, w0.heap.size ≤ g → w.heap[g]? = some (scan L false) → Below w0.heap.size w0 w → Calls Tryz.prog 39 #[.pointer (some ⟨g, 0, none⟩), .int .i64 2] w fun e w' => e = .returned (.int .i64 h) ∧ SL w0 w' g L1 b1)
    (m4 : ∀ w0 w g, w0.heap.size ≤ g → w.heap[g]? = some (scan L1 b1) → Below w0.heap.size w0 w → Calls Tryz.prog 40 #[.pointer (some ⟨g, 0, none⟩), .string ⟨#[58]⟩] w fun e w' => e = .returned (.tuple #[]) ∧ SL w0 w' g L2 b2)
    (m5 : ∀ w0 w g, w0.heap.size ≤ g → w.heap[g]? = some (scan L2 b2) → Below w0.heap.size w0 w → Calls Tryz.prog 41 #[.pointer (some ⟨g, 0, none⟩), .int .i64 2, .int .i64 60] w fun e w' => e = .returned (.int .i64 m) ∧ SL w0 w' g L3 b3)
    (m6 : ∀ w0 w g, w0.heap.size ≤ g → w.heap[g]? = some (scan L3 b3) → Below w0.heap.size w0 w → Calls Tryz.prog 40 #[.pointer (some ⟨g, 0, none⟩), .string ⟨#[58]⟩] w fun e w' => e = .returned (.tuple #[]) ∧ SL w0 w' g L4 b4)
    (m7 : ∀ w0 w g, w0.heap.size ≤ g → w.heap[g]? = some (scan L4 b4) → Below w0.heap.size w0 w → Calls Tryz.prog 41 #[.pointer (some ⟨g, 0, none⟩), .int .i64 2, .int .i64 60] w fun e w' => e = .returned (.int .i64 s) ∧ SL w0 w' g L5 b5)
    (m8 : ∀ w, Calls Tryz.prog 54 #[rate n d true] w fun e w' => e = .returned (.string C) ∧ Below w.heap.size w w')
    (m9 : ∀ w0 w g, w0.heap.size ≤ g → w.heap[g]? = some (scan L5 b5) → Below w0.heap.size w0 w → Calls Tryz.prog 40 #[.pointer (some ⟨g, 0, none⟩), .string C] w fun e w' => e = .returned (.tuple #[]) ∧ SL w0 w' g L6 b6)
    (m10 : ∀ w, TabN w → Calls Tryz.prog 55 #[rate n d true] w fun e w' => e = .returned (.int .i64 LW) ∧ Below w.heap.size w w')
    (m11 : ∀ w0 w g, w0.heap.size ≤ g → w.heap[g]? = some (scan L6 b6) → Below w0.heap.size w0 w → Calls Tryz.prog 41 #[.pointer (some ⟨g, 0, none⟩), .int .i64 LW, .int .i64 f] w fun e w' => e = .returned (.int .i64 k) ∧ SL w0 w' g L7 b7)
    (m12 : ∀ w, Calls Tryz.prog 56 #[.agg #[.int .i64 n, .int .i64 d]] w fun e w' => e = .returned (.int .i64 D) ∧ Below w.heap.size w w') :
    Calls Tryz.prog 20 #[rate n d true, .string L] w fun e w' => e = .returned (.tuple #[.int .i64 0, .int .i64 15]) ∧ Below w.heap.size w w' := by
  subst hb
  subst hl
  have hf2 : ¬ f = 0 := by omega
  have M0 : 0 ≤ M := by omega
  have M1' : M ≤ 60000 := by omega
  have T0 : 0 ≤ T := by omega
  have T1 : T ≤ 3600060 := by omega
  have P0 : 0 ≤ P := by rw [← hP]; exact Int.mul_nonneg (by omega) T0
  have P1 : P ≤ 1000000000 := by omega
  have Q_ := Lib.hid q
  clear q
  have HT0 := Lib.hid ht
  have M1 := Lib.hid m1
  have M2 := Lib.hid m2
  have M3 := Lib.hid m3
  have M4 := Lib.hid m4
  have M5 := Lib.hid m5
  have M6 := Lib.hid m6
  have M7 := Lib.hid m7
  have M8 := Lib.hid m8
  have M9 := Lib.hid m9
  have M10 := Lib.hid m10
  have M11 := Lib.hid m11
  have M12 := Lib.hid m12
  clear m1 m2 m3 m4 m5 m6 m7 m8 m9 m10 m11 m12 ht
  go_enter Tryz.func20, Tryz.ntmps20
  go_wp2_with fail
  with_reducible refine (M1.out _).mono ?_
  rintro e w1 ⟨rfl, hb1⟩
  have h_A : w1.heap[w.heap.size]? = some (.cells #[.int .i64 n, .int .i64 d, .bool true] 23 (0, 0)) := by
    refine Hand.kb hb1 ?_; simp (disch := first | omega | (simp only [Hand.sa, Hand.ss, Hand.sd, Hand.sn]; first | done | omega)) only [Hand.q2, Hand.q1, Hand.q5, Hand.q6, Hand.q4, Hand.q3] <;> rfl
  have hB' : Below w.heap.size w w1 := Hand.stepB hb1 (by repeat (with_reducible first | apply Below.refl _ _ | apply Below.drew | apply pw_below_drewN | (apply Below.setCell; rotate_left; (dsimp only; omega)) | (apply Below.alloc; rotate_left; (first | omega | (simp only [Hand.sa, Hand.ss, Hand.sd, Hand.sn]; omega))))) (Nat.le_refl _)
  clear hb1
  have g_A := h_A
  have hB := hB'
  clear hB' h_A
  obtain ⟨z_A, z1_A, z2_A, y0_A, y1_A⟩ := Hand.hz g_A
  obtain ⟨c_A_0, f_A_0, c_A_1, f_A_1, c_A_2, f_A_2⟩ := Hand.hc3 g_A
  have zw : w.heap.size ≤ w1.heap.size := hB.size
  have HG := Lib.hid (And.intro g_A (hB))
  clear g_A hB
  go_wp2_with fail
  with_reducible refine (M2.out _).mono ?_
  rintro e w2 ⟨rfl, hb2⟩
  obtain ⟨g_A, hB⟩ := HG.out
  have h_A : w2.heap[w.heap.size]? = some (.cells #[.int .i64 n, .int .i64 d, .bool true] 23 (0, 0)) := by
    refine Hand.kb hb2 ?_; first | with_reducible exact g_A | (simp (disch := first | omega | (simp only [Hand.sa, Hand.ss, Hand.sd, Hand.sn]; first | done | omega)) only [Hand.q2, Hand.q1, Hand.q5, Hand.q6, Hand.q4, Hand.q3, g_A] <;> rfl)
  have hB' : Below w.heap.size w w2 := Hand.stepB hb2 (by repeat (with_reducible first | apply hB | apply Below.drew | apply pw_below_drewN | (apply Below.setCell; rotate_left; (dsimp only; omega)) | (apply Below.alloc; rotate_left; (first | omega | (simp only [Hand.sa, Hand.ss, Hand.sd, Hand.sn]; omega))))) (Nat.le_refl _)
  clear HG hB g_A zw z_A z1_A z2_A y0_A y1_A c_A_0 f_A_0 c_A_1 f_A_1 c_A_2 f_A_2
  clear hb2
  have g_A := h_A
  have hB := hB'
  clear hB' h_A
  obtain ⟨z_A, z1_A, z2_A, y0_A, y1_A⟩ := Hand.hz g_A
  obtain ⟨c_A_0, f_A_0, c_A_1, f_A_1, c_A_2, f_A_2⟩ := Hand.hc3 g_A
  have zw : w.heap.size ≤ w2.heap.size := hB.size
  have HG := Lib.hid (And.intro g_A (hB))
  clear g_A hB
  have GA0 := Lib.hid (show w2.heap[w.heap.size]? = some (.cells #[.int .i64 n, .int .i64 d, .bool true] 23 (0, 0)) from HG.out.1)
  have HB0 := Lib.hid (show Below w.heap.size w w2 from HG.out.2)
  have HT2 := Lib.hid (tab_below HT0.out HB0.out)
  go_wp2_with fail
  obtain ⟨W, hW⟩ : ∃ W_, W_ = w2.alloc (scan L false) := ⟨_, rfl⟩
  rw [← hW]
  have hx_W : W.heap[w2.heap.size]? = some (scan L false) := by rw [hW]; exact Hand.q3 _ _ _ rfl
  have hb_W : Below w2.heap.size w2 W := by rw [hW]; exact (Below.refl _ _).alloc (Nat.le_refl _) _
  clear hW
  clear HG zw z_A z1_A z2_A y0_A y1_A c_A_0 f_A_0 c_A_1 f_A_1 c_A_2 f_A_2
  have HX := Lib.hid hx_W
  have HBX := Lib.hid hb_W
  have g_A := Hand.kb hb_W GA0.out
  have g_X := hx_W
  have hB := Hand.stepB hb_W HB0.out (Nat.le_refl _)
  clear hx_W hb_W
  obtain ⟨z_A, z1_A, z2_A, y0_A, y1_A⟩ := Hand.hz g_A
  obtain ⟨c_A_0, f_A_0, c_A_1, f_A_1, c_A_2, f_A_2⟩ := Hand.hc3 g_A
  obtain ⟨z_X, z1_X, z2_X, y0_X, y1_X⟩ := Hand.hz g_X
  obtain ⟨c_X_0, f_X_0, c_X_1, f_X_1⟩ := Hand.hc2 g_X
  have zw : w.heap.size ≤ W.heap.size := hB.size
  have HG := Lib.hid (And.intro g_A (And.intro g_X (hB)))
  clear g_A g_X hB
  go_wp2_with fail
  with_reducible refine (M3.out w2 _ _ (Nat.le_refl _) (bk HX.out) (bw HBX.out)).mono ?_
  rintro e w3 ⟨rfl, hx_w3, hb_w3⟩
  clear HX HBX HG zw z_A z1_A z2_A y0_A y1_A c_A_0 f_A_0 c_A_1 f_A_1 c_A_2 f_A_2 z_X z1_X z2_X y0_X y1_X c_X_0 f_X_0 c_X_1 f_X_1
  have HX := Lib.hid hx_w3
  have HBX := Lib.hid hb_w3
  have g_A := Hand.kb hb_w3 GA0.out
  have g_X := hx_w3
  have hB := Hand.stepB hb_w3 HB0.out (Nat.le_refl _)
  clear hx_w3 hb_w3
  obtain ⟨z_A, z1_A, z2_A, y0_A, y1_A⟩ := Hand.hz g_A
  obtain ⟨c_A_0, f_A_0, c_A_1, f_A_1, c_A_2, f_A_2⟩ := Hand.hc3 g_A
  obtain ⟨z_X, z1_X, z2_X, y0_X, y1_X⟩ := Hand.hz g_X
  obtain ⟨c_X_0, f_X_0, c_X_1, f_X_1⟩ := Hand.hc2 g_X
  have zw : w.heap.size ≤ w3.heap.size := hB.size
  have HG := Lib.hid (And.intro g_A (And.intro g_X (hB)))
  clear g_A g_X hB
  go_wp2_with fail
  with_reducible refine (M4.out w2 _ _ (Nat.le_refl _) (bk HX.out) (bw HBX.out)).mono ?_
  rintro e w4 ⟨rfl, hx_w4, hb_w4⟩
  clear HX HBX HG zw z_A z1_A z2_A y0_A y1_A c_A_0 f_A_0 c_A_1 f_A_1 c_A_2 f_A_2 z_X z1_X z2_X y0_X y1_X c_X_0 f_X_0 c_X_1 f_X_1
  have HX := Lib.hid hx_w4
  have HBX := Lib.hid hb_w4
  have g_A := Hand.kb hb_w4 GA0.out
  have g_X := hx_w4
  have hB := Hand.stepB hb_w4 HB0.out (Nat.le_refl _)
  clear hx_w4 hb_w4
  obtain ⟨z_A, z1_A, z2_A, y0_A, y1_A⟩ := Hand.hz g_A
  obtain ⟨c_A_0, f_A_0, c_A_1, f_A_1, c_A_2, f_A_2⟩ := Hand.hc3 g_A
  obtain ⟨z_X, z1_X, z2_X, y0_X, y1_X⟩ := Hand.hz g_X
  obtain ⟨c_X_0, f_X_0, c_X_1, f_X_1⟩ := Hand.hc2 g_X
  have zw : w.heap.size ≤ w4.heap.size := hB.size
  have HG := Lib.hid (And.intro g_A (And.intro g_X (hB)))
  clear g_A g_X hB
  go_wp2_with fail
  with_reducible refine (M5.out w2 _ _ (Nat.le_refl _) (bk HX.out) (bw HBX.out)).mono ?_
  rintro e w5 ⟨rfl, hx_w5, hb_w5⟩
  clear HX HBX HG zw z_A z1_A z2_A y0_A y1_A c_A_0 f_A_0 c_A_1 f_A_1 c_A_2 f_A_2 z_X z1_X z2_X y0_X y1_X c_X_0 f_X_0 c_X_1 f_X_1
  have HX := Lib.hid hx_w5
  have HBX := Lib.hid hb_w5
  have g_A := Hand.kb hb_w5 GA0.out
  have g_X := hx_w5
  have hB := Hand.stepB hb_w5 HB0.out (Nat.le_refl _)
  clear hx_w5 hb_w5
  obtain ⟨z_A, z1_A, z2_A, y0_A, y1_A⟩ := Hand.hz g_A
  obtain ⟨c_A_0, f_A_0, c_A_1, f_A_1, c_A_2, f_A_2⟩ := Hand.hc3 g_A
  obtain ⟨z_X, z1_X, z2_X, y0_X, y1_X⟩ := Hand.hz g_X
  obtain ⟨c_X_0, f_X_0, c_X_1, f_X_1⟩ := Hand.hc2 g_X
  have zw : w.heap.size ≤ w5.heap.size := hB.size
  have HG := Lib.hid (And.intro g_A (And.intro g_X (hB)))
  clear g_A g_X hB
  go_wp2_with fail
  with_reducible refine (M6.out w2 _ _ (Nat.le_refl _) (bk HX.out) (bw HBX.out)).mono ?_
  rintro e w6 ⟨rfl, hx_w6, hb_w6⟩
  clear HX HBX HG zw z_A z1_A z2_A y0_A y1_A c_A_0 f_A_0 c_A_1 f_A_1 c_A_2 f_A_2 z_X z1_X z2_X y0_X y1_X c_X_0 f_X_0 c_X_1 f_X_1
  have HX := Lib.hid hx_w6
  have HBX := Lib.hid hb_w6
  have g_A := Hand.kb hb_w6 GA0.out
  have g_X := hx_w6
  have hB := Hand.stepB hb_w6 HB0.out (Nat.le_refl _)
  clear hx_w6 hb_w6
  obtain ⟨z_A, z1_A, z2_A, y0_A, y1_A⟩ := Hand.hz g_A
  obtain ⟨c_A_0, f_A_0, c_A_1, f_A_1, c_A_2, f_A_2⟩ := Hand.hc3 g_A
  obtain ⟨z_X, z1_X, z2_X, y0_X, y1_X⟩ := Hand.hz g_X
  obtain ⟨c_X_0, f_X_0, c_X_1, f_X_1⟩ := Hand.hc2 g_X
  have zw : w.heap.size ≤ w6.heap.size := hB.size
  have HG := Lib.hid (And.intro g_A (And.intro g_X (hB)))
  clear g_A g_X hB
  go_wp2_with fail
  with_reducible refine (M7.out w2 _ _ (Nat.le_refl _) (bk HX.out) (bw HBX.out)).mono ?_
  rintro e w7 ⟨rfl, hx_w7, hb_w7⟩
  clear HX HBX HG zw z_A z1_A z2_A y0_A y1_A c_A_0 f_A_0 c_A_1 f_A_1 c_A_2 f_A_2 z_X z1_X z2_X y0_X y1_X c_X_0 f_X_0 c_X_1 f_X_1
  have HX := Lib.hid hx_w7
  have HBX := Lib.hid hb_w7
  have g_A := Hand.kb hb_w7 GA0.out
  have g_X := hx_w7
  have hB := Hand.stepB hb_w7 HB0.out (Nat.le_refl _)
  clear hx_w7 hb_w7
  obtain ⟨z_A, z1_A, z2_A, y0_A, y1_A⟩ := Hand.hz g_A
  obtain ⟨c_A_0, f_A_0, c_A_1, f_A_1, c_A_2, f_A_2⟩ := Hand.hc3 g_A
  obtain ⟨z_X, z1_X, z2_X, y0_X, y1_X⟩ := Hand.hz g_X
  obtain ⟨c_X_0, f_X_0, c_X_1, f_X_1⟩ := Hand.hc2 g_X
  have zw : w.heap.size ≤ w7.heap.size := hB.size
  have HG := Lib.hid (And.intro g_A (And.intro g_X (hB)))
  clear g_A g_X hB
  go_wp2_with fail
  with_reducible refine (M8.out _).mono ?_
  rintro e w8 ⟨rfl, hq⟩
  have hx_w8 := Hand.kb hq (bk HX.out)
  have hb_w8 := Hand.stepB hq (bw HBX.out) (Nat.le_refl _)
  clear hq
  clear HX HBX HG zw z_A z1_A z2_A y0_A y1_A c_A_0 f_A_0 c_A_1 f_A_1 c_A_2 f_A_2 z_X z1_X z2_X y0_X y1_X c_X_0 f_X_0 c_X_1 f_X_1
  have HX := Lib.hid hx_w8
  have HBX := Lib.hid hb_w8
  have g_A := Hand.kb hb_w8 GA0.out
  have g_X := hx_w8
  have hB := Hand.stepB hb_w8 HB0.out (Nat.le_refl _)
  clear hx_w8 hb_w8
  obtain ⟨z_A, z1_A, z2_A, y0_A, y1_A⟩ := Hand.hz g_A
  obtain ⟨c_A_0, f_A_0, c_A_1, f_A_1, c_A_2, f_A_2⟩ := Hand.hc3 g_A
  obtain ⟨z_X, z1_X, z2_X, y0_X, y1_X⟩ := Hand.hz g_X
  obtain ⟨c_X_0, f_X_0, c_X_1, f_X_1⟩ := Hand.hc2 g_X
  have zw : w.heap.size ≤ w8.heap.size := hB.size
  have HG := Lib.hid (And.intro g_A (And.intro g_X (hB)))
  clear g_A g_X hB
  go_wp2_with fail
  with_reducible refine (M9.out w2 _ _ (Nat.le_refl _) (bk HX.out) (bw HBX.out)).mono ?_
  rintro e w9 ⟨rfl, hx_w9, hb_w9⟩
  clear HX HBX HG zw z_A z1_A z2_A y0_A y1_A c_A_0 f_A_0 c_A_1 f_A_1 c_A_2 f_A_2 z_X z1_X z2_X y0_X y1_X c_X_0 f_X_0 c_X_1 f_X_1
  have HX := Lib.hid hx_w9
  have HBX := Lib.hid hb_w9
  have g_A := Hand.kb hb_w9 GA0.out
  have g_X := hx_w9
  have hB := Hand.stepB hb_w9 HB0.out (Nat.le_refl _)
  clear hx_w9 hb_w9
  obtain ⟨z_A, z1_A, z2_A, y0_A, y1_A⟩ := Hand.hz g_A
  obtain ⟨c_A_0, f_A_0, c_A_1, f_A_1, c_A_2, f_A_2⟩ := Hand.hc3 g_A
  obtain ⟨z_X, z1_X, z2_X, y0_X, y1_X⟩ := Hand.hz g_X
  obtain ⟨c_X_0, f_X_0, c_X_1, f_X_1⟩ := Hand.hc2 g_X
  have zw : w.heap.size ≤ w9.heap.size := hB.size
  have HG := Lib.hid (And.intro g_A (And.intro g_X (hB)))
  clear g_A g_X hB
  go_wp2_with fail
  with_reducible refine (M10.out _ (tab_below HT2.out (bw HBX.out))).mono ?_
  rintro e w10 ⟨rfl, hq⟩
  have hx_w10 := Hand.kb hq (bk HX.out)
  have hb_w10 := Hand.stepB hq (bw HBX.out) (Nat.le_refl _)
  clear hq
  clear HX HBX HG zw z_A z1_A z2_A y0_A y1_A c_A_0 f_A_0 c_A_1 f_A_1 c_A_2 f_A_2 z_X z1_X z2_X y0_X y1_X c_X_0 f_X_0 c_X_1 f_X_1
  have HX := Lib.hid hx_w10
  have HBX := Lib.hid hb_w10
  have g_A := Hand.kb hb_w10 GA0.out
  have g_X := hx_w10
  have hB := Hand.stepB hb_w10 HB0.out (Nat.le_refl _)
  clear hx_w10 hb_w10
  obtain ⟨z_A, z1_A, z2_A, y0_A, y1_A⟩ := Hand.hz g_A
  obtain ⟨c_A_0, f_A_0, c_A_1, f_A_1, c_A_2, f_A_2⟩ := Hand.hc3 g_A
  obtain ⟨z_X, z1_X, z2_X, y0_X, y1_X⟩ := Hand.hz g_X
  obtain ⟨c_X_0, f_X_0, c_X_1, f_X_1⟩ := Hand.hc2 g_X
  have zw : w.heap.size ≤ w10.heap.size := hB.size
  have HG := Lib.hid (And.intro g_A (And.intro g_X (hB)))
  clear g_A g_X hB
  go_wp2_with fail
  with_reducible refine (M11.out w2 _ _ (Nat.le_refl _) (bk HX.out) (bw HBX.out)).mono ?_
  rintro e w11 ⟨rfl, hx_w11, hb_w11⟩
  clear HX HBX HG zw z_A z1_A z2_A y0_A y1_A c_A_0 f_A_0 c_A_1 f_A_1 c_A_2 f_A_2 z_X z1_X z2_X y0_X y1_X c_X_0 f_X_0 c_X_1 f_X_1
  have HX := Lib.hid hx_w11
  have HBX := Lib.hid hb_w11
  have g_A := Hand.kb hb_w11 GA0.out
  have g_X := hx_w11
  have hB := Hand.stepB hb_w11 HB0.out (Nat.le_refl _)
  clear hx_w11 hb_w11
  obtain ⟨z_A, z1_A, z2_A, y0_A, y1_A⟩ := Hand.hz g_A
  obtain ⟨c_A_0, f_A_0, c_A_1, f_A_1, c_A_2, f_A_2⟩ := Hand.hc3 g_A
  obtain ⟨z_X, z1_X, z2_X, y0_X, y1_X⟩ := Hand.hz g_X
  obtain ⟨c_X_0, f_X_0, c_X_1, f_X_1⟩ := Hand.hc2 g_X
  have zw : w.heap.size ≤ w11.heap.size := hB.size
  have HG := Lib.hid (And.intro g_A (And.intro g_X (hB)))
  clear g_A g_X hB
  go_wp2_with fail
  with_reducible refine (M12.out _).mono ?_
  rintro e w12 ⟨rfl, hb12⟩
  obtain ⟨g_A, g_X, hB⟩ := HG.out
  have h_A : w12.heap[w.heap.size]? = some (.cells #[.int .i64 n, .int .i64 d, .bool true] 23 (0, 0)) := by
    refine Hand.kb hb12 ?_; first | with_reducible exact g_A | (simp (disch := first | omega | (simp only [Hand.sa, Hand.ss, Hand.sd, Hand.sn]; first | done | omega)) only [Hand.q2, Hand.q1, Hand.q5, Hand.q6, Hand.q4, Hand.q3, g_A] <;> rfl)
  have h_X : w12.heap[w2.heap.size]? = some (.cells #[.string ⟨#[]⟩, .bool false] 70 (0, 0)) := by
    refine Hand.kb hb12 ?_; simp (disch := first | omega | (simp only [Hand.sa, Hand.ss, Hand.sd, Hand.sn]; first | done | omega)) only [Hand.q2, Hand.q1, Hand.q5, Hand.q6, Hand.q4, Hand.q3, g_X] <;> rfl
  have hB' : Below w.heap.size w w12 := Hand.stepB hb12 (by repeat (with_reducible first | apply hB | apply Below.drew | apply pw_below_drewN | (apply Below.setCell; rotate_left; (dsimp only; omega)) | (apply Below.alloc; rotate_left; (first | omega | (simp only [Hand.sa, Hand.ss, Hand.sd, Hand.sn]; omega))))) (Nat.le_refl _)
  clear HG hB g_A g_X zw z_A z1_A z2_A y0_A y1_A c_A_0 f_A_0 c_A_1 f_A_1 c_A_2 f_A_2 z_X z1_X z2_X y0_X y1_X c_X_0 f_X_0 c_X_1 f_X_1
  clear hb12
  have g_A := h_A
  have g_X := h_X
  have hB := hB'
  clear hB' h_A h_X
  obtain ⟨z_A, z1_A, z2_A, y0_A, y1_A⟩ := Hand.hz g_A
  obtain ⟨c_A_0, f_A_0, c_A_1, f_A_1, c_A_2, f_A_2⟩ := Hand.hc3 g_A
  obtain ⟨z_X, z1_X, z2_X, y0_X, y1_X⟩ := Hand.hz g_X
  obtain ⟨c_X_0, f_X_0, c_X_1, f_X_1⟩ := Hand.hc2 g_X
  have zw : w.heap.size ≤ w12.heap.size := hB.size
  have HG := Lib.hid (And.intro g_A (And.intro g_X (hB)))
  clear g_A g_X hB
  go_wp2_with fail
  all_goals first | (exfalso; have := Q_.out; omega) | (exfalso; have := Q_.out; have h_ : (m % 10 != 0) = false ∨ D ≤ k := (by assumption); rcases h_ with h_ | h_; (simp at h_; omega); omega) | skip
  go_ret2
  obtain ⟨g_A, g_X, hB⟩ := HG.out
  exact ⟨rfl, hB⟩
set_option maxHeartbeats 1600000 in
set_option maxRecDepth 100000 in
theorem cnum_dok (n d f h m s k LW : Int) (b1 b2 b3 b4 b5 b6 b7 : Bool) (L L1 L2 L3 L4 L5 L6 L7 C : ByteArray) (hb : b7 = false) (hl : L7 = ⟨#[]⟩) (f0 : 1 ≤ f) (f1 : f ≤ 240) (h0 : 0 ≤ h) (h1 : h ≤ 999) (m0 : 0 ≤ m) (mb : m < 60) (s0 : 0 ≤ s) (sb : s < 60) (k0 : 0 ≤ k) (kf : k < f) (M T P N : Int) (hM : 60 * h + m = M) (hT : 60 * M + s = T) (hP : f * T = P) (hN : k + P = N) (N0 : 0 ≤ N) (N1 : N ≤ 1000000000) (D Q E R : Int) (D0 : 0 ≤ D) (D1 : D ≤ 4) (hr : N % f = k) (hQ : M - M / 10 = Q) (hE : D * Q = E) (hR : N - E = R) (E0 : 0 ≤ E) (E1 : E ≤ 1000000000) (q : s ≠ 0 ∨ m % 10 = 0 ∨ D ≤ k) (w : World) (ht : TabN w)
    (m1 : ∀ w, Calls Tryz.prog 45 #[rate n d true] w fun e w' => e = .returned (.int .i64 0) ∧ Below w.heap.size w w')
    (m2 : ∀ w, Calls Tryz.prog 53 #[rate n d true] w fun e w' => e = .returned (.int .i64 f) ∧ Below w.heap.size w w')
    (m3 : ∀ w0 w g, w0.heap.size ≤ g → w.heap[g]? = some (scan L false) → Below w0.heap.size w0 w → Calls Tryz.prog 39 #[.pointer (some ⟨g, 0, none⟩), .int .i64 2] w fun e w' => e = .returned (.int .i64 h) ∧ SL w0 w' g L1 b1)
    (m4 : ∀ w0 w g, w0.heap.size ≤ g → w.heap[g]? = some (scan L1 b1) → Below w0.heap.size w0 w → Calls Tryz.prog 40 #[.pointer (some ⟨g, 0, none⟩), .string ⟨#[58]⟩] w fun e w' => e = .returned (.tuple #[]) ∧ SL w0 w' g L2 b2)
    (m5 : ∀ w0 w g, w0.heap.size ≤ g → w.heap[g]? = some (scan L2 b2) → Below w0.heap.size w0 w → Calls Tryz.prog 41 #[.pointer (some ⟨g, 0, none⟩), .int .i64 2, .int .i64 60] w fun e w' => e = .returned (.int .i64 m) ∧ SL w0 w' g L3 b3)
    (m6 : ∀ w0 w g, w0.heap.size ≤ g → w.heap[g]? = some (scan L3 b3) → Below w0.heap.size w0 w → Calls Tryz.prog 40 #[.pointer (some ⟨g, 0, none⟩), .string ⟨#[58]⟩] w fun e w' => e = .returned (.tuple #[]) ∧ SL w0 w' g L4 b4)
    (m7 : ∀ w0 w g, w0.heap.size ≤ g → w.heap[g]? = some (scan L4 b4) → Below w0.heap.size w0 w → Calls Tryz.prog 41 #[.pointer (some ⟨g, 0, none⟩), .int .i64 2, .int .i64 60] w fun e w' => e = .returned (.int .i64 s) ∧ SL w0 w' g L5 b5)
    (m8 : ∀ w, Calls Tryz.prog 54 #[rate n d true] w fun e w' => e = .returned (.string C) ∧ Below w.heap.size w w')
    (m9 : ∀ w0 w g, w0.heap.size ≤ g → w.heap[g]? = some (scan L5 b5) → Below w0.heap.size w0 w → Calls Tryz.prog 40 #[.pointer (some ⟨g, 0, none⟩), .string C] w fun e w' => e = .returned (.tuple #[]) ∧ SL w0 w' g L6 b6)
    (m10 : ∀ w, TabN w → Calls Tryz.prog 55 #[rate n d true] w fun e w' => e = .returned (.int .i64 LW) ∧ Below w.heap.size w w')
    (m11 : ∀ w0 w g, w0.heap.size ≤ g → w.heap[g]? = some (scan L6 b6) → Below w0.heap.size w0 w → Calls Tryz.prog 41 #[.pointer (some ⟨g, 0, none⟩), .int .i64 LW, .int .i64 f] w fun e w' => e = .returned (.int .i64 k) ∧ SL w0 w' g L7 b7)
    (m12 : ∀ w, Calls Tryz.prog 56 #[.agg #[.int .i64 n, .int .i64 d]] w fun e w' => e = .returned (.int .i64 D) ∧ Below w.heap.size w w')
    (m13 : ∀ w, Calls Tryz.prog 51 #[rate n d true, .int .i64 R] w fun e w' => e = .returned (.bool true) ∧ Below w.heap.size w w') :
    Calls Tryz.prog 20 #[rate n d true, .string L] w fun e w' => e = .returned (.tuple #[.int .i64 R, .int .i64 0]) ∧ Below w.heap.size w w' := by
  subst hb
  subst hl
  have hf2 : ¬ f = 0 := by omega
  have M0 : 0 ≤ M := by omega
  have M1' : M ≤ 60000 := by omega
  have T0 : 0 ≤ T := by omega
  have T1 : T ≤ 3600060 := by omega
  have P0 : 0 ≤ P := by rw [← hP]; exact Int.mul_nonneg (by omega) T0
  have P1 : P ≤ 1000000000 := by omega
  have Q_ := Lib.hid q
  clear q
  have HT0 := Lib.hid ht
  have M1 := Lib.hid m1
  have M2 := Lib.hid m2
  have M3 := Lib.hid m3
  have M4 := Lib.hid m4
  have M5 := Lib.hid m5
  have M6 := Lib.hid m6
  have M7 := Lib.hid m7
  have M8 := Lib.hid m8
  have M9 := Lib.hid m9
  have M10 := Lib.hid m10
  have M11 := Lib.hid m11
  have M12 := Lib.hid m12
  have M13 := Lib.hid m13
  clear m1 m2 m3 m4 m5 m6 m7 m8 m9 m10 m11 m12 m13 ht
  go_enter Tryz.func20, Tryz.ntmps20
  go_wp2_with fail
  with_reducible refine (M1.out _).mono ?_
  rintro e w1 ⟨rfl, hb1⟩
  have h_A : w1.heap[w.heap.size]? = some (.cells #[.int .i64 n, .int .i64 d, .bool true] 23 (0, 0)) := by
    refine Hand.kb hb1 ?_; simp (disch := first | omega | (simp only [Hand.sa, Hand.ss, Hand.sd, Hand.sn]; first | done | omega)) only [Hand.q2, Hand.q1, Hand.q5, Hand.q6, Hand.q4, Hand.q3] <;> rfl
  have hB' : Below w.heap.size w w1 := Hand.stepB hb1 (by repeat (with_reducible first | apply Below.refl _ _ | apply Below.drew | apply pw_below_drewN | (apply Below.setCell; rotate_left; (dsimp only; omega)) | (apply Below.alloc; rotate_left; (first | omega | (simp only [Hand.sa, Hand.ss, Hand.sd, Hand.sn]; omega))))) (Nat.le_refl _)
  clear hb1
  have g_A := h_A
  have hB := hB'
  clear hB' h_A
  obtain ⟨z_A, z1_A, z2_A, y0_A, y1_A⟩ := Hand.hz g_A
  obtain ⟨c_A_0, f_A_0, c_A_1, f_A_1, c_A_2, f_A_2⟩ := Hand.hc3 g_A
  have zw : w.heap.size ≤ w1.heap.size := hB.size
  have HG := Lib.hid (And.intro g_A (hB))
  clear g_A hB
  go_wp2_with fail
  with_reducible refine (M2.out _).mono ?_
  rintro e w2 ⟨rfl, hb2⟩
  obtain ⟨g_A, hB⟩ := HG.out
  have h_A : w2.heap[w.heap.size]? = some (.cells #[.int .i64 n, .int .i64 d, .bool true] 23 (0, 0)) := by
    refine Hand.kb hb2 ?_; first | with_reducible exact g_A | (simp (disch := first | omega | (simp only [Hand.sa, Hand.ss, Hand.sd, Hand.sn]; first | done | omega)) only [Hand.q2, Hand.q1, Hand.q5, Hand.q6, Hand.q4, Hand.q3, g_A] <;> rfl)
  have hB' : Below w.heap.size w w2 := Hand.stepB hb2 (by repeat (with_reducible first | apply hB | apply Below.drew | apply pw_below_drewN | (apply Below.setCell; rotate_left; (dsimp only; omega)) | (apply Below.alloc; rotate_left; (first | omega | (simp only [Hand.sa, Hand.ss, Hand.sd, Hand.sn]; omega))))) (Nat.le_refl _)
  clear HG hB g_A zw z_A z1_A z2_A y0_A y1_A c_A_0 f_A_0 c_A_1 f_A_1 c_A_2 f_A_2
  clear hb2
  have g_A := h_A
  have hB := hB'
  clear hB' h_A
  obtain ⟨z_A, z1_A, z2_A, y0_A, y1_A⟩ := Hand.hz g_A
  obtain ⟨c_A_0, f_A_0, c_A_1, f_A_1, c_A_2, f_A_2⟩ := Hand.hc3 g_A
  have zw : w.heap.size ≤ w2.heap.size := hB.size
  have HG := Lib.hid (And.intro g_A (hB))
  clear g_A hB
  have GA0 := Lib.hid (show w2.heap[w.heap.size]? = some (.cells #[.int .i64 n, .int .i64 d, .bool true] 23 (0, 0)) from HG.out.1)
  have HB0 := Lib.hid (show Below w.heap.size w w2 from HG.out.2)
  have HT2 := Lib.hid (tab_below HT0.out HB0.out)
  go_wp2_with fail
  obtain ⟨W, hW⟩ : ∃ W_, W_ = w2.alloc (scan L false) := ⟨_, rfl⟩
  rw [← hW]
  have hx_W : W.heap[w2.heap.size]? = some (scan L false) := by rw [hW]; exact Hand.q3 _ _ _ rfl
  have hb_W : Below w2.heap.size w2 W := by rw [hW]; exact (Below.refl _ _).alloc (Nat.le_refl _) _
  clear hW
  clear HG zw z_A z1_A z2_A y0_A y1_A c_A_0 f_A_0 c_A_1 f_A_1 c_A_2 f_A_2
  have HX := Lib.hid hx_W
  have HBX := Lib.hid hb_W
  have g_A := Hand.kb hb_W GA0.out
  have g_X := hx_W
  have hB := Hand.stepB hb_W HB0.out (Nat.le_refl _)
  clear hx_W hb_W
  obtain ⟨z_A, z1_A, z2_A, y0_A, y1_A⟩ := Hand.hz g_A
  obtain ⟨c_A_0, f_A_0, c_A_1, f_A_1, c_A_2, f_A_2⟩ := Hand.hc3 g_A
  obtain ⟨z_X, z1_X, z2_X, y0_X, y1_X⟩ := Hand.hz g_X
  obtain ⟨c_X_0, f_X_0, c_X_1, f_X_1⟩ := Hand.hc2 g_X
  have zw : w.heap.size ≤ W.heap.size := hB.size
  have HG := Lib.hid (And.intro g_A (And.intro g_X (hB)))
  clear g_A g_X hB
  go_wp2_with fail
  with_reducible refine (M3.out w2 _ _ (Nat.le_refl _) (bk HX.out) (bw HBX.out)).mono ?_
  rintro e w3 ⟨rfl, hx_w3, hb_w3⟩
  clear HX HBX HG zw z_A z1_A z2_A y0_A y1_A c_A_0 f_A_0 c_A_1 f_A_1 c_A_2 f_A_2 z_X z1_X z2_X y0_X y1_X c_X_0 f_X_0 c_X_1 f_X_1
  have HX := Lib.hid hx_w3
  have HBX := Lib.hid hb_w3
  have g_A := Hand.kb hb_w3 GA0.out
  have g_X := hx_w3
  have hB := Hand.stepB hb_w3 HB0.out (Nat.le_refl _)
  clear hx_w3 hb_w3
  obtain ⟨z_A, z1_A, z2_A, y0_A, y1_A⟩ := Hand.hz g_A
  obtain ⟨c_A_0, f_A_0, c_A_1, f_A_1, c_A_2, f_A_2⟩ := Hand.hc3 g_A
  obtain ⟨z_X, z1_X, z2_X, y0_X, y1_X⟩ := Hand.hz g_X
  obtain ⟨c_X_0, f_X_0, c_X_1, f_X_1⟩ := Hand.hc2 g_X
  have zw : w.heap.size ≤ w3.heap.size := hB.size
  have HG := Lib.hid (And.intro g_A (And.intro g_X (hB)))
  clear g_A g_X hB
  go_wp2_with fail
  with_reducible refine (M4.out w2 _ _ (Nat.le_refl _) (bk HX.out) (bw HBX.out)).mono ?_
  rintro e w4 ⟨rfl, hx_w4, hb_w4⟩
  clear HX HBX HG zw z_A z1_A z2_A y0_A y1_A c_A_0 f_A_0 c_A_1 f_A_1 c_A_2 f_A_2 z_X z1_X z2_X y0_X y1_X c_X_0 f_X_0 c_X_1 f_X_1
  have HX := Lib.hid hx_w4
  have HBX := Lib.hid hb_w4
  have g_A := Hand.kb hb_w4 GA0.out
  have g_X := hx_w4
  have hB := Hand.stepB hb_w4 HB0.out (Nat.le_refl _)
  clear hx_w4 hb_w4
  obtain ⟨z_A, z1_A, z2_A, y0_A, y1_A⟩ := Hand.hz g_A
  obtain ⟨c_A_0, f_A_0, c_A_1, f_A_1, c_A_2, f_A_2⟩ := Hand.hc3 g_A
  obtain ⟨z_X, z1_X, z2_X, y0_X, y1_X⟩ := Hand.hz g_X
  obtain ⟨c_X_0, f_X_0, c_X_1, f_X_1⟩ := Hand.hc2 g_X
  have zw : w.heap.size ≤ w4.heap.size := hB.size
  have HG := Lib.hid (And.intro g_A (And.intro g_X (hB)))
  clear g_A g_X hB
  go_wp2_with fail
  with_reducible refine (M5.out w2 _ _ (Nat.le_refl _) (bk HX.out) (bw HBX.out)).mono ?_
  rintro e w5 ⟨rfl, hx_w5, hb_w5⟩
  clear HX HBX HG zw z_A z1_A z2_A y0_A y1_A c_A_0 f_A_0 c_A_1 f_A_1 c_A_2 f_A_2 z_X z1_X z2_X y0_X y1_X c_X_0 f_X_0 c_X_1 f_X_1
  have HX := Lib.hid hx_w5
  have HBX := Lib.hid hb_w5
  have g_A := Hand.kb hb_w5 GA0.out
  have g_X := hx_w5
  have hB := Hand.stepB hb_w5 HB0.out (Nat.le_refl _)
  clear hx_w5 hb_w5
  obtain ⟨z_A, z1_A, z2_A, y0_A, y1_A⟩ := Hand.hz g_A
  obtain ⟨c_A_0, f_A_0, c_A_1, f_A_1, c_A_2, f_A_2⟩ := Hand.hc3 g_A
  obtain ⟨z_X, z1_X, z2_X, y0_X, y1_X⟩ := Hand.hz g_X
  obtain ⟨c_X_0, f_X_0, c_X_1, f_X_1⟩ := Hand.hc2 g_X
  have zw : w.heap.size ≤ w5.heap.size := hB.size
  have HG := Lib.hid (And.intro g_A (And.intro g_X (hB)))
  clear g_A g_X hB
  go_wp2_with fail
  with_reducible refine (M6.out w2 _ _ (Nat.le_refl _) (bk HX.out) (bw HBX.out)).mono ?_
  rintro e w6 ⟨rfl, hx_w6, hb_w6⟩
  clear HX HBX HG zw z_A z1_A z2_A y0_A y1_A c_A_0 f_A_0 c_A_1 f_A_1 c_A_2 f_A_2 z_X z1_X z2_X y0_X y1_X c_X_0 f_X_0 c_X_1 f_X_1
  have HX := Lib.hid hx_w6
  have HBX := Lib.hid hb_w6
  have g_A := Hand.kb hb_w6 GA0.out
  have g_X := hx_w6
  have hB := Hand.stepB hb_w6 HB0.out (Nat.le_refl _)
  clear hx_w6 hb_w6
  obtain ⟨z_A, z1_A, z2_A, y0_A, y1_A⟩ := Hand.hz g_A
  obtain ⟨c_A_0, f_A_0, c_A_1, f_A_1, c_A_2, f_A_2⟩ := Hand.hc3 g_A
  obtain ⟨z_X, z1_X, z2_X, y0_X, y1_X⟩ := Hand.hz g_X
  obtain ⟨c_X_0, f_X_0, c_X_1, f_X_1⟩ := Hand.hc2 g_X
  have zw : w.heap.size ≤ w6.heap.size := hB.size
  have HG := Lib.hid (And.intro g_A (And.intro g_X (hB)))
  clear g_A g_X hB
  go_wp2_with fail
  with_reducible refine (M7.out w2 _ _ (Nat.le_refl _) (bk HX.out) (bw HBX.out)).mono ?_
  rintro e w7 ⟨rfl, hx_w7, hb_w7⟩
  clear HX HBX HG zw z_A z1_A z2_A y0_A y1_A c_A_0 f_A_0 c_A_1 f_A_1 c_A_2 f_A_2 z_X z1_X z2_X y0_X y1_X c_X_0 f_X_0 c_X_1 f_X_1
  have HX := Lib.hid hx_w7
  have HBX := Lib.hid hb_w7
  have g_A := Hand.kb hb_w7 GA0.out
  have g_X := hx_w7
  have hB := Hand.stepB hb_w7 HB0.out (Nat.le_refl _)
  clear hx_w7 hb_w7
  obtain ⟨z_A, z1_A, z2_A, y0_A, y1_A⟩ := Hand.hz g_A
  obtain ⟨c_A_0, f_A_0, c_A_1, f_A_1, c_A_2, f_A_2⟩ := Hand.hc3 g_A
  obtain ⟨z_X, z1_X, z2_X, y0_X, y1_X⟩ := Hand.hz g_X
  obtain ⟨c_X_0, f_X_0, c_X_1, f_X_1⟩ := Hand.hc2 g_X
  have zw : w.heap.size ≤ w7.heap.size := hB.size
  have HG := Lib.hid (And.intro g_A (And.intro g_X (hB)))
  clear g_A g_X hB
  go_wp2_with fail
  with_reducible refine (M8.out _).mono ?_
  rintro e w8 ⟨rfl, hq⟩
  have hx_w8 := Hand.kb hq (bk HX.out)
  have hb_w8 := Hand.stepB hq (bw HBX.out) (Nat.le_refl _)
  clear hq
  clear HX HBX HG zw z_A z1_A z2_A y0_A y1_A c_A_0 f_A_0 c_A_1 f_A_1 c_A_2 f_A_2 z_X z1_X z2_X y0_X y1_X c_X_0 f_X_0 c_X_1 f_X_1
  have HX := Lib.hid hx_w8
  have HBX := Lib.hid hb_w8
  have g_A := Hand.kb hb_w8 GA0.out
  have g_X := hx_w8
  have hB := Hand.stepB hb_w8 HB0.out (Nat.le_refl _)
  clear hx_w8 hb_w8
  obtain ⟨z_A, z1_A, z2_A, y0_A, y1_A⟩ := Hand.hz g_A
  obtain ⟨c_A_0, f_A_0, c_A_1, f_A_1, c_A_2, f_A_2⟩ := Hand.hc3 g_A
  obtain ⟨z_X, z1_X, z2_X, y0_X, y1_X⟩ := Hand.hz g_X
  obtain ⟨c_X_0, f_X_0, c_X_1, f_X_1⟩ := Hand.hc2 g_X
  have zw : w.heap.size ≤ w8.heap.size := hB.size
  have HG := Lib.hid (And.intro g_A (And.intro g_X (hB)))
  clear g_A g_X hB
  go_wp2_with fail
  with_reducible refine (M9.out w2 _ _ (Nat.le_refl _) (bk HX.out) (bw HBX.out)).mono ?_
  rintro e w9 ⟨rfl, hx_w9, hb_w9⟩
  clear HX HBX HG zw z_A z1_A z2_A y0_A y1_A c_A_0 f_A_0 c_A_1 f_A_1 c_A_2 f_A_2 z_X z1_X z2_X y0_X y1_X c_X_0 f_X_0 c_X_1 f_X_1
  have HX := Lib.hid hx_w9
  have HBX := Lib.hid hb_w9
  have g_A := Hand.kb hb_w9 GA0.out
  have g_X := hx_w9
  have hB := Hand.stepB hb_w9 HB0.out (Nat.le_refl _)
  clear hx_w9 hb_w9
  obtain ⟨z_A, z1_A, z2_A, y0_A, y1_A⟩ := Hand.hz g_A
  obtain ⟨c_A_0, f_A_0, c_A_1, f_A_1, c_A_2, f_A_2⟩ := Hand.hc3 g_A
  obtain ⟨z_X, z1_X, z2_X, y0_X, y1_X⟩ := Hand.hz g_X
  obtain ⟨c_X_0, f_X_0, c_X_1, f_X_1⟩ := Hand.hc2 g_X
  have zw : w.heap.size ≤ w9.heap.size := hB.size
  have HG := Lib.hid (And.intro g_A (And.intro g_X (hB)))
  clear g_A g_X hB
  go_wp2_with fail
  with_reducible refine (M10.out _ (tab_below HT2.out (bw HBX.out))).mono ?_
  rintro e w10 ⟨rfl, hq⟩
  have hx_w10 := Hand.kb hq (bk HX.out)
  have hb_w10 := Hand.stepB hq (bw HBX.out) (Nat.le_refl _)
  clear hq
  clear HX HBX HG zw z_A z1_A z2_A y0_A y1_A c_A_0 f_A_0 c_A_1 f_A_1 c_A_2 f_A_2 z_X z1_X z2_X y0_X y1_X c_X_0 f_X_0 c_X_1 f_X_1
  have HX := Lib.hid hx_w10
  have HBX := Lib.hid hb_w10
  have g_A := Hand.kb hb_w10 GA0.out
  have g_X := hx_w10
  have hB := Hand.stepB hb_w10 HB0.out (Nat.le_refl _)
  clear hx_w10 hb_w10
  obtain ⟨z_A, z1_A, z2_A, y0_A, y1_A⟩ := Hand.hz g_A
  obtain ⟨c_A_0, f_A_0, c_A_1, f_A_1, c_A_2, f_A_2⟩ := Hand.hc3 g_A
  obtain ⟨z_X, z1_X, z2_X, y0_X, y1_X⟩ := Hand.hz g_X
  obtain ⟨c_X_0, f_X_0, c_X_1, f_X_1⟩ := Hand.hc2 g_X
  have zw : w.heap.size ≤ w10.heap.size := hB.size
  have HG := Lib.hid (And.intro g_A (And.intro g_X (hB)))
  clear g_A g_X hB
  go_wp2_with fail
  with_reducible refine (M11.out w2 _ _ (Nat.le_refl _) (bk HX.out) (bw HBX.out)).mono ?_
  rintro e w11 ⟨rfl, hx_w11, hb_w11⟩
  clear HX HBX HG zw z_A z1_A z2_A y0_A y1_A c_A_0 f_A_0 c_A_1 f_A_1 c_A_2 f_A_2 z_X z1_X z2_X y0_X y1_X c_X_0 f_X_0 c_X_1 f_X_1
  have HX := Lib.hid hx_w11
  have HBX := Lib.hid hb_w11
  have g_A := Hand.kb hb_w11 GA0.out
  have g_X := hx_w11
  have hB := Hand.stepB hb_w11 HB0.out (Nat.le_refl _)
  clear hx_w11 hb_w11
  obtain ⟨z_A, z1_A, z2_A, y0_A, y1_A⟩ := Hand.hz g_A
  obtain ⟨c_A_0, f_A_0, c_A_1, f_A_1, c_A_2, f_A_2⟩ := Hand.hc3 g_A
  obtain ⟨z_X, z1_X, z2_X, y0_X, y1_X⟩ := Hand.hz g_X
  obtain ⟨c_X_0, f_X_0, c_X_1, f_X_1⟩ := Hand.hc2 g_X
  have zw : w.heap.size ≤ w11.heap.size := hB.size
  have HG := Lib.hid (And.intro g_A (And.intro g_X (hB)))
  clear g_A g_X hB
  go_wp2_with fail
  with_reducible refine (M12.out _).mono ?_
  rintro e w12 ⟨rfl, hb12⟩
  obtain ⟨g_A, g_X, hB⟩ := HG.out
  have h_A : w12.heap[w.heap.size]? = some (.cells #[.int .i64 n, .int .i64 d, .bool true] 23 (0, 0)) := by
    refine Hand.kb hb12 ?_; first | with_reducible exact g_A | (simp (disch := first | omega | (simp only [Hand.sa, Hand.ss, Hand.sd, Hand.sn]; first | done | omega)) only [Hand.q2, Hand.q1, Hand.q5, Hand.q6, Hand.q4, Hand.q3, g_A] <;> rfl)
  have h_X : w12.heap[w2.heap.size]? = some (.cells #[.string ⟨#[]⟩, .bool false] 70 (0, 0)) := by
    refine Hand.kb hb12 ?_; simp (disch := first | omega | (simp only [Hand.sa, Hand.ss, Hand.sd, Hand.sn]; first | done | omega)) only [Hand.q2, Hand.q1, Hand.q5, Hand.q6, Hand.q4, Hand.q3, g_X] <;> rfl
  have hB' : Below w.heap.size w w12 := Hand.stepB hb12 (by repeat (with_reducible first | apply hB | apply Below.drew | apply pw_below_drewN | (apply Below.setCell; rotate_left; (dsimp only; omega)) | (apply Below.alloc; rotate_left; (first | omega | (simp only [Hand.sa, Hand.ss, Hand.sd, Hand.sn]; omega))))) (Nat.le_refl _)
  clear HG hB g_A g_X zw z_A z1_A z2_A y0_A y1_A c_A_0 f_A_0 c_A_1 f_A_1 c_A_2 f_A_2 z_X z1_X z2_X y0_X y1_X c_X_0 f_X_0 c_X_1 f_X_1
  clear hb12
  have g_A := h_A
  have g_X := h_X
  have hB := hB'
  clear hB' h_A h_X
  obtain ⟨z_A, z1_A, z2_A, y0_A, y1_A⟩ := Hand.hz g_A
  obtain ⟨c_A_0, f_A_0, c_A_1, f_A_1, c_A_2, f_A_2⟩ := Hand.hc3 g_A
  obtain ⟨z_X, z1_X, z2_X, y0_X, y1_X⟩ := Hand.hz g_X
  obtain ⟨c_X_0, f_X_0, c_X_1, f_X_1⟩ := Hand.hc2 g_X
  have zw : w.heap.size ≤ w12.heap.size := hB.size
  have HG := Lib.hid (And.intro g_A (And.intro g_X (hB)))
  clear g_A g_X hB
  go_wp2_with fail
  all_goals first | (exfalso; have := Q_.out; omega) | skip
  all_goals
    with_reducible refine (M13.out _).mono ?_
    rintro e w13 ⟨rfl, hb13⟩
    obtain ⟨g_A, g_X, hB⟩ := HG.out
    have h_A : w13.heap[w.heap.size]? = some (.cells #[.int .i64 n, .int .i64 d, .bool true] 23 (0, 0)) := by
      refine Hand.kb hb13 ?_; first | with_reducible exact g_A | (simp (disch := first | omega | (simp only [Hand.sa, Hand.ss, Hand.sd, Hand.sn]; first | done | omega)) only [Hand.q2, Hand.q1, Hand.q5, Hand.q6, Hand.q4, Hand.q3, g_A] <;> rfl)
    have h_X : w13.heap[w2.heap.size]? = some (.cells #[.string ⟨#[]⟩, .bool false] 70 (0, 0)) := by
      refine Hand.kb hb13 ?_; simp (disch := first | omega | (simp only [Hand.sa, Hand.ss, Hand.sd, Hand.sn]; first | done | omega)) only [Hand.q2, Hand.q1, Hand.q5, Hand.q6, Hand.q4, Hand.q3, g_X] <;> rfl
    have hB' : Below w.heap.size w w13 := Hand.stepB hb13 (by repeat (with_reducible first | apply hB | apply Below.drew | apply pw_below_drewN | (apply Below.setCell; rotate_left; (dsimp only; omega)) | (apply Below.alloc; rotate_left; (first | omega | (simp only [Hand.sa, Hand.ss, Hand.sd, Hand.sn]; omega))))) (Nat.le_refl _)
    clear HG hB g_A g_X zw z_A z1_A z2_A y0_A y1_A c_A_0 f_A_0 c_A_1 f_A_1 c_A_2 f_A_2 z_X z1_X z2_X y0_X y1_X c_X_0 f_X_0 c_X_1 f_X_1
    clear hb13
    have g_A := h_A
    have g_X := h_X
    have hB := hB'
    clear hB' h_A h_X
    obtain ⟨z_A, z1_A, z2_A, y0_A, y1_A⟩ := Hand.hz g_A
    obtain ⟨c_A_0, f_A_0, c_A_1, f_A_1, c_A_2, f_A_2⟩ := Hand.hc3 g_A
    obtain ⟨z_X, z1_X, z2_X, y0_X, y1_X⟩ := Hand.hz g_X
    obtain ⟨c_X_0, f_X_0, c_X_1, f_X_1⟩ := Hand.hc2 g_X
    have zw : w.heap.size ≤ w13.heap.size := hB.size
    have HG := Lib.hid (And.intro g_A (And.intro g_X (hB)))
    clear g_A g_X hB
    go_wp2
    go_ret2
    obtain ⟨g_A, g_X, hB⟩ := HG.out
    exact ⟨rfl, hB⟩
set_option maxHeartbeats 1600000 in
set_option maxRecDepth 100000 in
theorem cnum_dfar (n d f h m s k LW : Int) (b1 b2 b3 b4 b5 b6 b7 : Bool) (L L1 L2 L3 L4 L5 L6 L7 C : ByteArray) (hb : b7 = false) (hl : L7 = ⟨#[]⟩) (f0 : 1 ≤ f) (f1 : f ≤ 240) (h0 : 0 ≤ h) (h1 : h ≤ 999) (m0 : 0 ≤ m) (mb : m < 60) (s0 : 0 ≤ s) (sb : s < 60) (k0 : 0 ≤ k) (kf : k < f) (M T P N : Int) (hM : 60 * h + m = M) (hT : 60 * M + s = T) (hP : f * T = P) (hN : k + P = N) (N0 : 0 ≤ N) (N1 : N ≤ 1000000000) (D Q E R : Int) (D0 : 0 ≤ D) (D1 : D ≤ 4) (hr : N % f = k) (hQ : M - M / 10 = Q) (hE : D * Q = E) (hR : N - E = R) (E0 : 0 ≤ E) (E1 : E ≤ 1000000000) (q : s ≠ 0 ∨ m % 10 = 0 ∨ D ≤ k) (w : World) (ht : TabN w)
    (m1 : ∀ w, Calls Tryz.prog 45 #[rate n d true] w fun e w' => e = .returned (.int .i64 0) ∧ Below w.heap.size w w')
    (m2 : ∀ w, Calls Tryz.prog 53 #[rate n d true] w fun e w' => e = .returned (.int .i64 f) ∧ Below w.heap.size w w')
    (m3 : ∀ w0 w g, w0.heap.size ≤ g → w.heap[g]? = some (scan L false) → Below w0.heap.size w0 w → Calls Tryz.prog 39 #[.pointer (some ⟨g, 0, none⟩), .int .i64 2] w fun e w' => e = .returned (.int .i64 h) ∧ SL w0 w' g L1 b1)
    (m4 : ∀ w0 w g, w0.heap.size ≤ g → w.heap[g]? = some (scan L1 b1) → Below w0.heap.size w0 w → Calls Tryz.prog 40 #[.pointer (some ⟨g, 0, none⟩), .string ⟨#[58]⟩] w fun e w' => e = .returned (.tuple #[]) ∧ SL w0 w' g L2 b2)
    (m5 : ∀ w0 w g, w0.heap.size ≤ g → w.heap[g]? = some (scan L2 b2) → Below w0.heap.size w0 w → Calls Tryz.prog 41 #[.pointer (some ⟨g, 0, none⟩), .int .i64 2, .int .i64 60] w fun e w' => e = .returned (.int .i64 m) ∧ SL w0 w' g L3 b3)
    (m6 : ∀ w0 w g, w0.heap.size ≤ g → w.heap[g]? = some (scan L3 b3) → Below w0.heap.size w0 w → Calls Tryz.prog 40 #[.pointer (some ⟨g, 0, none⟩), .string ⟨#[58]⟩] w fun e w' => e = .returned (.tuple #[]) ∧ SL w0 w' g L4 b4)
    (m7 : ∀ w0 w g, w0.heap.size ≤ g → w.heap[g]? = some (scan L4 b4) → Below w0.heap.size w0 w → Calls Tryz.prog 41 #[.pointer (some ⟨g, 0, none⟩), .int .i64 2, .int .i64 60] w fun e w' => e = .returned (.int .i64 s) ∧ SL w0 w' g L5 b5)
    (m8 : ∀ w, Calls Tryz.prog 54 #[rate n d true] w fun e w' => e = .returned (.string C) ∧ Below w.heap.size w w')
    (m9 : ∀ w0 w g, w0.heap.size ≤ g → w.heap[g]? = some (scan L5 b5) → Below w0.heap.size w0 w → Calls Tryz.prog 40 #[.pointer (some ⟨g, 0, none⟩), .string C] w fun e w' => e = .returned (.tuple #[]) ∧ SL w0 w' g L6 b6)
    (m10 : ∀ w, TabN w → Calls Tryz.prog 55 #[rate n d true] w fun e w' => e = .returned (.int .i64 LW) ∧ Below w.heap.size w w')
    (m11 : ∀ w0 w g, w0.heap.size ≤ g → w.heap[g]? = some (scan L6 b6) → Below w0.heap.size w0 w → Calls Tryz.prog 41 #[.pointer (some ⟨g, 0, none⟩), .int .i64 LW, .int .i64 f] w fun e w' => e = .returned (.int .i64 k) ∧ SL w0 w' g L7 b7)
    (m12 : ∀ w, Calls Tryz.prog 56 #[.agg #[.int .i64 n, .int .i64 d]] w fun e w' => e = .returned (.int .i64 D) ∧ Below w.heap.size w w')
    (m13 : ∀ w, Calls Tryz.prog 51 #[rate n d true, .int .i64 R] w fun e w' => e = .returned (.bool false) ∧ Below w.heap.size w w') :
    Calls Tryz.prog 20 #[rate n d true, .string L] w fun e w' => e = .returned (.tuple #[.int .i64 0, .int .i64 31]) ∧ Below w.heap.size w w' := by
  subst hb
  subst hl
  have hf2 : ¬ f = 0 := by omega
  have M0 : 0 ≤ M := by omega
  have M1' : M ≤ 60000 := by omega
  have T0 : 0 ≤ T := by omega
  have T1 : T ≤ 3600060 := by omega
  have P0 : 0 ≤ P := by rw [← hP]; exact Int.mul_nonneg (by omega) T0
  have P1 : P ≤ 1000000000 := by omega
  have Q_ := Lib.hid q
  clear q
  have HT0 := Lib.hid ht
  have M1 := Lib.hid m1
  have M2 := Lib.hid m2
  have M3 := Lib.hid m3
  have M4 := Lib.hid m4
  have M5 := Lib.hid m5
  have M6 := Lib.hid m6
  have M7 := Lib.hid m7
  have M8 := Lib.hid m8
  have M9 := Lib.hid m9
  have M10 := Lib.hid m10
  have M11 := Lib.hid m11
  have M12 := Lib.hid m12
  have M13 := Lib.hid m13
  clear m1 m2 m3 m4 m5 m6 m7 m8 m9 m10 m11 m12 m13 ht
  go_enter Tryz.func20, Tryz.ntmps20
  go_wp2_with fail
  with_reducible refine (M1.out _).mono ?_
  rintro e w1 ⟨rfl, hb1⟩
  have h_A : w1.heap[w.heap.size]? = some (.cells #[.int .i64 n, .int .i64 d, .bool true] 23 (0, 0)) := by
    refine Hand.kb hb1 ?_; simp (disch := first | omega | (simp only [Hand.sa, Hand.ss, Hand.sd, Hand.sn]; first | done | omega)) only [Hand.q2, Hand.q1, Hand.q5, Hand.q6, Hand.q4, Hand.q3] <;> rfl
  have hB' : Below w.heap.size w w1 := Hand.stepB hb1 (by repeat (with_reducible first | apply Below.refl _ _ | apply Below.drew | apply pw_below_drewN | (apply Below.setCell; rotate_left; (dsimp only; omega)) | (apply Below.alloc; rotate_left; (first | omega | (simp only [Hand.sa, Hand.ss, Hand.sd, Hand.sn]; omega))))) (Nat.le_refl _)
  clear hb1
  have g_A := h_A
  have hB := hB'
  clear hB' h_A
  obtain ⟨z_A, z1_A, z2_A, y0_A, y1_A⟩ := Hand.hz g_A
  obtain ⟨c_A_0, f_A_0, c_A_1, f_A_1, c_A_2, f_A_2⟩ := Hand.hc3 g_A
  have zw : w.heap.size ≤ w1.heap.size := hB.size
  have HG := Lib.hid (And.intro g_A (hB))
  clear g_A hB
  go_wp2_with fail
  with_reducible refine (M2.out _).mono ?_
  rintro e w2 ⟨rfl, hb2⟩
  obtain ⟨g_A, hB⟩ := HG.out
  have h_A : w2.heap[w.heap.size]? = some (.cells #[.int .i64 n, .int .i64 d, .bool true] 23 (0, 0)) := by
    refine Hand.kb hb2 ?_; first | with_reducible exact g_A | (simp (disch := first | omega | (simp only [Hand.sa, Hand.ss, Hand.sd, Hand.sn]; first | done | omega)) only [Hand.q2, Hand.q1, Hand.q5, Hand.q6, Hand.q4, Hand.q3, g_A] <;> rfl)
  have hB' : Below w.heap.size w w2 := Hand.stepB hb2 (by repeat (with_reducible first | apply hB | apply Below.drew | apply pw_below_drewN | (apply Below.setCell; rotate_left; (dsimp only; omega)) | (apply Below.alloc; rotate_left; (first | omega | (simp only [Hand.sa, Hand.ss, Hand.sd, Hand.sn]; omega))))) (Nat.le_refl _)
  clear HG hB g_A zw z_A z1_A z2_A y0_A y1_A c_A_0 f_A_0 c_A_1 f_A_1 c_A_2 f_A_2
  clear hb2
  have g_A := h_A
  have hB := hB'
  clear hB' h_A
  obtain ⟨z_A, z1_A, z2_A, y0_A, y1_A⟩ := Hand.hz g_A
  obtain ⟨c_A_0, f_A_0, c_A_1, f_A_1, c_A_2, f_A_2⟩ := Hand.hc3 g_A
  have zw : w.heap.size ≤ w2.heap.size := hB.size
  have HG := Lib.hid (And.intro g_A (hB))
  clear g_A hB
  have GA0 := Lib.hid (show w2.heap[w.heap.size]? = some (.cells #[.int .i64 n, .int .i64 d, .bool true] 23 (0, 0)) from HG.out.1)
  have HB0 := Lib.hid (show Below w.heap.size w w2 from HG.out.2)
  have HT2 := Lib.hid (tab_below HT0.out HB0.out)
  go_wp2_with fail
  obtain ⟨W, hW⟩ : ∃ W_, W_ = w2.alloc (scan L false) := ⟨_, rfl⟩
  rw [← hW]
  have hx_W : W.heap[w2.heap.size]? = some (scan L false) := by rw [hW]; exact Hand.q3 _ _ _ rfl
  have hb_W : Below w2.heap.size w2 W := by rw [hW]; exact (Below.refl _ _).alloc (Nat.le_refl _) _
  clear hW
  clear HG zw z_A z1_A z2_A y0_A y1_A c_A_0 f_A_0 c_A_1 f_A_1 c_A_2 f_A_2
  have HX := Lib.hid hx_W
  have HBX := Lib.hid hb_W
  have g_A := Hand.kb hb_W GA0.out
  have g_X := hx_W
  have hB := Hand.stepB hb_W HB0.out (Nat.le_refl _)
  clear hx_W hb_W
  obtain ⟨z_A, z1_A, z2_A, y0_A, y1_A⟩ := Hand.hz g_A
  obtain ⟨c_A_0, f_A_0, c_A_1, f_A_1, c_A_2, f_A_2⟩ := Hand.hc3 g_A
  obtain ⟨z_X, z1_X, z2_X, y0_X, y1_X⟩ := Hand.hz g_X
  obtain ⟨c_X_0, f_X_0, c_X_1, f_X_1⟩ := Hand.hc2 g_X
  have zw : w.heap.size ≤ W.heap.size := hB.size
  have HG := Lib.hid (And.intro g_A (And.intro g_X (hB)))
  clear g_A g_X hB
  go_wp2_with fail
  with_reducible refine (M3.out w2 _ _ (Nat.le_refl _) (bk HX.out) (bw HBX.out)).mono ?_
  rintro e w3 ⟨rfl, hx_w3, hb_w3⟩
  clear HX HBX HG zw z_A z1_A z2_A y0_A y1_A c_A_0 f_A_0 c_A_1 f_A_1 c_A_2 f_A_2 z_X z1_X z2_X y0_X y1_X c_X_0 f_X_0 c_X_1 f_X_1
  have HX := Lib.hid hx_w3
  have HBX := Lib.hid hb_w3
  have g_A := Hand.kb hb_w3 GA0.out
  have g_X := hx_w3
  have hB := Hand.stepB hb_w3 HB0.out (Nat.le_refl _)
  clear hx_w3 hb_w3
  obtain ⟨z_A, z1_A, z2_A, y0_A, y1_A⟩ := Hand.hz g_A
  obtain ⟨c_A_0, f_A_0, c_A_1, f_A_1, c_A_2, f_A_2⟩ := Hand.hc3 g_A
  obtain ⟨z_X, z1_X, z2_X, y0_X, y1_X⟩ := Hand.hz g_X
  obtain ⟨c_X_0, f_X_0, c_X_1, f_X_1⟩ := Hand.hc2 g_X
  have zw : w.heap.size ≤ w3.heap.size := hB.size
  have HG := Lib.hid (And.intro g_A (And.intro g_X (hB)))
  clear g_A g_X hB
  go_wp2_with fail
  with_reducible refine (M4.out w2 _ _ (Nat.le_refl _) (bk HX.out) (bw HBX.out)).mono ?_
  rintro e w4 ⟨rfl, hx_w4, hb_w4⟩
  clear HX HBX HG zw z_A z1_A z2_A y0_A y1_A c_A_0 f_A_0 c_A_1 f_A_1 c_A_2 f_A_2 z_X z1_X z2_X y0_X y1_X c_X_0 f_X_0 c_X_1 f_X_1
  have HX := Lib.hid hx_w4
  have HBX := Lib.hid hb_w4
  have g_A := Hand.kb hb_w4 GA0.out
  have g_X := hx_w4
  have hB := Hand.stepB hb_w4 HB0.out (Nat.le_refl _)
  clear hx_w4 hb_w4
  obtain ⟨z_A, z1_A, z2_A, y0_A, y1_A⟩ := Hand.hz g_A
  obtain ⟨c_A_0, f_A_0, c_A_1, f_A_1, c_A_2, f_A_2⟩ := Hand.hc3 g_A
  obtain ⟨z_X, z1_X, z2_X, y0_X, y1_X⟩ := Hand.hz g_X
  obtain ⟨c_X_0, f_X_0, c_X_1, f_X_1⟩ := Hand.hc2 g_X
  have zw : w.heap.size ≤ w4.heap.size := hB.size
  have HG := Lib.hid (And.intro g_A (And.intro g_X (hB)))
  clear g_A g_X hB
  go_wp2_with fail
  with_reducible refine (M5.out w2 _ _ (Nat.le_refl _) (bk HX.out) (bw HBX.out)).mono ?_
  rintro e w5 ⟨rfl, hx_w5, hb_w5⟩
  clear HX HBX HG zw z_A z1_A z2_A y0_A y1_A c_A_0 f_A_0 c_A_1 f_A_1 c_A_2 f_A_2 z_X z1_X z2_X y0_X y1_X c_X_0 f_X_0 c_X_1 f_X_1
  have HX := Lib.hid hx_w5
  have HBX := Lib.hid hb_w5
  have g_A := Hand.kb hb_w5 GA0.out
  have g_X := hx_w5
  have hB := Hand.stepB hb_w5 HB0.out (Nat.le_refl _)
  clear hx_w5 hb_w5
  obtain ⟨z_A, z1_A, z2_A, y0_A, y1_A⟩ := Hand.hz g_A
  obtain ⟨c_A_0, f_A_0, c_A_1, f_A_1, c_A_2, f_A_2⟩ := Hand.hc3 g_A
  obtain ⟨z_X, z1_X, z2_X, y0_X, y1_X⟩ := Hand.hz g_X
  obtain ⟨c_X_0, f_X_0, c_X_1, f_X_1⟩ := Hand.hc2 g_X
  have zw : w.heap.size ≤ w5.heap.size := hB.size
  have HG := Lib.hid (And.intro g_A (And.intro g_X (hB)))
  clear g_A g_X hB
  go_wp2_with fail
  with_reducible refine (M6.out w2 _ _ (Nat.le_refl _) (bk HX.out) (bw HBX.out)).mono ?_
  rintro e w6 ⟨rfl, hx_w6, hb_w6⟩
  clear HX HBX HG zw z_A z1_A z2_A y0_A y1_A c_A_0 f_A_0 c_A_1 f_A_1 c_A_2 f_A_2 z_X z1_X z2_X y0_X y1_X c_X_0 f_X_0 c_X_1 f_X_1
  have HX := Lib.hid hx_w6
  have HBX := Lib.hid hb_w6
  have g_A := Hand.kb hb_w6 GA0.out
  have g_X := hx_w6
  have hB := Hand.stepB hb_w6 HB0.out (Nat.le_refl _)
  clear hx_w6 hb_w6
  obtain ⟨z_A, z1_A, z2_A, y0_A, y1_A⟩ := Hand.hz g_A
  obtain ⟨c_A_0, f_A_0, c_A_1, f_A_1, c_A_2, f_A_2⟩ := Hand.hc3 g_A
  obtain ⟨z_X, z1_X, z2_X, y0_X, y1_X⟩ := Hand.hz g_X
  obtain ⟨c_X_0, f_X_0, c_X_1, f_X_1⟩ := Hand.hc2 g_X
  have zw : w.heap.size ≤ w6.heap.size := hB.size
  have HG := Lib.hid (And.intro g_A (And.intro g_X (hB)))
  clear g_A g_X hB
  go_wp2_with fail
  with_reducible refine (M7.out w2 _ _ (Nat.le_refl _) (bk HX.out) (bw HBX.out)).mono ?_
  rintro e w7 ⟨rfl, hx_w7, hb_w7⟩
  clear HX HBX HG zw z_A z1_A z2_A y0_A y1_A c_A_0 f_A_0 c_A_1 f_A_1 c_A_2 f_A_2 z_X z1_X z2_X y0_X y1_X c_X_0 f_X_0 c_X_1 f_X_1
  have HX := Lib.hid hx_w7
  have HBX := Lib.hid hb_w7
  have g_A := Hand.kb hb_w7 GA0.out
  have g_X := hx_w7
  have hB := Hand.stepB hb_w7 HB0.out (Nat.le_refl _)
  clear hx_w7 hb_w7
  obtain ⟨z_A, z1_A, z2_A, y0_A, y1_A⟩ := Hand.hz g_A
  obtain ⟨c_A_0, f_A_0, c_A_1, f_A_1, c_A_2, f_A_2⟩ := Hand.hc3 g_A
  obtain ⟨z_X, z1_X, z2_X, y0_X, y1_X⟩ := Hand.hz g_X
  obtain ⟨c_X_0, f_X_0, c_X_1, f_X_1⟩ := Hand.hc2 g_X
  have zw : w.heap.size ≤ w7.heap.size := hB.size
  have HG := Lib.hid (And.intro g_A (And.intro g_X (hB)))
  clear g_A g_X hB
  go_wp2_with fail
  with_reducible refine (M8.out _).mono ?_
  rintro e w8 ⟨rfl, hq⟩
  have hx_w8 := Hand.kb hq (bk HX.out)
  have hb_w8 := Hand.stepB hq (bw HBX.out) (Nat.le_refl _)
  clear hq
  clear HX HBX HG zw z_A z1_A z2_A y0_A y1_A c_A_0 f_A_0 c_A_1 f_A_1 c_A_2 f_A_2 z_X z1_X z2_X y0_X y1_X c_X_0 f_X_0 c_X_1 f_X_1
  have HX := Lib.hid hx_w8
  have HBX := Lib.hid hb_w8
  have g_A := Hand.kb hb_w8 GA0.out
  have g_X := hx_w8
  have hB := Hand.stepB hb_w8 HB0.out (Nat.le_refl _)
  clear hx_w8 hb_w8
  obtain ⟨z_A, z1_A, z2_A, y0_A, y1_A⟩ := Hand.hz g_A
  obtain ⟨c_A_0, f_A_0, c_A_1, f_A_1, c_A_2, f_A_2⟩ := Hand.hc3 g_A
  obtain ⟨z_X, z1_X, z2_X, y0_X, y1_X⟩ := Hand.hz g_X
  obtain ⟨c_X_0, f_X_0, c_X_1, f_X_1⟩ := Hand.hc2 g_X
  have zw : w.heap.size ≤ w8.heap.size := hB.size
  have HG := Lib.hid (And.intro g_A (And.intro g_X (hB)))
  clear g_A g_X hB
  go_wp2_with fail
  with_reducible refine (M9.out w2 _ _ (Nat.le_refl _) (bk HX.out) (bw HBX.out)).mono ?_
  rintro e w9 ⟨rfl, hx_w9, hb_w9⟩
  clear HX HBX HG zw z_A z1_A z2_A y0_A y1_A c_A_0 f_A_0 c_A_1 f_A_1 c_A_2 f_A_2 z_X z1_X z2_X y0_X y1_X c_X_0 f_X_0 c_X_1 f_X_1
  have HX := Lib.hid hx_w9
  have HBX := Lib.hid hb_w9
  have g_A := Hand.kb hb_w9 GA0.out
  have g_X := hx_w9
  have hB := Hand.stepB hb_w9 HB0.out (Nat.le_refl _)
  clear hx_w9 hb_w9
  obtain ⟨z_A, z1_A, z2_A, y0_A, y1_A⟩ := Hand.hz g_A
  obtain ⟨c_A_0, f_A_0, c_A_1, f_A_1, c_A_2, f_A_2⟩ := Hand.hc3 g_A
  obtain ⟨z_X, z1_X, z2_X, y0_X, y1_X⟩ := Hand.hz g_X
  obtain ⟨c_X_0, f_X_0, c_X_1, f_X_1⟩ := Hand.hc2 g_X
  have zw : w.heap.size ≤ w9.heap.size := hB.size
  have HG := Lib.hid (And.intro g_A (And.intro g_X (hB)))
  clear g_A g_X hB
  go_wp2_with fail
  with_reducible refine (M10.out _ (tab_below HT2.out (bw HBX.out))).mono ?_
  rintro e w10 ⟨rfl, hq⟩
  have hx_w10 := Hand.kb hq (bk HX.out)
  have hb_w10 := Hand.stepB hq (bw HBX.out) (Nat.le_refl _)
  clear hq
  clear HX HBX HG zw z_A z1_A z2_A y0_A y1_A c_A_0 f_A_0 c_A_1 f_A_1 c_A_2 f_A_2 z_X z1_X z2_X y0_X y1_X c_X_0 f_X_0 c_X_1 f_X_1
  have HX := Lib.hid hx_w10
  have HBX := Lib.hid hb_w10
  have g_A := Hand.kb hb_w10 GA0.out
  have g_X := hx_w10
  have hB := Hand.stepB hb_w10 HB0.out (Nat.le_refl _)
  clear hx_w10 hb_w10
  obtain ⟨z_A, z1_A, z2_A, y0_A, y1_A⟩ := Hand.hz g_A
  obtain ⟨c_A_0, f_A_0, c_A_1, f_A_1, c_A_2, f_A_2⟩ := Hand.hc3 g_A
  obtain ⟨z_X, z1_X, z2_X, y0_X, y1_X⟩ := Hand.hz g_X
  obtain ⟨c_X_0, f_X_0, c_X_1, f_X_1⟩ := Hand.hc2 g_X
  have zw : w.heap.size ≤ w10.heap.size := hB.size
  have HG := Lib.hid (And.intro g_A (And.intro g_X (hB)))
  clear g_A g_X hB
  go_wp2_with fail
  with_reducible refine (M11.out w2 _ _ (Nat.le_refl _) (bk HX.out) (bw HBX.out)).mono ?_
  rintro e w11 ⟨rfl, hx_w11, hb_w11⟩
  clear HX HBX HG zw z_A z1_A z2_A y0_A y1_A c_A_0 f_A_0 c_A_1 f_A_1 c_A_2 f_A_2 z_X z1_X z2_X y0_X y1_X c_X_0 f_X_0 c_X_1 f_X_1
  have HX := Lib.hid hx_w11
  have HBX := Lib.hid hb_w11
  have g_A := Hand.kb hb_w11 GA0.out
  have g_X := hx_w11
  have hB := Hand.stepB hb_w11 HB0.out (Nat.le_refl _)
  clear hx_w11 hb_w11
  obtain ⟨z_A, z1_A, z2_A, y0_A, y1_A⟩ := Hand.hz g_A
  obtain ⟨c_A_0, f_A_0, c_A_1, f_A_1, c_A_2, f_A_2⟩ := Hand.hc3 g_A
  obtain ⟨z_X, z1_X, z2_X, y0_X, y1_X⟩ := Hand.hz g_X
  obtain ⟨c_X_0, f_X_0, c_X_1, f_X_1⟩ := Hand.hc2 g_X
  have zw : w.heap.size ≤ w11.heap.size := hB.size
  have HG := Lib.hid (And.intro g_A (And.intro g_X (hB)))
  clear g_A g_X hB
  go_wp2_with fail
  with_reducible refine (M12.out _).mono ?_
  rintro e w12 ⟨rfl, hb12⟩
  obtain ⟨g_A, g_X, hB⟩ := HG.out
  have h_A : w12.heap[w.heap.size]? = some (.cells #[.int .i64 n, .int .i64 d, .bool true] 23 (0, 0)) := by
    refine Hand.kb hb12 ?_; first | with_reducible exact g_A | (simp (disch := first | omega | (simp only [Hand.sa, Hand.ss, Hand.sd, Hand.sn]; first | done | omega)) only [Hand.q2, Hand.q1, Hand.q5, Hand.q6, Hand.q4, Hand.q3, g_A] <;> rfl)
  have h_X : w12.heap[w2.heap.size]? = some (.cells #[.string ⟨#[]⟩, .bool false] 70 (0, 0)) := by
    refine Hand.kb hb12 ?_; simp (disch := first | omega | (simp only [Hand.sa, Hand.ss, Hand.sd, Hand.sn]; first | done | omega)) only [Hand.q2, Hand.q1, Hand.q5, Hand.q6, Hand.q4, Hand.q3, g_X] <;> rfl
  have hB' : Below w.heap.size w w12 := Hand.stepB hb12 (by repeat (with_reducible first | apply hB | apply Below.drew | apply pw_below_drewN | (apply Below.setCell; rotate_left; (dsimp only; omega)) | (apply Below.alloc; rotate_left; (first | omega | (simp only [Hand.sa, Hand.ss, Hand.sd, Hand.sn]; omega))))) (Nat.le_refl _)
  clear HG hB g_A g_X zw z_A z1_A z2_A y0_A y1_A c_A_0 f_A_0 c_A_1 f_A_1 c_A_2 f_A_2 z_X z1_X z2_X y0_X y1_X c_X_0 f_X_0 c_X_1 f_X_1
  clear hb12
  have g_A := h_A
  have g_X := h_X
  have hB := hB'
  clear hB' h_A h_X
  obtain ⟨z_A, z1_A, z2_A, y0_A, y1_A⟩ := Hand.hz g_A
  obtain ⟨c_A_0, f_A_0, c_A_1, f_A_1, c_A_2, f_A_2⟩ := Hand.hc3 g_A
  obtain ⟨z_X, z1_X, z2_X, y0_X, y1_X⟩ := Hand.hz g_X
  obtain ⟨c_X_0, f_X_0, c_X_1, f_X_1⟩ := Hand.hc2 g_X
  have zw : w.heap.size ≤ w12.heap.size := hB.size
  have HG := Lib.hid (And.intro g_A (And.intro g_X (hB)))
  clear g_A g_X hB
  go_wp2_with fail
  all_goals first | (exfalso; have := Q_.out; omega) | skip
  all_goals
    with_reducible refine (M13.out _).mono ?_
    rintro e w13 ⟨rfl, hb13⟩
    obtain ⟨g_A, g_X, hB⟩ := HG.out
    have h_A : w13.heap[w.heap.size]? = some (.cells #[.int .i64 n, .int .i64 d, .bool true] 23 (0, 0)) := by
      refine Hand.kb hb13 ?_; first | with_reducible exact g_A | (simp (disch := first | omega | (simp only [Hand.sa, Hand.ss, Hand.sd, Hand.sn]; first | done | omega)) only [Hand.q2, Hand.q1, Hand.q5, Hand.q6, Hand.q4, Hand.q3, g_A] <;> rfl)
    have h_X : w13.heap[w2.heap.size]? = some (.cells #[.string ⟨#[]⟩, .bool false] 70 (0, 0)) := by
      refine Hand.kb hb13 ?_; simp (disch := first | omega | (simp only [Hand.sa, Hand.ss, Hand.sd, Hand.sn]; first | done | omega)) only [Hand.q2, Hand.q1, Hand.q5, Hand.q6, Hand.q4, Hand.q3, g_X] <;> rfl
    have hB' : Below w.heap.size w w13 := Hand.stepB hb13 (by repeat (with_reducible first | apply hB | apply Below.drew | apply pw_below_drewN | (apply Below.setCell; rotate_left; (dsimp only; omega)) | (apply Below.alloc; rotate_left; (first | omega | (simp only [Hand.sa, Hand.ss, Hand.sd, Hand.sn]; omega))))) (Nat.le_refl _)
    clear HG hB g_A g_X zw z_A z1_A z2_A y0_A y1_A c_A_0 f_A_0 c_A_1 f_A_1 c_A_2 f_A_2 z_X z1_X z2_X y0_X y1_X c_X_0 f_X_0 c_X_1 f_X_1
    clear hb13
    have g_A := h_A
    have g_X := h_X
    have hB := hB'
    clear hB' h_A h_X
    obtain ⟨z_A, z1_A, z2_A, y0_A, y1_A⟩ := Hand.hz g_A
    obtain ⟨c_A_0, f_A_0, c_A_1, f_A_1, c_A_2, f_A_2⟩ := Hand.hc3 g_A
    obtain ⟨z_X, z1_X, z2_X, y0_X, y1_X⟩ := Hand.hz g_X
    obtain ⟨c_X_0, f_X_0, c_X_1, f_X_1⟩ := Hand.hc2 g_X
    have zw : w.heap.size ≤ w13.heap.size := hB.size
    have HG := Lib.hid (And.intro g_A (And.intro g_X (hB)))
    clear g_A g_X hB
    go_wp2
    go_ret2
    obtain ⟨g_A, g_X, hB⟩ := HG.out
    exact ⟨rfl, hB⟩
end Go.Proofs.YtghiibdhibcbaaaGreatDoor.PA
