/- The reference: Label. -/
import Derived.Test.YtghiibdhibcbaaaDoorRfD
import Derived.Test.YtghiibdhibcbaaaDoorLabP
import Derived.Deep.RegionHeld3
namespace Go.Proofs.YtghiibdhibcbaaaDoor.PA
open Go Go.RowKit Go.Proofs.YtghiibdhibcbaaaDoorW.PrintWords Go.Proofs.YtghiibdhibcbaaaDoorW.PrintLast Go.Proofs.YtghiibdhibcbaaaDoorW.PrintMore Go.Proofs.YtghiibdhibcbaaaDoor.CS
set_option linter.unusedSimpArgs false
set_option linter.unusedVariables false
set_option maxHeartbeats 800000 in
set_option maxRecDepth 100000 in
theorem rlabel_bad (n d c fr : Int) (dr : Bool) (hc : (c == 0) = false) (w : World)
    (m1 : ∀ w, Calls Tryd.prog 25 #[rate n d dr] w fun e w' => e = .returned (.int .i64 c) ∧ Below w.heap.size w w') :
    Calls Tryd.prog 20 #[rate n d dr, .int .i64 fr] w fun e w' => e = .returned (.tuple #[.string ⟨#[]⟩, .int .i64 14]) ∧ Below w.heap.size w w' := by
  have M1 := Lib.hid m1
  clear m1
  go_enter Tryd.func20, Tryd.ntmps20
  go_wp2_with fail
  with_reducible refine (M1.out _).mono ?_
  rintro e w1 ⟨rfl, hb1⟩
  have h_A : w1.heap[w.heap.size]? = some (.cells #[.int .i64 n, .int .i64 d, .bool dr] 24 (0, 0)) := by
    refine Hand.kb hb1 ?_; simp (disch := first | omega | (simp only [Hand.sa, Hand.ss, Hand.sd, Hand.sn]; first | done | omega)) only [Hand.q2, Hand.q1, Hand.q5, Hand.q6, Hand.q4, Hand.q3] <;> rfl
  have hB' : Below w.heap.size w w1 := Hand.stepB hb1 (by repeat (with_reducible first | apply Below.refl _ _ | apply Below.drew | apply pw_below_drewN | (apply Below.setCell; rotate_left; (dsimp only; omega)) | (apply Below.alloc; rotate_left; (first | omega | (simp only [Hand.sa, Hand.ss, Hand.sd, Hand.sn]; omega))))) (Nat.le_refl _)
  clear hb1
  have g_A := h_A
  have hB := hB'
  clear hB' h_A
  obtain ⟨z_A, z1_A, z2_A, y0_A, y1_A⟩ := Hand.hz g_A
  obtain ⟨c_A_0, f_A_0, c_A_1, f_A_1, c_A_2, f_A_2⟩ := Hand.hc3 g_A
  have zw : w.heap.size ≤ w1.heap.size := hB.size
  have HG := Lib.hid (And.intro g_A (hB))
  clear g_A hB
  go_wp2
  go_ret2
  obtain ⟨g_A, hB⟩ := HG.out
  exact ⟨rfl, hB⟩
set_option maxHeartbeats 800000 in
set_option maxRecDepth 100000 in
theorem rlabel_neg (n d fr : Int) (dr : Bool) (h : decide (fr < 0) = true) (w : World)
    (m1 : ∀ w, Calls Tryd.prog 25 #[rate n d dr] w fun e w' => e = .returned (.int .i64 0) ∧ Below w.heap.size w w') :
    Calls Tryd.prog 20 #[rate n d dr, .int .i64 fr] w fun e w' => e = .returned (.tuple #[.string ⟨#[]⟩, .int .i64 31]) ∧ Below w.heap.size w w' := by
  have M1 := Lib.hid m1
  clear m1
  go_enter Tryd.func20, Tryd.ntmps20
  go_wp2_with fail
  with_reducible refine (M1.out _).mono ?_
  rintro e w1 ⟨rfl, hb1⟩
  have h_A : w1.heap[w.heap.size]? = some (.cells #[.int .i64 n, .int .i64 d, .bool dr] 24 (0, 0)) := by
    refine Hand.kb hb1 ?_; simp (disch := first | omega | (simp only [Hand.sa, Hand.ss, Hand.sd, Hand.sn]; first | done | omega)) only [Hand.q2, Hand.q1, Hand.q5, Hand.q6, Hand.q4, Hand.q3] <;> rfl
  have hB' : Below w.heap.size w w1 := Hand.stepB hb1 (by repeat (with_reducible first | apply Below.refl _ _ | apply Below.drew | apply pw_below_drewN | (apply Below.setCell; rotate_left; (dsimp only; omega)) | (apply Below.alloc; rotate_left; (first | omega | (simp only [Hand.sa, Hand.ss, Hand.sd, Hand.sn]; omega))))) (Nat.le_refl _)
  clear hb1
  have g_A := h_A
  have hB := hB'
  clear hB' h_A
  obtain ⟨z_A, z1_A, z2_A, y0_A, y1_A⟩ := Hand.hz g_A
  obtain ⟨c_A_0, f_A_0, c_A_1, f_A_1, c_A_2, f_A_2⟩ := Hand.hc3 g_A
  have zw : w.heap.size ≤ w1.heap.size := hB.size
  have HG := Lib.hid (And.intro g_A (hB))
  clear g_A hB
  go_wp2
  go_ret2
  obtain ⟨g_A, hB⟩ := HG.out
  exact ⟨rfl, hB⟩
set_option maxHeartbeats 800000 in
set_option maxRecDepth 100000 in
theorem rlabel_far (n d fr l : Int) (dr : Bool) (h : decide (fr < 0) = false) (h2 : decide (l < fr) = true) (w : World)
    (m1 : ∀ w, Calls Tryd.prog 25 #[rate n d dr] w fun e w' => e = .returned (.int .i64 0) ∧ Below w.heap.size w w')
    (m2 : ∀ w, Calls Tryd.prog 49 #[rate n d dr] w fun e w' => e = .returned (.int .i64 l) ∧ Below w.heap.size w w') :
    Calls Tryd.prog 20 #[rate n d dr, .int .i64 fr] w fun e w' => e = .returned (.tuple #[.string ⟨#[]⟩, .int .i64 31]) ∧ Below w.heap.size w w' := by
  have M1 := Lib.hid m1
  have M2 := Lib.hid m2
  clear m1 m2
  go_enter Tryd.func20, Tryd.ntmps20
  go_wp2_with fail
  with_reducible refine (M1.out _).mono ?_
  rintro e w1 ⟨rfl, hb1⟩
  have h_A : w1.heap[w.heap.size]? = some (.cells #[.int .i64 n, .int .i64 d, .bool dr] 24 (0, 0)) := by
    refine Hand.kb hb1 ?_; simp (disch := first | omega | (simp only [Hand.sa, Hand.ss, Hand.sd, Hand.sn]; first | done | omega)) only [Hand.q2, Hand.q1, Hand.q5, Hand.q6, Hand.q4, Hand.q3] <;> rfl
  have hB' : Below w.heap.size w w1 := Hand.stepB hb1 (by repeat (with_reducible first | apply Below.refl _ _ | apply Below.drew | apply pw_below_drewN | (apply Below.setCell; rotate_left; (dsimp only; omega)) | (apply Below.alloc; rotate_left; (first | omega | (simp only [Hand.sa, Hand.ss, Hand.sd, Hand.sn]; omega))))) (Nat.le_refl _)
  clear hb1
  have g_A := h_A
  have hB := hB'
  clear hB' h_A
  obtain ⟨z_A, z1_A, z2_A, y0_A, y1_A⟩ := Hand.hz g_A
  obtain ⟨c_A_0, f_A_0, c_A_1, f_A_1, c_A_2, f_A_2⟩ := Hand.hc3 g_A
  have zw : w.heap.size ≤ w1.heap.size := hB.size
  have HG := Lib.hid (And.intro g_A (hB))
  clear g_A hB
  go_wp2_with fail
  with_reducible refine (M2.out _).mono ?_
  rintro e w2 ⟨rfl, hb2⟩
  obtain ⟨g_A, hB⟩ := HG.out
  have h_A : w2.heap[w.heap.size]? = some (.cells #[.int .i64 n, .int .i64 d, .bool dr] 24 (0, 0)) := by
    refine Hand.kb hb2 ?_; first | with_reducible exact g_A | (simp (disch := first | omega | (simp only [Hand.sa, Hand.ss, Hand.sd, Hand.sn]; first | done | omega)) only [Hand.q2, Hand.q1, Hand.q5, Hand.q6, Hand.q4, Hand.q3, g_A] <;> rfl)
  have hB' : Below w.heap.size w w2 := Hand.stepB hb2 (by repeat (with_reducible first | apply hB | apply Below.drew | apply pw_below_drewN | (apply Below.setCell; rotate_left; (dsimp only; omega)) | (apply Below.alloc; rotate_left; (first | omega | (simp only [Hand.sa, Hand.ss, Hand.sd, Hand.sn]; omega))))) (Nat.le_refl _)
  clear HG hB g_A zw z_A z1_A z2_A y0_A y1_A c_A_0 f_A_0 c_A_1 f_A_1 c_A_2 f_A_2
  clear hb2
  have g_A := h_A
  have hB := hB'
  clear hB' h_A
  obtain ⟨z_A, z1_A, z2_A, y0_A, y1_A⟩ := Hand.hz g_A
  obtain ⟨c_A_0, f_A_0, c_A_1, f_A_1, c_A_2, f_A_2⟩ := Hand.hc3 g_A
  have zw : w.heap.size ≤ w2.heap.size := hB.size
  have HG := Lib.hid (And.intro g_A (hB))
  clear g_A hB
  go_wp2
  go_ret2
  obtain ⟨g_A, hB⟩ := HG.out
  exact ⟨rfl, hB⟩
theorem rdigits2 (n : Int) (n0 : 0 ≤ n) (n1 : n ≤ 1000000000) (w : World) :
    Calls Tryd.prog 54 #[.int .i64 n, .int .i64 2] w fun e w' => e = .returned (.string (bs (digL n 2))) ∧ Below w.heap.size w w' := rdigits_any n 2 (by decide) (by decide) n0 n1 w
/-- what the loop over minutes holds -/
def loopL (w wr : World) (n d : Int) (dr : Bool) (q : Nat → Int) (r0 : Int) (x y : Value) : Prop :=
  ∃ (m : Nat) (r : Int), x = .int .i64 r ∧ y = .int .i64 (m : Int) ∧ stepP q r0 m r ∧ r ≤ 86400000 ∧ wr.heap[w.heap.size]? = some (.cells #[.int .i64 n, .int .i64 d, .bool dr] 24 (0, 0)) ∧ Below w.heap.size w wr
set_option maxHeartbeats 4000000 in
set_option maxRecDepth 100000 in
theorem rlabel_false (n d fr l f D T tens r0 : Int) (X : List UInt8) (q : Nat → Int) (h : decide (fr < 0) = false) (h2 : decide (l < fr) = false) (fr0 : 0 ≤ fr) (fr1 : fr ≤ 86400000) (f0 : 1 ≤ f) (f1 : f ≤ 240) (D0 : 0 ≤ D) (D1 : D ≤ 4) (hT : 600 * f - 9 * D = T) (ht' : fr / T = tens) (hr : fr % T = r0) (t0 : 0 ≤ tens) (t1 : tens ≤ 86400000) (r00 : 0 ≤ r0) (r01 : r0 < T)
    (hq : ∀ m : Nat, q m = 60 * f - outS n d false m) (ho : ∀ m : Int, 0 ≤ outS n d false m ∧ outS n d false m ≤ 4) (hs : ∀ m r, stepP q r0 m r → q m ≤ r → stepP q r0 (m + 1) (r - q m))
    (hf : ∀ m r, stepP q r0 m r → r < q m → num n d false fr = 60 * f * ((m : Int) + 10 * tens) + (r + outS n d false m) ∧ 0 ≤ r + outS n d false m ∧ r + outS n d false m < 60 * f)
    (hX : ∀ M K, num n d false fr = 60 * f * M + K → 0 ≤ K → K < 60 * f → X = labT false (M / 60) (M % 60) (K / f) (K % f) (wide f)) (w : World)
    (m1 : ∀ w, Calls Tryd.prog 25 #[rate n d false] w fun e w' => e = .returned (.int .i64 0) ∧ Below w.heap.size w w')
    (m2 : ∀ w, Calls Tryd.prog 49 #[rate n d false] w fun e w' => e = .returned (.int .i64 l) ∧ Below w.heap.size w w')
    (m3 : ∀ w, Calls Tryd.prog 51 #[rate n d false] w fun e w' => e = .returned (.int .i64 f) ∧ Below w.heap.size w w')
    (m4 : ∀ w, Calls Tryd.prog 52 #[rate n d false] w fun e w' => e = .returned (.int .i64 D) ∧ Below w.heap.size w w')
    (m5 : ∀ (m : Int) w, 0 ≤ m → Calls Tryd.prog 53 #[rate n d false, .int .i64 m] w fun e w' => e = .returned (.int .i64 (outS n d false m)) ∧ Below w.heap.size w w') :
    Calls Tryd.prog 20 #[rate n d false, .int .i64 fr] w fun e w' => e = .returned (.tuple #[.string (bs X), .int .i64 0]) ∧ Below w.heap.size w w' := by
  have HF := Lib.hid hf
  have HS := Lib.hid hs
  have HX := Lib.hid hX
  have HQ := Lib.hid hq
  have HO := Lib.hid ho
  have T0 : ¬ T = 0 := by omega
  have T1 : 0 < T := by omega
  subst hr
  subst ht'
  have M1 := Lib.hid m1
  have M2 := Lib.hid m2
  have M3 := Lib.hid m3
  have M4 := Lib.hid m4
  have M5 := Lib.hid m5
  clear m1 m2 m3 m4 m5 hf hs hX hq ho
  go_enter Tryd.func20, Tryd.ntmps20
  go_wp2_with fail
  with_reducible refine (M1.out _).mono ?_
  rintro e w1 ⟨rfl, hb1⟩
  have h_A : w1.heap[w.heap.size]? = some (.cells #[.int .i64 n, .int .i64 d, .bool false] 24 (0, 0)) := by
    refine Hand.kb hb1 ?_; simp (disch := first | omega | (simp only [Hand.sa, Hand.ss, Hand.sd, Hand.sn]; first | done | omega)) only [Hand.q2, Hand.q1, Hand.q5, Hand.q6, Hand.q4, Hand.q3] <;> rfl
  have hB' : Below w.heap.size w w1 := Hand.stepB hb1 (by repeat (with_reducible first | apply Below.refl _ _ | apply Below.drew | apply pw_below_drewN | (apply Below.setCell; rotate_left; (dsimp only; omega)) | (apply Below.alloc; rotate_left; (first | omega | (simp only [Hand.sa, Hand.ss, Hand.sd, Hand.sn]; omega))))) (Nat.le_refl _)
  clear hb1
  have g_A := h_A
  have hB := hB'
  clear hB' h_A
  obtain ⟨z_A, z1_A, z2_A, y0_A, y1_A⟩ := Hand.hz g_A
  obtain ⟨c_A_0, f_A_0, c_A_1, f_A_1, c_A_2, f_A_2⟩ := Hand.hc3 g_A
  have zw : w.heap.size ≤ w1.heap.size := hB.size
  have HG := Lib.hid (And.intro g_A (hB))
  clear g_A hB
  go_wp2_with fail
  with_reducible refine (M2.out _).mono ?_
  rintro e w2 ⟨rfl, hb2⟩
  obtain ⟨g_A, hB⟩ := HG.out
  have h_A : w2.heap[w.heap.size]? = some (.cells #[.int .i64 n, .int .i64 d, .bool false] 24 (0, 0)) := by
    refine Hand.kb hb2 ?_; first | with_reducible exact g_A | (simp (disch := first | omega | (simp only [Hand.sa, Hand.ss, Hand.sd, Hand.sn]; first | done | omega)) only [Hand.q2, Hand.q1, Hand.q5, Hand.q6, Hand.q4, Hand.q3, g_A] <;> rfl)
  have hB' : Below w.heap.size w w2 := Hand.stepB hb2 (by repeat (with_reducible first | apply hB | apply Below.drew | apply pw_below_drewN | (apply Below.setCell; rotate_left; (dsimp only; omega)) | (apply Below.alloc; rotate_left; (first | omega | (simp only [Hand.sa, Hand.ss, Hand.sd, Hand.sn]; omega))))) (Nat.le_refl _)
  clear HG hB g_A zw z_A z1_A z2_A y0_A y1_A c_A_0 f_A_0 c_A_1 f_A_1 c_A_2 f_A_2
  clear hb2
  have g_A := h_A
  have hB := hB'
  clear hB' h_A
  obtain ⟨z_A, z1_A, z2_A, y0_A, y1_A⟩ := Hand.hz g_A
  obtain ⟨c_A_0, f_A_0, c_A_1, f_A_1, c_A_2, f_A_2⟩ := Hand.hc3 g_A
  have zw : w.heap.size ≤ w2.heap.size := hB.size
  have HG := Lib.hid (And.intro g_A (hB))
  clear g_A hB
  go_wp2_with fail
  with_reducible refine (M3.out _).mono ?_
  rintro e w3 ⟨rfl, hb3⟩
  obtain ⟨g_A, hB⟩ := HG.out
  have h_A : w3.heap[w.heap.size]? = some (.cells #[.int .i64 n, .int .i64 d, .bool false] 24 (0, 0)) := by
    refine Hand.kb hb3 ?_; first | with_reducible exact g_A | (simp (disch := first | omega | (simp only [Hand.sa, Hand.ss, Hand.sd, Hand.sn]; first | done | omega)) only [Hand.q2, Hand.q1, Hand.q5, Hand.q6, Hand.q4, Hand.q3, g_A] <;> rfl)
  have hB' : Below w.heap.size w w3 := Hand.stepB hb3 (by repeat (with_reducible first | apply hB | apply Below.drew | apply pw_below_drewN | (apply Below.setCell; rotate_left; (dsimp only; omega)) | (apply Below.alloc; rotate_left; (first | omega | (simp only [Hand.sa, Hand.ss, Hand.sd, Hand.sn]; omega))))) (Nat.le_refl _)
  clear HG hB g_A zw z_A z1_A z2_A y0_A y1_A c_A_0 f_A_0 c_A_1 f_A_1 c_A_2 f_A_2
  clear hb3
  have g_A := h_A
  have hB := hB'
  clear hB' h_A
  obtain ⟨z_A, z1_A, z2_A, y0_A, y1_A⟩ := Hand.hz g_A
  obtain ⟨c_A_0, f_A_0, c_A_1, f_A_1, c_A_2, f_A_2⟩ := Hand.hc3 g_A
  have zw : w.heap.size ≤ w3.heap.size := hB.size
  have HG := Lib.hid (And.intro g_A (hB))
  clear g_A hB
  go_wp2_with fail
  with_reducible refine (M4.out _).mono ?_
  rintro e w4 ⟨rfl, hb4⟩
  obtain ⟨g_A, hB⟩ := HG.out
  have h_A : w4.heap[w.heap.size]? = some (.cells #[.int .i64 n, .int .i64 d, .bool false] 24 (0, 0)) := by
    refine Hand.kb hb4 ?_; first | with_reducible exact g_A | (simp (disch := first | omega | (simp only [Hand.sa, Hand.ss, Hand.sd, Hand.sn]; first | done | omega)) only [Hand.q2, Hand.q1, Hand.q5, Hand.q6, Hand.q4, Hand.q3, g_A] <;> rfl)
  have hB' : Below w.heap.size w w4 := Hand.stepB hb4 (by repeat (with_reducible first | apply hB | apply Below.drew | apply pw_below_drewN | (apply Below.setCell; rotate_left; (dsimp only; omega)) | (apply Below.alloc; rotate_left; (first | omega | (simp only [Hand.sa, Hand.ss, Hand.sd, Hand.sn]; omega))))) (Nat.le_refl _)
  clear HG hB g_A zw z_A z1_A z2_A y0_A y1_A c_A_0 f_A_0 c_A_1 f_A_1 c_A_2 f_A_2
  clear hb4
  have g_A := h_A
  have hB := hB'
  clear hB' h_A
  obtain ⟨z_A, z1_A, z2_A, y0_A, y1_A⟩ := Hand.hz g_A
  obtain ⟨c_A_0, f_A_0, c_A_1, f_A_1, c_A_2, f_A_2⟩ := Hand.hc3 g_A
  have zw : w.heap.size ≤ w4.heap.size := hB.size
  have HG := Lib.hid (And.intro g_A (hB))
  clear g_A hB
  go_wp2_with fail
  with_reducible refine (M4.out _).mono ?_
  rintro e w5 ⟨rfl, hb5⟩
  obtain ⟨g_A, hB⟩ := HG.out
  have h_A : w5.heap[w.heap.size]? = some (.cells #[.int .i64 n, .int .i64 d, .bool false] 24 (0, 0)) := by
    refine Hand.kb hb5 ?_; first | with_reducible exact g_A | (simp (disch := first | omega | (simp only [Hand.sa, Hand.ss, Hand.sd, Hand.sn]; first | done | omega)) only [Hand.q2, Hand.q1, Hand.q5, Hand.q6, Hand.q4, Hand.q3, g_A] <;> rfl)
  have hB' : Below w.heap.size w w5 := Hand.stepB hb5 (by repeat (with_reducible first | apply hB | apply Below.drew | apply pw_below_drewN | (apply Below.setCell; rotate_left; (dsimp only; omega)) | (apply Below.alloc; rotate_left; (first | omega | (simp only [Hand.sa, Hand.ss, Hand.sd, Hand.sn]; omega))))) (Nat.le_refl _)
  clear HG hB g_A zw z_A z1_A z2_A y0_A y1_A c_A_0 f_A_0 c_A_1 f_A_1 c_A_2 f_A_2
  clear hb5
  have g_A := h_A
  have hB := hB'
  clear hB' h_A
  obtain ⟨z_A, z1_A, z2_A, y0_A, y1_A⟩ := Hand.hz g_A
  obtain ⟨c_A_0, f_A_0, c_A_1, f_A_1, c_A_2, f_A_2⟩ := Hand.hc3 g_A
  have zw : w.heap.size ≤ w5.heap.size := hB.size
  have HG := Lib.hid (And.intro g_A (hB))
  clear g_A hB
  go_wp2
  have G5 := Lib.hid HG.out
  clear HG zw z_A z1_A z2_A y0_A y1_A c_A_0 f_A_0 c_A_1 f_A_1 c_A_2 f_A_2
  go_loopw [1, 7] (fun x y wr => loopL w wr n d false q (fr % T) x y) (fun x _ _ => (intOf x).toNat)
  case atStart => exact ⟨0, fr % T, rfl, rfl, ⟨by decide, by show (0 : Int) + fr % T = fr % T; omega, r00⟩, by omega, G5.out.1, G5.out.2⟩
  case round =>
    obtain ⟨m, r, rfl, rfl, q1, hr1, g_A, hB⟩ := hrel
    have r0' := q1.2.2
    have m9' := q1.1
    have o1 := HO.out (m : Int)
    have o2 := HQ.out m
    obtain ⟨om, hom⟩ : ∃ om, outS n d false (m : Int) = om := ⟨_, rfl⟩
    rw [hom] at o1 o2
    have HQM := Lib.hid o2
    have HOM := Lib.hid hom
    have Q1 := Lib.hid q1
    clear q1 o2 hom
    obtain ⟨z_A, z1_A, z2_A, y0_A, y1_A⟩ := Hand.hz g_A
    obtain ⟨c_A_0, f_A_0, c_A_1, f_A_1, c_A_2, f_A_2⟩ := Hand.hc3 g_A
    have zw : w.heap.size ≤ wr.heap.size := hB.size
    have HG := Lib.hid (And.intro g_A (hB))
    clear g_A hB
    go_wp2_with fail
    with_reducible refine (M5.out _ _ (by omega)).mono ?_
    rintro e w6 ⟨rfl, hb6⟩
    rw [HOM.out]
    obtain ⟨g_A, hB⟩ := HG.out
    have h_A : w6.heap[w.heap.size]? = some (.cells #[.int .i64 n, .int .i64 d, .bool false] 24 (0, 0)) := by
      refine Hand.kb hb6 ?_; first | with_reducible exact g_A | (simp (disch := first | omega | (simp only [Hand.sa, Hand.ss, Hand.sd, Hand.sn]; first | done | omega)) only [Hand.q2, Hand.q1, Hand.q5, Hand.q6, Hand.q4, Hand.q3, g_A] <;> rfl)
    have hB' : Below w.heap.size w w6 := Hand.stepB hb6 (by repeat (with_reducible first | apply hB | apply Below.drew | apply pw_below_drewN | (apply Below.setCell; rotate_left; (dsimp only; omega)) | (apply Below.alloc; rotate_left; (first | omega | (simp only [Hand.sa, Hand.ss, Hand.sd, Hand.sn]; omega))))) (Nat.le_refl _)
    clear HG hB g_A zw z_A z1_A z2_A y0_A y1_A c_A_0 f_A_0 c_A_1 f_A_1 c_A_2 f_A_2
    clear hb6
    have g_A := h_A
    have hB := hB'
    clear hB' h_A
    obtain ⟨z_A, z1_A, z2_A, y0_A, y1_A⟩ := Hand.hz g_A
    obtain ⟨c_A_0, f_A_0, c_A_1, f_A_1, c_A_2, f_A_2⟩ := Hand.hc3 g_A
    have zw : w.heap.size ≤ w6.heap.size := hB.size
    have HG := Lib.hid (And.intro g_A (hB))
    clear g_A hB
    by_cases hge : 60 * f - om ≤ r
    · go_wp2_with fail
      with_reducible refine (M5.out _ _ (by omega)).mono ?_
      rintro e w7 ⟨rfl, hb7⟩
      rw [HOM.out]
      obtain ⟨g_A, hB⟩ := HG.out
      have h_A : w7.heap[w.heap.size]? = some (.cells #[.int .i64 n, .int .i64 d, .bool false] 24 (0, 0)) := by
        refine Hand.kb hb7 ?_; first | with_reducible exact g_A | (simp (disch := first | omega | (simp only [Hand.sa, Hand.ss, Hand.sd, Hand.sn]; first | done | omega)) only [Hand.q2, Hand.q1, Hand.q5, Hand.q6, Hand.q4, Hand.q3, g_A] <;> rfl)
      have hB' : Below w.heap.size w w7 := Hand.stepB hb7 (by repeat (with_reducible first | apply hB | apply Below.drew | apply pw_below_drewN | (apply Below.setCell; rotate_left; (dsimp only; omega)) | (apply Below.alloc; rotate_left; (first | omega | (simp only [Hand.sa, Hand.ss, Hand.sd, Hand.sn]; omega))))) (Nat.le_refl _)
      clear HG hB g_A zw z_A z1_A z2_A y0_A y1_A c_A_0 f_A_0 c_A_1 f_A_1 c_A_2 f_A_2
      clear hb7
      have g_A := h_A
      have hB := hB'
      clear hB' h_A
      obtain ⟨z_A, z1_A, z2_A, y0_A, y1_A⟩ := Hand.hz g_A
      obtain ⟨c_A_0, f_A_0, c_A_1, f_A_1, c_A_2, f_A_2⟩ := Hand.hc3 g_A
      have zw : w.heap.size ≤ w7.heap.size := hB.size
      have HG := Lib.hid (And.intro g_A (hB))
      clear g_A hB
      go_wp2
      obtain ⟨g_A, hB⟩ := HG.out
      have KEY : loopL w w7 n d false q (fr % T) (.int .i64 (r - 60 * f + om)) (.int .i64 ((m : Int) + 1)) := ⟨m + 1, r - 60 * f + om, rfl, by first | rfl | go_num, by have := HS.out m r Q1.out (by rw [HQM.out]; exact hge); rw [HQM.out] at this; rw [show r - 60 * f + om = r - (60 * f - om) by omega]; exact this, by omega, g_A, hB⟩
      go_roundw
      case rel => first | exact KEY | ((repeat apply Exists.intro); exact ⟨KEY, rfl⟩)
      case measure => simp [intOf]; omega
    · have hge : r < 60 * f - om := by omega
      obtain ⟨M, hM⟩ : ∃ M, (m : Int) + 10 * (fr / T) = M := ⟨_, rfl⟩
      obtain ⟨K, hK⟩ : ∃ K, r + om = K := ⟨_, rfl⟩
      obtain ⟨e1, e2, e3⟩ := HF.out m r Q1.out (by rw [HQM.out]; exact hge)
      have M0 : 0 ≤ M := by omega
      have M1' : M ≤ 900000000 := by omega
      rw [HOM.out] at e1 e2 e3
      rw [hM, hK] at e1
      rw [hK] at e2 e3
      have K1 : K ≤ 100000000 := by omega
      have z0 : 0 ≤ K / f := Int.ediv_nonneg e2 (by omega)
      have z1 : K / f ≤ K := Int.ediv_le_self _ e2
      have z2 : 0 ≤ K % f := Int.emod_nonneg _ (by omega)
      have z3 : K % f < f := Int.emod_lt_of_pos _ (by omega)
      obtain ⟨S1, hS1⟩ : ∃ S, bs (digL (M / 60) 2) = S := ⟨_, rfl⟩
      obtain ⟨S2, hS2⟩ : ∃ S, bs (digL (M % 60) 2) = S := ⟨_, rfl⟩
      obtain ⟨S3, hS3⟩ : ∃ S, bs (digL (K / f) 2) = S := ⟨_, rfl⟩
      obtain ⟨S4, hS4⟩ : ∃ S, bs (digL (K % f) (wide f)) = S := ⟨_, rfl⟩
      have m6 := rdigits2 (M / 60) (by omega) (by omega)
      have m7 := rdigits2 (M % 60) (by omega) (by omega)
      have m8 := rdigits2 (K / f) z0 (by omega)
      have m9 := rdigits_any (K % f) (wide f) (wide_one f) (wide_le f) z2 (by omega)
      have m10 := rwide_any f
      rw [hS1] at m6
      rw [hS2] at m7
      rw [hS3] at m8
      rw [hS4] at m9
      have q1 : S1.size ≤ 21 := by rw [← hS1]; exact digL_sz (by omega) (by omega) (by decide)
      have q2 : S2.size ≤ 21 := by rw [← hS2]; exact digL_sz (by omega) (by omega) (by decide)
      have q3 : S3.size ≤ 21 := by rw [← hS3]; exact digL_sz (by omega) (by omega) (by decide)
      have q4 : S4.size ≤ 21 := by rw [← hS4]; exact digL_sz (by omega) (by omega) (wide_le f)
      have hR : bs X = S1 ++ (⟨#[58]⟩ : ByteArray) ++ S2 ++ (⟨#[58]⟩ : ByteArray) ++ S3 ++ (⟨#[58]⟩ : ByteArray) ++ S4 := by
        rw [HX.out M K e1 e2 e3, ← hS1, ← hS2, ← hS3, ← hS4]; unfold labT; rw [show (⟨#[58]⟩ : ByteArray) = bs [58] from rfl]; simp only [if_true, Bool.false_eq_true, if_false, bs_cat, List.append_assoc, List.cons_append, List.nil_append]
      obtain ⟨wd, hwd⟩ : ∃ wd : Int, (wide f : Int) = wd := ⟨_, rfl⟩
      rw [hwd] at m9 m10
      obtain ⟨a1, ha1⟩ : ∃ a, M / 60 = a := ⟨_, rfl⟩
      obtain ⟨a2, ha2⟩ : ∃ a, M % 60 = a := ⟨_, rfl⟩
      obtain ⟨a3, ha3⟩ : ∃ a, K / f = a := ⟨_, rfl⟩
      obtain ⟨a4, ha4⟩ : ∃ a, K % f = a := ⟨_, rfl⟩
      rw [ha1] at m6
      rw [ha2] at m7
      rw [ha3] at m8
      rw [ha4] at m9
      have f1' : IntKind.i64.wrap (M.tdiv 60) = a1 := by rw [Int.tdiv_eq_ediv_of_nonneg M0, ha1, IntKind.wrap_i64]; omega
      have f2' : M.tmod 60 = a2 := by rw [Int.tmod_eq_emod_of_nonneg M0, ha2]
      have f3' : IntKind.i64.wrap (K.tdiv f) = a3 := by rw [Int.tdiv_eq_ediv_of_nonneg e2, ha3, IntKind.wrap_i64]; omega
      have f4' : K.tmod f = a4 := by rw [Int.tmod_eq_emod_of_nonneg e2, ha4]
      have F1 := Lib.hid f1'
      have F2 := Lib.hid f2'
      have F3 := Lib.hid f3'
      have F4 := Lib.hid f4'
      have M6 := Lib.hid m6
      have M7 := Lib.hid m7
      have M8 := Lib.hid m8
      have M9 := Lib.hid m9
      have M10 := Lib.hid m10
      have HR := Lib.hid hR
      clear m6 m7 m8 m9 m10 hR f1' f2' f3' f4' hS1 hS2 hS3 hS4 ha1 ha2 ha3 ha4 hwd e1 z0 z1 z2 z3
      go_wp2_with fail
      with_reducible refine (M5.out _ _ (by omega)).mono ?_
      rintro e w8 ⟨rfl, hb8⟩
      rw [HOM.out]
      obtain ⟨g_A, hB⟩ := HG.out
      have h_A : w8.heap[w.heap.size]? = some (.cells #[.int .i64 n, .int .i64 d, .bool false] 24 (0, 0)) := by
        refine Hand.kb hb8 ?_; first | with_reducible exact g_A | (simp (disch := first | omega | (simp only [Hand.sa, Hand.ss, Hand.sd, Hand.sn]; first | done | omega)) only [Hand.q2, Hand.q1, Hand.q5, Hand.q6, Hand.q4, Hand.q3, g_A] <;> rfl)
      have hB' : Below w.heap.size w w8 := Hand.stepB hb8 (by repeat (with_reducible first | apply hB | apply Below.drew | apply pw_below_drewN | (apply Below.setCell; rotate_left; (dsimp only; omega)) | (apply Below.alloc; rotate_left; (first | omega | (simp only [Hand.sa, Hand.ss, Hand.sd, Hand.sn]; omega))))) (Nat.le_refl _)
      clear HG hB g_A zw z_A z1_A z2_A y0_A y1_A c_A_0 f_A_0 c_A_1 f_A_1 c_A_2 f_A_2
      clear hb8
      have g_A := h_A
      have hB := hB'
      clear hB' h_A
      obtain ⟨z_A, z1_A, z2_A, y0_A, y1_A⟩ := Hand.hz g_A
      obtain ⟨c_A_0, f_A_0, c_A_1, f_A_1, c_A_2, f_A_2⟩ := Hand.hc3 g_A
      have zw : w.heap.size ≤ w8.heap.size := hB.size
      have HG := Lib.hid (And.intro g_A (hB))
      clear g_A hB
      go_wp2
      have e_1 := F1.out
      have e_2 := F2.out
      have e_3 := F3.out
      have e_4 := F4.out
      have hf2 : ¬ f = 0 := by omega
      have p0 : (9223372036854775807 < S1.size + 1) = False := eq_false (by omega)
      have p1 : (9223372036854775807 < S1.size + 1 + S2.size) = False := eq_false (by omega)
      have p2 : (9223372036854775807 < S1.size + 1 + S2.size + 1) = False := eq_false (by omega)
      have p3 : (9223372036854775807 < S1.size + 1 + S2.size + 1 + S3.size) = False := eq_false (by omega)
      have p4 : (9223372036854775807 < S1.size + 1 + S2.size + 1 + S3.size + 1) = False := eq_false (by omega)
      have p5 : (9223372036854775807 < S1.size + 1 + S2.size + 1 + S3.size + 1 + S4.size) = False := eq_false (by omega)
      have HBW := Lib.hid (HG.out.2)
      have HK := Lib.hid (And.intro c_A_0 (And.intro c_A_1 (c_A_2)))
      have BD : Below w8.heap.size w8 w8.drew := Below.drew (Below.refl _ _)
      have BR : Below w8.heap.size w8 w8 := Below.refl _ _
      go_region_held3 (fun w_ => Below w.heap.size w w_ ∧ w_.cell? ⟨w.heap.size, 0, none⟩ = some (.int .i64 n) ∧ w_.cell? ⟨w.heap.size, 1, none⟩ = some (.int .i64 d) ∧ w_.cell? ⟨w.heap.size, 2, none⟩ = some (.bool false)) (first | with_reducible (refine ⟨?_, (Below.cell BR (p := ⟨w.heap.size, 0, none⟩) z_A).trans (HK.out.1), (Below.cell BR (p := ⟨w.heap.size, 1, none⟩) z_A).trans (HK.out.2.1), (Below.cell BR (p := ⟨w.heap.size, 2, none⟩) z_A).trans (HK.out.2.2)⟩; apply (HBW.out.trans (Below.mono BR zw))) | with_reducible (refine ⟨?_, (Below.cell BD (p := ⟨w.heap.size, 0, none⟩) z_A).trans (HK.out.1), (Below.cell BD (p := ⟨w.heap.size, 1, none⟩) z_A).trans (HK.out.2.1), (Below.cell BD (p := ⟨w.heap.size, 2, none⟩) z_A).trans (HK.out.2.2)⟩; apply (HBW.out.trans (Below.mono BD zw))) | with_reducible (refine ⟨?_, (Below.cell BB (p := ⟨w.heap.size, 0, none⟩) z_A).trans (HK.out.1), (Below.cell BB (p := ⟨w.heap.size, 1, none⟩) z_A).trans (HK.out.2.1), (Below.cell BB (p := ⟨w.heap.size, 2, none⟩) z_A).trans (HK.out.2.2)⟩; apply (HBW.out.trans (Below.mono BB zw))) | (refine ⟨?_, ?_, ?_, ?_⟩; (focus (repeat (with_reducible first | apply (HBW.out.trans (Below.mono BB zw)) | apply Below.drew | (apply Below.setCell; rotate_left; (dsimp only; omega)) | (apply Below.alloc; rotate_left; (first | omega | (simp only [Hand.sa, Hand.ss, Hand.sd, Hand.sn]; omega)))))); (repeat (with_reducible first | exact (Below.cell BB (p := ⟨w.heap.size, 0, none⟩) z_A).trans (HK.out.1) | refine Hand.cell_alloc ?_ | refine Hand.cell_drew ?_ | refine Hand.cell_far (by omega) ?_)); (repeat (with_reducible first | exact (Below.cell BB (p := ⟨w.heap.size, 1, none⟩) z_A).trans (HK.out.2.1) | refine Hand.cell_alloc ?_ | refine Hand.cell_drew ?_ | refine Hand.cell_far (by omega) ?_)); (repeat (with_reducible first | exact (Below.cell BB (p := ⟨w.heap.size, 2, none⟩) z_A).trans (HK.out.2.2) | refine Hand.cell_alloc ?_ | refine Hand.cell_drew ?_ | refine Hand.cell_far (by omega) ?_)))) (first | (go_at_call 54; ((with_reducible refine (M6.out _).mono ?_); rintro e w10 ⟨rfl, hb_⟩; have BB : Below w8.heap.size w8 w10 := Hand.stepB hb_ (by assumption) (Nat.le_refl _); have zB_w10 := Below.size BB; clear hb_)) | (go_at_call 54; ((with_reducible refine (M7.out _).mono ?_); rintro e w11 ⟨rfl, hb_⟩; have BB : Below w8.heap.size w8 w11 := Hand.stepB hb_ (by assumption) (Nat.le_refl _); have zB_w11 := Below.size BB; clear hb_)) | (go_at_call 54; ((with_reducible refine (M8.out _).mono ?_); rintro e w12 ⟨rfl, hb_⟩; have BB : Below w8.heap.size w8 w12 := Hand.stepB hb_ (by assumption) (Nat.le_refl _); have zB_w12 := Below.size BB; clear hb_)) | (go_at_call 55; ((with_reducible refine (M10.out _).mono ?_); rintro e w13 ⟨rfl, hb_⟩; have BB : Below w8.heap.size w8 w13 := Hand.stepB hb_ (by assumption) (Nat.le_refl _); have zB_w13 := Below.size BB; clear hb_)) | (go_at_call 54; ((with_reducible refine (M9.out _).mono ?_); rintro e w14 ⟨rfl, hb_⟩; have BB : Below w8.heap.size w8 w14 := Hand.stepB hb_ (by assumption) (Nat.le_refl _); have zB_w14 := Below.size BB; clear hb_)))
      go_wp2
      go_ret2
      obtain ⟨g_A, hB⟩ := HG.out
      exact ⟨by rw [HR.out]; rfl, hB.trans (Below.mono BB zw)⟩
set_option maxHeartbeats 4000000 in
set_option maxRecDepth 100000 in
theorem rlabel_true (n d fr l f D T tens r0 : Int) (X : List UInt8) (q : Nat → Int) (h : decide (fr < 0) = false) (h2 : decide (l < fr) = false) (fr0 : 0 ≤ fr) (fr1 : fr ≤ 86400000) (f0 : 1 ≤ f) (f1 : f ≤ 240) (D0 : 0 ≤ D) (D1 : D ≤ 4) (hT : 600 * f - 9 * D = T) (ht' : fr / T = tens) (hr : fr % T = r0) (t0 : 0 ≤ tens) (t1 : tens ≤ 86400000) (r00 : 0 ≤ r0) (r01 : r0 < T)
    (hq : ∀ m : Nat, q m = 60 * f - outS n d true m) (ho : ∀ m : Int, 0 ≤ outS n d true m ∧ outS n d true m ≤ 4) (hs : ∀ m r, stepP q r0 m r → q m ≤ r → stepP q r0 (m + 1) (r - q m))
    (hf : ∀ m r, stepP q r0 m r → r < q m → num n d true fr = 60 * f * ((m : Int) + 10 * tens) + (r + outS n d true m) ∧ 0 ≤ r + outS n d true m ∧ r + outS n d true m < 60 * f)
    (hX : ∀ M K, num n d true fr = 60 * f * M + K → 0 ≤ K → K < 60 * f → X = labT true (M / 60) (M % 60) (K / f) (K % f) (wide f)) (w : World)
    (m1 : ∀ w, Calls Tryd.prog 25 #[rate n d true] w fun e w' => e = .returned (.int .i64 0) ∧ Below w.heap.size w w')
    (m2 : ∀ w, Calls Tryd.prog 49 #[rate n d true] w fun e w' => e = .returned (.int .i64 l) ∧ Below w.heap.size w w')
    (m3 : ∀ w, Calls Tryd.prog 51 #[rate n d true] w fun e w' => e = .returned (.int .i64 f) ∧ Below w.heap.size w w')
    (m4 : ∀ w, Calls Tryd.prog 52 #[rate n d true] w fun e w' => e = .returned (.int .i64 D) ∧ Below w.heap.size w w')
    (m5 : ∀ (m : Int) w, 0 ≤ m → Calls Tryd.prog 53 #[rate n d true, .int .i64 m] w fun e w' => e = .returned (.int .i64 (outS n d true m)) ∧ Below w.heap.size w w') :
    Calls Tryd.prog 20 #[rate n d true, .int .i64 fr] w fun e w' => e = .returned (.tuple #[.string (bs X), .int .i64 0]) ∧ Below w.heap.size w w' := by
  have HF := Lib.hid hf
  have HS := Lib.hid hs
  have HX := Lib.hid hX
  have HQ := Lib.hid hq
  have HO := Lib.hid ho
  have T0 : ¬ T = 0 := by omega
  have T1 : 0 < T := by omega
  subst hr
  subst ht'
  have M1 := Lib.hid m1
  have M2 := Lib.hid m2
  have M3 := Lib.hid m3
  have M4 := Lib.hid m4
  have M5 := Lib.hid m5
  clear m1 m2 m3 m4 m5 hf hs hX hq ho
  go_enter Tryd.func20, Tryd.ntmps20
  go_wp2_with fail
  with_reducible refine (M1.out _).mono ?_
  rintro e w1 ⟨rfl, hb1⟩
  have h_A : w1.heap[w.heap.size]? = some (.cells #[.int .i64 n, .int .i64 d, .bool true] 24 (0, 0)) := by
    refine Hand.kb hb1 ?_; simp (disch := first | omega | (simp only [Hand.sa, Hand.ss, Hand.sd, Hand.sn]; first | done | omega)) only [Hand.q2, Hand.q1, Hand.q5, Hand.q6, Hand.q4, Hand.q3] <;> rfl
  have hB' : Below w.heap.size w w1 := Hand.stepB hb1 (by repeat (with_reducible first | apply Below.refl _ _ | apply Below.drew | apply pw_below_drewN | (apply Below.setCell; rotate_left; (dsimp only; omega)) | (apply Below.alloc; rotate_left; (first | omega | (simp only [Hand.sa, Hand.ss, Hand.sd, Hand.sn]; omega))))) (Nat.le_refl _)
  clear hb1
  have g_A := h_A
  have hB := hB'
  clear hB' h_A
  obtain ⟨z_A, z1_A, z2_A, y0_A, y1_A⟩ := Hand.hz g_A
  obtain ⟨c_A_0, f_A_0, c_A_1, f_A_1, c_A_2, f_A_2⟩ := Hand.hc3 g_A
  have zw : w.heap.size ≤ w1.heap.size := hB.size
  have HG := Lib.hid (And.intro g_A (hB))
  clear g_A hB
  go_wp2_with fail
  with_reducible refine (M2.out _).mono ?_
  rintro e w2 ⟨rfl, hb2⟩
  obtain ⟨g_A, hB⟩ := HG.out
  have h_A : w2.heap[w.heap.size]? = some (.cells #[.int .i64 n, .int .i64 d, .bool true] 24 (0, 0)) := by
    refine Hand.kb hb2 ?_; first | with_reducible exact g_A | (simp (disch := first | omega | (simp only [Hand.sa, Hand.ss, Hand.sd, Hand.sn]; first | done | omega)) only [Hand.q2, Hand.q1, Hand.q5, Hand.q6, Hand.q4, Hand.q3, g_A] <;> rfl)
  have hB' : Below w.heap.size w w2 := Hand.stepB hb2 (by repeat (with_reducible first | apply hB | apply Below.drew | apply pw_below_drewN | (apply Below.setCell; rotate_left; (dsimp only; omega)) | (apply Below.alloc; rotate_left; (first | omega | (simp only [Hand.sa, Hand.ss, Hand.sd, Hand.sn]; omega))))) (Nat.le_refl _)
  clear HG hB g_A zw z_A z1_A z2_A y0_A y1_A c_A_0 f_A_0 c_A_1 f_A_1 c_A_2 f_A_2
  clear hb2
  have g_A := h_A
  have hB := hB'
  clear hB' h_A
  obtain ⟨z_A, z1_A, z2_A, y0_A, y1_A⟩ := Hand.hz g_A
  obtain ⟨c_A_0, f_A_0, c_A_1, f_A_1, c_A_2, f_A_2⟩ := Hand.hc3 g_A
  have zw : w.heap.size ≤ w2.heap.size := hB.size
  have HG := Lib.hid (And.intro g_A (hB))
  clear g_A hB
  go_wp2_with fail
  with_reducible refine (M3.out _).mono ?_
  rintro e w3 ⟨rfl, hb3⟩
  obtain ⟨g_A, hB⟩ := HG.out
  have h_A : w3.heap[w.heap.size]? = some (.cells #[.int .i64 n, .int .i64 d, .bool true] 24 (0, 0)) := by
    refine Hand.kb hb3 ?_; first | with_reducible exact g_A | (simp (disch := first | omega | (simp only [Hand.sa, Hand.ss, Hand.sd, Hand.sn]; first | done | omega)) only [Hand.q2, Hand.q1, Hand.q5, Hand.q6, Hand.q4, Hand.q3, g_A] <;> rfl)
  have hB' : Below w.heap.size w w3 := Hand.stepB hb3 (by repeat (with_reducible first | apply hB | apply Below.drew | apply pw_below_drewN | (apply Below.setCell; rotate_left; (dsimp only; omega)) | (apply Below.alloc; rotate_left; (first | omega | (simp only [Hand.sa, Hand.ss, Hand.sd, Hand.sn]; omega))))) (Nat.le_refl _)
  clear HG hB g_A zw z_A z1_A z2_A y0_A y1_A c_A_0 f_A_0 c_A_1 f_A_1 c_A_2 f_A_2
  clear hb3
  have g_A := h_A
  have hB := hB'
  clear hB' h_A
  obtain ⟨z_A, z1_A, z2_A, y0_A, y1_A⟩ := Hand.hz g_A
  obtain ⟨c_A_0, f_A_0, c_A_1, f_A_1, c_A_2, f_A_2⟩ := Hand.hc3 g_A
  have zw : w.heap.size ≤ w3.heap.size := hB.size
  have HG := Lib.hid (And.intro g_A (hB))
  clear g_A hB
  go_wp2_with fail
  with_reducible refine (M4.out _).mono ?_
  rintro e w4 ⟨rfl, hb4⟩
  obtain ⟨g_A, hB⟩ := HG.out
  have h_A : w4.heap[w.heap.size]? = some (.cells #[.int .i64 n, .int .i64 d, .bool true] 24 (0, 0)) := by
    refine Hand.kb hb4 ?_; first | with_reducible exact g_A | (simp (disch := first | omega | (simp only [Hand.sa, Hand.ss, Hand.sd, Hand.sn]; first | done | omega)) only [Hand.q2, Hand.q1, Hand.q5, Hand.q6, Hand.q4, Hand.q3, g_A] <;> rfl)
  have hB' : Below w.heap.size w w4 := Hand.stepB hb4 (by repeat (with_reducible first | apply hB | apply Below.drew | apply pw_below_drewN | (apply Below.setCell; rotate_left; (dsimp only; omega)) | (apply Below.alloc; rotate_left; (first | omega | (simp only [Hand.sa, Hand.ss, Hand.sd, Hand.sn]; omega))))) (Nat.le_refl _)
  clear HG hB g_A zw z_A z1_A z2_A y0_A y1_A c_A_0 f_A_0 c_A_1 f_A_1 c_A_2 f_A_2
  clear hb4
  have g_A := h_A
  have hB := hB'
  clear hB' h_A
  obtain ⟨z_A, z1_A, z2_A, y0_A, y1_A⟩ := Hand.hz g_A
  obtain ⟨c_A_0, f_A_0, c_A_1, f_A_1, c_A_2, f_A_2⟩ := Hand.hc3 g_A
  have zw : w.heap.size ≤ w4.heap.size := hB.size
  have HG := Lib.hid (And.intro g_A (hB))
  clear g_A hB
  go_wp2_with fail
  with_reducible refine (M4.out _).mono ?_
  rintro e w5 ⟨rfl, hb5⟩
  obtain ⟨g_A, hB⟩ := HG.out
  have h_A : w5.heap[w.heap.size]? = some (.cells #[.int .i64 n, .int .i64 d, .bool true] 24 (0, 0)) := by
    refine Hand.kb hb5 ?_; first | with_reducible exact g_A | (simp (disch := first | omega | (simp only [Hand.sa, Hand.ss, Hand.sd, Hand.sn]; first | done | omega)) only [Hand.q2, Hand.q1, Hand.q5, Hand.q6, Hand.q4, Hand.q3, g_A] <;> rfl)
  have hB' : Below w.heap.size w w5 := Hand.stepB hb5 (by repeat (with_reducible first | apply hB | apply Below.drew | apply pw_below_drewN | (apply Below.setCell; rotate_left; (dsimp only; omega)) | (apply Below.alloc; rotate_left; (first | omega | (simp only [Hand.sa, Hand.ss, Hand.sd, Hand.sn]; omega))))) (Nat.le_refl _)
  clear HG hB g_A zw z_A z1_A z2_A y0_A y1_A c_A_0 f_A_0 c_A_1 f_A_1 c_A_2 f_A_2
  clear hb5
  have g_A := h_A
  have hB := hB'
  clear hB' h_A
  obtain ⟨z_A, z1_A, z2_A, y0_A, y1_A⟩ := Hand.hz g_A
  obtain ⟨c_A_0, f_A_0, c_A_1, f_A_1, c_A_2, f_A_2⟩ := Hand.hc3 g_A
  have zw : w.heap.size ≤ w5.heap.size := hB.size
  have HG := Lib.hid (And.intro g_A (hB))
  clear g_A hB
  go_wp2
  have G5 := Lib.hid HG.out
  clear HG zw z_A z1_A z2_A y0_A y1_A c_A_0 f_A_0 c_A_1 f_A_1 c_A_2 f_A_2
  go_loopw [1, 7] (fun x y wr => loopL w wr n d true q (fr % T) x y) (fun x _ _ => (intOf x).toNat)
  case atStart => exact ⟨0, fr % T, rfl, rfl, ⟨by decide, by show (0 : Int) + fr % T = fr % T; omega, r00⟩, by omega, G5.out.1, G5.out.2⟩
  case round =>
    obtain ⟨m, r, rfl, rfl, q1, hr1, g_A, hB⟩ := hrel
    have r0' := q1.2.2
    have m9' := q1.1
    have o1 := HO.out (m : Int)
    have o2 := HQ.out m
    obtain ⟨om, hom⟩ : ∃ om, outS n d true (m : Int) = om := ⟨_, rfl⟩
    rw [hom] at o1 o2
    have HQM := Lib.hid o2
    have HOM := Lib.hid hom
    have Q1 := Lib.hid q1
    clear q1 o2 hom
    obtain ⟨z_A, z1_A, z2_A, y0_A, y1_A⟩ := Hand.hz g_A
    obtain ⟨c_A_0, f_A_0, c_A_1, f_A_1, c_A_2, f_A_2⟩ := Hand.hc3 g_A
    have zw : w.heap.size ≤ wr.heap.size := hB.size
    have HG := Lib.hid (And.intro g_A (hB))
    clear g_A hB
    go_wp2_with fail
    with_reducible refine (M5.out _ _ (by omega)).mono ?_
    rintro e w6 ⟨rfl, hb6⟩
    rw [HOM.out]
    obtain ⟨g_A, hB⟩ := HG.out
    have h_A : w6.heap[w.heap.size]? = some (.cells #[.int .i64 n, .int .i64 d, .bool true] 24 (0, 0)) := by
      refine Hand.kb hb6 ?_; first | with_reducible exact g_A | (simp (disch := first | omega | (simp only [Hand.sa, Hand.ss, Hand.sd, Hand.sn]; first | done | omega)) only [Hand.q2, Hand.q1, Hand.q5, Hand.q6, Hand.q4, Hand.q3, g_A] <;> rfl)
    have hB' : Below w.heap.size w w6 := Hand.stepB hb6 (by repeat (with_reducible first | apply hB | apply Below.drew | apply pw_below_drewN | (apply Below.setCell; rotate_left; (dsimp only; omega)) | (apply Below.alloc; rotate_left; (first | omega | (simp only [Hand.sa, Hand.ss, Hand.sd, Hand.sn]; omega))))) (Nat.le_refl _)
    clear HG hB g_A zw z_A z1_A z2_A y0_A y1_A c_A_0 f_A_0 c_A_1 f_A_1 c_A_2 f_A_2
    clear hb6
    have g_A := h_A
    have hB := hB'
    clear hB' h_A
    obtain ⟨z_A, z1_A, z2_A, y0_A, y1_A⟩ := Hand.hz g_A
    obtain ⟨c_A_0, f_A_0, c_A_1, f_A_1, c_A_2, f_A_2⟩ := Hand.hc3 g_A
    have zw : w.heap.size ≤ w6.heap.size := hB.size
    have HG := Lib.hid (And.intro g_A (hB))
    clear g_A hB
    by_cases hge : 60 * f - om ≤ r
    · go_wp2_with fail
      with_reducible refine (M5.out _ _ (by omega)).mono ?_
      rintro e w7 ⟨rfl, hb7⟩
      rw [HOM.out]
      obtain ⟨g_A, hB⟩ := HG.out
      have h_A : w7.heap[w.heap.size]? = some (.cells #[.int .i64 n, .int .i64 d, .bool true] 24 (0, 0)) := by
        refine Hand.kb hb7 ?_; first | with_reducible exact g_A | (simp (disch := first | omega | (simp only [Hand.sa, Hand.ss, Hand.sd, Hand.sn]; first | done | omega)) only [Hand.q2, Hand.q1, Hand.q5, Hand.q6, Hand.q4, Hand.q3, g_A] <;> rfl)
      have hB' : Below w.heap.size w w7 := Hand.stepB hb7 (by repeat (with_reducible first | apply hB | apply Below.drew | apply pw_below_drewN | (apply Below.setCell; rotate_left; (dsimp only; omega)) | (apply Below.alloc; rotate_left; (first | omega | (simp only [Hand.sa, Hand.ss, Hand.sd, Hand.sn]; omega))))) (Nat.le_refl _)
      clear HG hB g_A zw z_A z1_A z2_A y0_A y1_A c_A_0 f_A_0 c_A_1 f_A_1 c_A_2 f_A_2
      clear hb7
      have g_A := h_A
      have hB := hB'
      clear hB' h_A
      obtain ⟨z_A, z1_A, z2_A, y0_A, y1_A⟩ := Hand.hz g_A
      obtain ⟨c_A_0, f_A_0, c_A_1, f_A_1, c_A_2, f_A_2⟩ := Hand.hc3 g_A
      have zw : w.heap.size ≤ w7.heap.size := hB.size
      have HG := Lib.hid (And.intro g_A (hB))
      clear g_A hB
      go_wp2
      obtain ⟨g_A, hB⟩ := HG.out
      have KEY : loopL w w7 n d true q (fr % T) (.int .i64 (r - 60 * f + om)) (.int .i64 ((m : Int) + 1)) := ⟨m + 1, r - 60 * f + om, rfl, by first | rfl | go_num, by have := HS.out m r Q1.out (by rw [HQM.out]; exact hge); rw [HQM.out] at this; rw [show r - 60 * f + om = r - (60 * f - om) by omega]; exact this, by omega, g_A, hB⟩
      go_roundw
      case rel => first | exact KEY | ((repeat apply Exists.intro); exact ⟨KEY, rfl⟩)
      case measure => simp [intOf]; omega
    · have hge : r < 60 * f - om := by omega
      obtain ⟨M, hM⟩ : ∃ M, (m : Int) + 10 * (fr / T) = M := ⟨_, rfl⟩
      obtain ⟨K, hK⟩ : ∃ K, r + om = K := ⟨_, rfl⟩
      obtain ⟨e1, e2, e3⟩ := HF.out m r Q1.out (by rw [HQM.out]; exact hge)
      have M0 : 0 ≤ M := by omega
      have M1' : M ≤ 900000000 := by omega
      rw [HOM.out] at e1 e2 e3
      rw [hM, hK] at e1
      rw [hK] at e2 e3
      have K1 : K ≤ 100000000 := by omega
      have z0 : 0 ≤ K / f := Int.ediv_nonneg e2 (by omega)
      have z1 : K / f ≤ K := Int.ediv_le_self _ e2
      have z2 : 0 ≤ K % f := Int.emod_nonneg _ (by omega)
      have z3 : K % f < f := Int.emod_lt_of_pos _ (by omega)
      obtain ⟨S1, hS1⟩ : ∃ S, bs (digL (M / 60) 2) = S := ⟨_, rfl⟩
      obtain ⟨S2, hS2⟩ : ∃ S, bs (digL (M % 60) 2) = S := ⟨_, rfl⟩
      obtain ⟨S3, hS3⟩ : ∃ S, bs (digL (K / f) 2) = S := ⟨_, rfl⟩
      obtain ⟨S4, hS4⟩ : ∃ S, bs (digL (K % f) (wide f)) = S := ⟨_, rfl⟩
      have m6 := rdigits2 (M / 60) (by omega) (by omega)
      have m7 := rdigits2 (M % 60) (by omega) (by omega)
      have m8 := rdigits2 (K / f) z0 (by omega)
      have m9 := rdigits_any (K % f) (wide f) (wide_one f) (wide_le f) z2 (by omega)
      have m10 := rwide_any f
      rw [hS1] at m6
      rw [hS2] at m7
      rw [hS3] at m8
      rw [hS4] at m9
      have q1 : S1.size ≤ 21 := by rw [← hS1]; exact digL_sz (by omega) (by omega) (by decide)
      have q2 : S2.size ≤ 21 := by rw [← hS2]; exact digL_sz (by omega) (by omega) (by decide)
      have q3 : S3.size ≤ 21 := by rw [← hS3]; exact digL_sz (by omega) (by omega) (by decide)
      have q4 : S4.size ≤ 21 := by rw [← hS4]; exact digL_sz (by omega) (by omega) (wide_le f)
      have hR : bs X = S1 ++ (⟨#[58]⟩ : ByteArray) ++ S2 ++ (⟨#[58]⟩ : ByteArray) ++ S3 ++ (⟨#[59]⟩ : ByteArray) ++ S4 := by
        rw [HX.out M K e1 e2 e3, ← hS1, ← hS2, ← hS3, ← hS4]; unfold labT; rw [show (⟨#[58]⟩ : ByteArray) = bs [58] from rfl, show (⟨#[59]⟩ : ByteArray) = bs [59] from rfl]; simp only [if_true, Bool.false_eq_true, if_false, bs_cat, List.append_assoc, List.cons_append, List.nil_append]
      obtain ⟨wd, hwd⟩ : ∃ wd : Int, (wide f : Int) = wd := ⟨_, rfl⟩
      rw [hwd] at m9 m10
      obtain ⟨a1, ha1⟩ : ∃ a, M / 60 = a := ⟨_, rfl⟩
      obtain ⟨a2, ha2⟩ : ∃ a, M % 60 = a := ⟨_, rfl⟩
      obtain ⟨a3, ha3⟩ : ∃ a, K / f = a := ⟨_, rfl⟩
      obtain ⟨a4, ha4⟩ : ∃ a, K % f = a := ⟨_, rfl⟩
      rw [ha1] at m6
      rw [ha2] at m7
      rw [ha3] at m8
      rw [ha4] at m9
      have f1' : IntKind.i64.wrap (M.tdiv 60) = a1 := by rw [Int.tdiv_eq_ediv_of_nonneg M0, ha1, IntKind.wrap_i64]; omega
      have f2' : M.tmod 60 = a2 := by rw [Int.tmod_eq_emod_of_nonneg M0, ha2]
      have f3' : IntKind.i64.wrap (K.tdiv f) = a3 := by rw [Int.tdiv_eq_ediv_of_nonneg e2, ha3, IntKind.wrap_i64]; omega
      have f4' : K.tmod f = a4 := by rw [Int.tmod_eq_emod_of_nonneg e2, ha4]
      have F1 := Lib.hid f1'
      have F2 := Lib.hid f2'
      have F3 := Lib.hid f3'
      have F4 := Lib.hid f4'
      have M6 := Lib.hid m6
      have M7 := Lib.hid m7
      have M8 := Lib.hid m8
      have M9 := Lib.hid m9
      have M10 := Lib.hid m10
      have HR := Lib.hid hR
      clear m6 m7 m8 m9 m10 hR f1' f2' f3' f4' hS1 hS2 hS3 hS4 ha1 ha2 ha3 ha4 hwd e1 z0 z1 z2 z3
      go_wp2_with fail
      with_reducible refine (M5.out _ _ (by omega)).mono ?_
      rintro e w8 ⟨rfl, hb8⟩
      rw [HOM.out]
      obtain ⟨g_A, hB⟩ := HG.out
      have h_A : w8.heap[w.heap.size]? = some (.cells #[.int .i64 n, .int .i64 d, .bool true] 24 (0, 0)) := by
        refine Hand.kb hb8 ?_; first | with_reducible exact g_A | (simp (disch := first | omega | (simp only [Hand.sa, Hand.ss, Hand.sd, Hand.sn]; first | done | omega)) only [Hand.q2, Hand.q1, Hand.q5, Hand.q6, Hand.q4, Hand.q3, g_A] <;> rfl)
      have hB' : Below w.heap.size w w8 := Hand.stepB hb8 (by repeat (with_reducible first | apply hB | apply Below.drew | apply pw_below_drewN | (apply Below.setCell; rotate_left; (dsimp only; omega)) | (apply Below.alloc; rotate_left; (first | omega | (simp only [Hand.sa, Hand.ss, Hand.sd, Hand.sn]; omega))))) (Nat.le_refl _)
      clear HG hB g_A zw z_A z1_A z2_A y0_A y1_A c_A_0 f_A_0 c_A_1 f_A_1 c_A_2 f_A_2
      clear hb8
      have g_A := h_A
      have hB := hB'
      clear hB' h_A
      obtain ⟨z_A, z1_A, z2_A, y0_A, y1_A⟩ := Hand.hz g_A
      obtain ⟨c_A_0, f_A_0, c_A_1, f_A_1, c_A_2, f_A_2⟩ := Hand.hc3 g_A
      have zw : w.heap.size ≤ w8.heap.size := hB.size
      have HG := Lib.hid (And.intro g_A (hB))
      clear g_A hB
      go_wp2
      have e_1 := F1.out
      have e_2 := F2.out
      have e_3 := F3.out
      have e_4 := F4.out
      have hf2 : ¬ f = 0 := by omega
      have p0 : (9223372036854775807 < S1.size + 1) = False := eq_false (by omega)
      have p1 : (9223372036854775807 < S1.size + 1 + S2.size) = False := eq_false (by omega)
      have p2 : (9223372036854775807 < S1.size + 1 + S2.size + 1) = False := eq_false (by omega)
      have p3 : (9223372036854775807 < S1.size + 1 + S2.size + 1 + S3.size) = False := eq_false (by omega)
      have p4 : (9223372036854775807 < S1.size + 1 + S2.size + 1 + S3.size + 1) = False := eq_false (by omega)
      have p5 : (9223372036854775807 < S1.size + 1 + S2.size + 1 + S3.size + 1 + S4.size) = False := eq_false (by omega)
      have HBW := Lib.hid (HG.out.2)
      have HK := Lib.hid (And.intro c_A_0 (And.intro c_A_1 (c_A_2)))
      have BD : Below w8.heap.size w8 w8.drew := Below.drew (Below.refl _ _)
      have BR : Below w8.heap.size w8 w8 := Below.refl _ _
      go_region_held3 (fun w_ => Below w.heap.size w w_ ∧ w_.cell? ⟨w.heap.size, 0, none⟩ = some (.int .i64 n) ∧ w_.cell? ⟨w.heap.size, 1, none⟩ = some (.int .i64 d) ∧ w_.cell? ⟨w.heap.size, 2, none⟩ = some (.bool true)) (first | with_reducible (refine ⟨?_, (Below.cell BR (p := ⟨w.heap.size, 0, none⟩) z_A).trans (HK.out.1), (Below.cell BR (p := ⟨w.heap.size, 1, none⟩) z_A).trans (HK.out.2.1), (Below.cell BR (p := ⟨w.heap.size, 2, none⟩) z_A).trans (HK.out.2.2)⟩; apply (HBW.out.trans (Below.mono BR zw))) | with_reducible (refine ⟨?_, (Below.cell BD (p := ⟨w.heap.size, 0, none⟩) z_A).trans (HK.out.1), (Below.cell BD (p := ⟨w.heap.size, 1, none⟩) z_A).trans (HK.out.2.1), (Below.cell BD (p := ⟨w.heap.size, 2, none⟩) z_A).trans (HK.out.2.2)⟩; apply (HBW.out.trans (Below.mono BD zw))) | with_reducible (refine ⟨?_, (Below.cell BB (p := ⟨w.heap.size, 0, none⟩) z_A).trans (HK.out.1), (Below.cell BB (p := ⟨w.heap.size, 1, none⟩) z_A).trans (HK.out.2.1), (Below.cell BB (p := ⟨w.heap.size, 2, none⟩) z_A).trans (HK.out.2.2)⟩; apply (HBW.out.trans (Below.mono BB zw))) | (refine ⟨?_, ?_, ?_, ?_⟩; (focus (repeat (with_reducible first | apply (HBW.out.trans (Below.mono BB zw)) | apply Below.drew | (apply Below.setCell; rotate_left; (dsimp only; omega)) | (apply Below.alloc; rotate_left; (first | omega | (simp only [Hand.sa, Hand.ss, Hand.sd, Hand.sn]; omega)))))); (repeat (with_reducible first | exact (Below.cell BB (p := ⟨w.heap.size, 0, none⟩) z_A).trans (HK.out.1) | refine Hand.cell_alloc ?_ | refine Hand.cell_drew ?_ | refine Hand.cell_far (by omega) ?_)); (repeat (with_reducible first | exact (Below.cell BB (p := ⟨w.heap.size, 1, none⟩) z_A).trans (HK.out.2.1) | refine Hand.cell_alloc ?_ | refine Hand.cell_drew ?_ | refine Hand.cell_far (by omega) ?_)); (repeat (with_reducible first | exact (Below.cell BB (p := ⟨w.heap.size, 2, none⟩) z_A).trans (HK.out.2.2) | refine Hand.cell_alloc ?_ | refine Hand.cell_drew ?_ | refine Hand.cell_far (by omega) ?_)))) (first | (go_at_call 54; ((with_reducible refine (M6.out _).mono ?_); rintro e w10 ⟨rfl, hb_⟩; have BB : Below w8.heap.size w8 w10 := Hand.stepB hb_ (by assumption) (Nat.le_refl _); have zB_w10 := Below.size BB; clear hb_)) | (go_at_call 54; ((with_reducible refine (M7.out _).mono ?_); rintro e w11 ⟨rfl, hb_⟩; have BB : Below w8.heap.size w8 w11 := Hand.stepB hb_ (by assumption) (Nat.le_refl _); have zB_w11 := Below.size BB; clear hb_)) | (go_at_call 54; ((with_reducible refine (M8.out _).mono ?_); rintro e w12 ⟨rfl, hb_⟩; have BB : Below w8.heap.size w8 w12 := Hand.stepB hb_ (by assumption) (Nat.le_refl _); have zB_w12 := Below.size BB; clear hb_)) | (go_at_call 55; ((with_reducible refine (M10.out _).mono ?_); rintro e w13 ⟨rfl, hb_⟩; have BB : Below w8.heap.size w8 w13 := Hand.stepB hb_ (by assumption) (Nat.le_refl _); have zB_w13 := Below.size BB; clear hb_)) | (go_at_call 54; ((with_reducible refine (M9.out _).mono ?_); rintro e w14 ⟨rfl, hb_⟩; have BB : Below w8.heap.size w8 w14 := Hand.stepB hb_ (by assumption) (Nat.le_refl _); have zB_w14 := Below.size BB; clear hb_)))
      go_wp2
      go_ret2
      obtain ⟨g_A, hB⟩ := HG.out
      exact ⟨by rw [HR.out]; rfl, hB.trans (Below.mono BB zw)⟩
end Go.Proofs.YtghiibdhibcbaaaDoor.PA
