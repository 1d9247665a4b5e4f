/- CodeTens: each ten minutes. -/
import Derived.Test.YtghiibdhibcbaaaDoorKn5
import Derived.Test.YtghiibdhibcbaaaDoorLwHlp
import Derived.Test.YtghiibdhibcbaaaDoorRfA
import Derived.OpenShut
namespace Go.Proofs.YtghiibdhibcbaaaDoor.PA
open Go Go.RowKit Go.Proofs.YtghiibdhibcbaaaDoorW.PrintWords Go.Proofs.YtghiibdhibcbaaaDoorW.PrintLast Go.Proofs.YtghiibdhibcbaaaDoorW.PrintMore Go.Proofs.YtghiibdhibcbaaaDoor.CS
attribute [local go_sem high] eqA26
set_option linter.unusedSimpArgs false
set_option linter.unusedVariables false
set_option maxHeartbeats 800000 in
set_option maxRecDepth 100000 in
theorem tens_no (n d t c : Int) (dr : Bool) (hc : (c == 0) = false) (w : World) (ht : TabN w)
    (m0 : ∀ w, TabN w → Calls Tryd.prog 16 #[] w fun e w' => e = .returned (.bool true) ∧ Below w.heap.size w w')
    (m1 : ∀ w, Calls Tryd.prog 25 #[rate n d dr] w fun e w' => e = .returned (.int .i64 c) ∧ Below w.heap.size w w') :
    Calls Tryd.prog 9 #[rate n d dr, .int .i64 t] w fun e w' => e = .returned (.bool true) ∧ Below w.heap.size w w' := by
  have HT0 := Lib.hid ht
  have M0 := Lib.hid m0
  have M1 := Lib.hid m1
  clear m0 m1 ht
  go_enter Tryd.func9, Tryd.ntmps9
  go_wp2_with fail
  with_reducible refine (M0.out _ (tab_below HT0.out (bw (Below.refl _ _)))).mono ?_
  rintro e w1 ⟨rfl, hb1⟩
  have h_A : w1.heap[w.heap.size]? = some (.cells #[.int .i64 n, .int .i64 d, .bool dr] 24 (0, 0)) := by
    refine Hand.kb hb1 ?_; simp (disch := first | omega | (simp only [Hand.sa, Hand.ss, Hand.sd, Hand.sn]; first | done | omega)) only [Hand.q2, Hand.q1, Hand.q5, Hand.q6, Hand.q4, Hand.q3] <;> rfl
  have hB' : Below w.heap.size w w1 := Hand.stepB hb1 (by repeat (with_reducible first | apply Below.refl _ _ | apply Below.drew | apply pw_below_drewN | (apply Below.setCell; rotate_left; (dsimp only; omega)) | (apply Below.alloc; rotate_left; (first | omega | (simp only [Hand.sa, Hand.ss, Hand.sd, Hand.sn]; omega))))) (Nat.le_refl _)
  clear hb1
  have g_A := h_A
  have hB := hB'
  clear hB' h_A
  obtain ⟨z_A, z1_A, z2_A, y0_A, y1_A⟩ := Hand.hz g_A
  obtain ⟨c_A_0, f_A_0, c_A_1, f_A_1, c_A_2, f_A_2⟩ := Hand.hc3 g_A
  have zw : w.heap.size ≤ w1.heap.size := hB.size
  have HG := Lib.hid (And.intro g_A (hB))
  clear g_A hB
  go_wp2_with fail
  with_reducible refine (M1.out _).mono ?_
  rintro e w2 ⟨rfl, hb2⟩
  obtain ⟨g_A, hB⟩ := HG.out
  have h_A : w2.heap[w.heap.size]? = some (.cells #[.int .i64 n, .int .i64 d, .bool dr] 24 (0, 0)) := by
    refine Hand.kb hb2 ?_; first | with_reducible exact g_A | (simp (disch := first | omega | (simp only [Hand.sa, Hand.ss, Hand.sd, Hand.sn]; first | done | omega)) only [Hand.q2, Hand.q1, Hand.q5, Hand.q6, Hand.q4, Hand.q3, g_A] <;> rfl)
  have hB' : Below w.heap.size w w2 := Hand.stepB hb2 (by repeat (with_reducible first | apply hB | apply Below.drew | apply pw_below_drewN | (apply Below.setCell; rotate_left; (dsimp only; omega)) | (apply Below.alloc; rotate_left; (first | omega | (simp only [Hand.sa, Hand.ss, Hand.sd, Hand.sn]; omega))))) (Nat.le_refl _)
  clear HG hB g_A zw z_A z1_A z2_A y0_A y1_A c_A_0 f_A_0 c_A_1 f_A_1 c_A_2 f_A_2
  clear hb2
  have g_A := h_A
  have hB := hB'
  clear hB' h_A
  obtain ⟨z_A, z1_A, z2_A, y0_A, y1_A⟩ := Hand.hz g_A
  obtain ⟨c_A_0, f_A_0, c_A_1, f_A_1, c_A_2, f_A_2⟩ := Hand.hc3 g_A
  have zw : w.heap.size ≤ w2.heap.size := hB.size
  have HG := Lib.hid (And.intro g_A (hB))
  clear g_A hB
  go_wp2
  go_ret
  obtain ⟨g_A, hB⟩ := HG.out
  exact ⟨by first | rfl | (simp; done) | (simp; decide) | (simp; rfl) | (simp [Lib.toList_data]; done), by first | exact hB | exact bw hB⟩
set_option maxHeartbeats 1600000 in
set_option maxRecDepth 100000 in
theorem tens_false (n d t k q p F G N X Y V : Int) (S1 S2 Z : ByteArray) (n1 : 1 ≤ n) (n2 : n ≤ 240000) (d1 : 1 ≤ d) (d2 : d ≤ 1001) (k0 : 0 ≤ k) (k1 : k < 144) (hq : k / 6 = q) (hp : k % 6 * 10 = p) (z1 : S1.size = 2) (z2 : S2.size = 2) (z3 : Z.size ≤ 3) (hF : (n + d - 1) / d = F) (f1 : 1 ≤ F) (f2 : F ≤ 240) (fw : F ≤ 100) (hG : 600 * F = G) (hN : G * k = N) (N0 : 0 ≤ N) (N1 : N ≤ 100000000) (w : World) (ht : TabN w)
    (m0 : ∀ w, TabN w → Calls Tryd.prog 16 #[] w fun e w' => e = .returned (.bool true) ∧ Below w.heap.size w w')
    (m1 : ∀ w, Calls Tryd.prog 25 #[rate n d false] w fun e w' => e = .returned (.int .i64 0) ∧ Below w.heap.size w w')
    (m2 : ∀ w, Calls Tryd.prog 26 #[.int .i64 t, .int .i64 144] w fun e w' => e = .returned (.int .i64 k) ∧ Below w.heap.size w w')
    (m3 : ∀ w, Calls Tryd.prog 27 #[.int .i64 q] w fun e w' => e = .returned (.string S1) ∧ Below w.heap.size w w')
    (m4 : ∀ w, Calls Tryd.prog 27 #[.int .i64 p] w fun e w' => e = .returned (.string S2) ∧ Below w.heap.size w w')
    (m5 : ∀ w, Calls Tryd.prog 29 #[.int .i64 0, .bool false] w fun e w' => e = .returned (.string Z) ∧ Below w.heap.size w w')
    (m6 : ∀ w, TabN w → Calls Tryd.prog 21 #[rate n d false, .string (S1 ++ (⟨#[58]⟩ : ByteArray) ++ S2 ++ (⟨#[58, 48, 48]⟩ : ByteArray) ++ (⟨#[58]⟩ : ByteArray) ++ Z)] w fun e w' => e = .returned (.tuple #[.int .i64 N, .int .i64 0]) ∧ Below w.heap.size w w') :
    Calls Tryd.prog 9 #[rate n d false, .int .i64 t] w fun e w' => e = .returned (.bool true) ∧ Below w.heap.size w w' := by
  have hd2 : ¬ d = 0 := by omega
  have HT0 := Lib.hid ht
  have M0 := Lib.hid m0
  have M1 := Lib.hid m1
  have M2 := Lib.hid m2
  have M3 := Lib.hid m3
  have M4 := Lib.hid m4
  have M5 := Lib.hid m5
  have M6 := Lib.hid m6
  clear m0 m1 m2 m3 m4 m5 m6 ht
  go_enter Tryd.func9, Tryd.ntmps9
  go_wp2_with fail
  with_reducible refine (M0.out _ (tab_below HT0.out (bw (Below.refl _ _)))).mono ?_
  rintro e w1 ⟨rfl, hb1⟩
  have h_A : w1.heap[w.heap.size]? = some (.cells #[.int .i64 n, .int .i64 d, .bool false] 24 (0, 0)) := by
    refine Hand.kb hb1 ?_; simp (disch := first | omega | (simp only [Hand.sa, Hand.ss, Hand.sd, Hand.sn]; first | done | omega)) only [Hand.q2, Hand.q1, Hand.q5, Hand.q6, Hand.q4, Hand.q3] <;> rfl
  have hB' : Below w.heap.size w w1 := Hand.stepB hb1 (by repeat (with_reducible first | apply Below.refl _ _ | apply Below.drew | apply pw_below_drewN | (apply Below.setCell; rotate_left; (dsimp only; omega)) | (apply Below.alloc; rotate_left; (first | omega | (simp only [Hand.sa, Hand.ss, Hand.sd, Hand.sn]; omega))))) (Nat.le_refl _)
  clear hb1
  have g_A := h_A
  have hB := hB'
  clear hB' h_A
  obtain ⟨z_A, z1_A, z2_A, y0_A, y1_A⟩ := Hand.hz g_A
  obtain ⟨c_A_0, f_A_0, c_A_1, f_A_1, c_A_2, f_A_2⟩ := Hand.hc3 g_A
  have zw : w.heap.size ≤ w1.heap.size := hB.size
  have HG := Lib.hid (And.intro g_A (hB))
  clear g_A hB
  go_wp2_with fail
  with_reducible refine (M1.out _).mono ?_
  rintro e w2 ⟨rfl, hb2⟩
  obtain ⟨g_A, hB⟩ := HG.out
  have h_A : w2.heap[w.heap.size]? = some (.cells #[.int .i64 n, .int .i64 d, .bool false] 24 (0, 0)) := by
    refine Hand.kb hb2 ?_; first | with_reducible exact g_A | (simp (disch := first | omega | (simp only [Hand.sa, Hand.ss, Hand.sd, Hand.sn]; first | done | omega)) only [Hand.q2, Hand.q1, Hand.q5, Hand.q6, Hand.q4, Hand.q3, g_A] <;> rfl)
  have hB' : Below w.heap.size w w2 := Hand.stepB hb2 (by repeat (with_reducible first | apply hB | apply Below.drew | apply pw_below_drewN | (apply Below.setCell; rotate_left; (dsimp only; omega)) | (apply Below.alloc; rotate_left; (first | omega | (simp only [Hand.sa, Hand.ss, Hand.sd, Hand.sn]; omega))))) (Nat.le_refl _)
  clear HG hB g_A zw z_A z1_A z2_A y0_A y1_A c_A_0 f_A_0 c_A_1 f_A_1 c_A_2 f_A_2
  clear hb2
  have g_A := h_A
  have hB := hB'
  clear hB' h_A
  obtain ⟨z_A, z1_A, z2_A, y0_A, y1_A⟩ := Hand.hz g_A
  obtain ⟨c_A_0, f_A_0, c_A_1, f_A_1, c_A_2, f_A_2⟩ := Hand.hc3 g_A
  have zw : w.heap.size ≤ w2.heap.size := hB.size
  have HG := Lib.hid (And.intro g_A (hB))
  clear g_A hB
  go_wp2_with fail
  with_reducible refine (M2.out _).mono ?_
  rintro e w3 ⟨rfl, hb3⟩
  obtain ⟨g_A, hB⟩ := HG.out
  have h_A : w3.heap[w.heap.size]? = some (.cells #[.int .i64 n, .int .i64 d, .bool false] 24 (0, 0)) := by
    refine Hand.kb hb3 ?_; first | with_reducible exact g_A | (simp (disch := first | omega | (simp only [Hand.sa, Hand.ss, Hand.sd, Hand.sn]; first | done | omega)) only [Hand.q2, Hand.q1, Hand.q5, Hand.q6, Hand.q4, Hand.q3, g_A] <;> rfl)
  have hB' : Below w.heap.size w w3 := Hand.stepB hb3 (by repeat (with_reducible first | apply hB | apply Below.drew | apply pw_below_drewN | (apply Below.setCell; rotate_left; (dsimp only; omega)) | (apply Below.alloc; rotate_left; (first | omega | (simp only [Hand.sa, Hand.ss, Hand.sd, Hand.sn]; omega))))) (Nat.le_refl _)
  clear HG hB g_A zw z_A z1_A z2_A y0_A y1_A c_A_0 f_A_0 c_A_1 f_A_1 c_A_2 f_A_2
  clear hb3
  have g_A := h_A
  have hB := hB'
  clear hB' h_A
  obtain ⟨z_A, z1_A, z2_A, y0_A, y1_A⟩ := Hand.hz g_A
  obtain ⟨c_A_0, f_A_0, c_A_1, f_A_1, c_A_2, f_A_2⟩ := Hand.hc3 g_A
  have zw : w.heap.size ≤ w3.heap.size := hB.size
  have HG := Lib.hid (And.intro g_A (hB))
  clear g_A hB
  go_wp2
  have HT3 := Lib.hid (show TabN w3 from tab_below HT0.out HG.out.2)
  have e1 : IntKind.i64.wrap (k.tdiv 6) = q := by rw [Int.tdiv_eq_ediv_of_nonneg k0, IntKind.wrap_i64]; omega
  have e3 : IntKind.i64.wrap (k.tmod 6 * 10) = p := by rw [Int.tmod_eq_emod_of_nonneg k0, hp, IntKind.wrap_i64]; omega
  have g1 : (100 < F) = False := eq_false (by omega)
  have p0 : (9223372036854775807 < S1.size + 1) = False := eq_false (by omega)
  have p1 : (9223372036854775807 < S1.size + 1 + S2.size) = False := eq_false (by omega)
  have p2 : (9223372036854775807 < S1.size + 1 + S2.size + 3) = False := eq_false (by omega)
  have p3 : (9223372036854775807 < S1.size + 1 + S2.size + 3 + 1) = False := eq_false (by omega)
  have p4 : (9223372036854775807 < S1.size + 1 + S2.size + 3 + 1 + Z.size) = False := eq_false (by omega)
  have p9 : (9223372036854775807 < 9 + Z.size) = False := eq_false (by omega)
  have HBW := Lib.hid (HG.out.2)
  have HK := Lib.hid (And.intro c_A_0 (And.intro c_A_1 (c_A_2)))
  have BD : Below w3.heap.size w3 w3.drew := Below.drew (Below.refl _ _)
  have BR : Below w3.heap.size w3 w3 := Below.refl _ _
  go_region_held3 (fun w_ => Below w.heap.size w w_ ∧ w_.cell? ⟨w.heap.size, 0, none⟩ = some (.int .i64 n) ∧ w_.cell? ⟨w.heap.size, 1, none⟩ = some (.int .i64 d) ∧ w_.cell? ⟨w.heap.size, 2, none⟩ = some (.bool false)) (first | with_reducible (refine ⟨?_, (Below.cell BR (p := ⟨w.heap.size, 0, none⟩) z_A).trans (HK.out.1), (Below.cell BR (p := ⟨w.heap.size, 1, none⟩) z_A).trans (HK.out.2.1), (Below.cell BR (p := ⟨w.heap.size, 2, none⟩) z_A).trans (HK.out.2.2)⟩; apply (HBW.out.trans (Below.mono BR zw))) | with_reducible (refine ⟨?_, (Below.cell BD (p := ⟨w.heap.size, 0, none⟩) z_A).trans (HK.out.1), (Below.cell BD (p := ⟨w.heap.size, 1, none⟩) z_A).trans (HK.out.2.1), (Below.cell BD (p := ⟨w.heap.size, 2, none⟩) z_A).trans (HK.out.2.2)⟩; apply (HBW.out.trans (Below.mono BD zw))) | with_reducible (refine ⟨?_, (Below.cell BB (p := ⟨w.heap.size, 0, none⟩) z_A).trans (HK.out.1), (Below.cell BB (p := ⟨w.heap.size, 1, none⟩) z_A).trans (HK.out.2.1), (Below.cell BB (p := ⟨w.heap.size, 2, none⟩) z_A).trans (HK.out.2.2)⟩; apply (HBW.out.trans (Below.mono BB zw))) | (refine ⟨?_, ?_, ?_, ?_⟩; (focus (repeat (with_reducible first | apply (HBW.out.trans (Below.mono BB zw)) | apply Below.drew | (apply Below.setCell; rotate_left; (dsimp only; omega)) | (apply Below.alloc; rotate_left; (first | omega | (simp only [Hand.sa, Hand.ss, Hand.sd, Hand.sn]; omega)))))); (repeat (with_reducible first | exact (Below.cell BB (p := ⟨w.heap.size, 0, none⟩) z_A).trans (HK.out.1) | refine Hand.cell_alloc ?_ | refine Hand.cell_drew ?_ | refine Hand.cell_far (by omega) ?_)); (repeat (with_reducible first | exact (Below.cell BB (p := ⟨w.heap.size, 1, none⟩) z_A).trans (HK.out.2.1) | refine Hand.cell_alloc ?_ | refine Hand.cell_drew ?_ | refine Hand.cell_far (by omega) ?_)); (repeat (with_reducible first | exact (Below.cell BB (p := ⟨w.heap.size, 2, none⟩) z_A).trans (HK.out.2.2) | refine Hand.cell_alloc ?_ | refine Hand.cell_drew ?_ | refine Hand.cell_far (by omega) ?_)))) (first | (go_at_call 27; ((with_reducible refine (M3.out _).mono ?_); rintro e w4 ⟨rfl, hb_⟩; have BB : Below w3.heap.size w3 w4 := Hand.stepB hb_ (by assumption) (Nat.le_refl _); have zB_w4 := Below.size BB; clear hb_)) | (go_at_call 27; ((with_reducible refine (M4.out _).mono ?_); rintro e w5 ⟨rfl, hb_⟩; have BB : Below w3.heap.size w3 w5 := Hand.stepB hb_ (by assumption) (Nat.le_refl _); have zB_w5 := Below.size BB; clear hb_)) | (go_at_call 29; ((with_reducible refine (M5.out _).mono ?_); rintro e w6 ⟨rfl, hb_⟩; have BB : Below w3.heap.size w3 w6 := Hand.stepB hb_ (by assumption) (Nat.le_refl _); have zB_w6 := Below.size BB; clear hb_)) | (go_at_call 21; ((with_reducible refine (M6.out _ (tab_below HT3.out (by assumption))).mono ?_); rintro e w7 ⟨rfl, hb_⟩; have BB : Below w3.heap.size w3 w7 := Hand.stepB hb_ (by assumption) (Nat.le_refl _); have zB_w7 := Below.size BB; clear hb_)))
  obtain ⟨g_A, hB⟩ := HG.out
  clear HG
  have g_A' := (Hand.hp_below BB z_A).trans g_A
  have hB' := hB.trans (Below.mono BB zw)
  clear g_A
  clear hB HBW HK BD BR BB zw z_A z1_A z2_A y0_A y1_A
  have g_A := g_A'
  have hB := hB'
  clear hB' g_A'
  obtain ⟨z_A, z1_A, z2_A, y0_A, y1_A⟩ := Hand.hz g_A
  obtain ⟨c_A_0, f_A_0, c_A_1, f_A_1, c_A_2, f_A_2⟩ := Hand.hc3 g_A
  have zw : w.heap.size ≤ w7.heap.size := hB.size
  have HG := Lib.hid (And.intro g_A (hB))
  clear g_A hB
  go_wp2
  go_ret
  obtain ⟨g_A, hB⟩ := HG.out
  exact ⟨by first | rfl | (simp; done) | (simp; decide) | (simp; rfl) | (simp [Lib.toList_data]; done), by first | exact hB | exact bw hB⟩
set_option maxHeartbeats 1600000 in
set_option maxRecDepth 100000 in
theorem tens_false_w (n d t k q p F G N X Y V : Int) (S1 S2 Z : ByteArray) (n1 : 1 ≤ n) (n2 : n ≤ 240000) (d1 : 1 ≤ d) (d2 : d ≤ 1001) (k0 : 0 ≤ k) (k1 : k < 144) (hq : k / 6 = q) (hp : k % 6 * 10 = p) (z1 : S1.size = 2) (z2 : S2.size = 2) (z3 : Z.size ≤ 3) (hF : (n + d - 1) / d = F) (f1 : 1 ≤ F) (f2 : F ≤ 240) (fw : 100 < F) (hG : 600 * F = G) (hN : G * k = N) (N0 : 0 ≤ N) (N1 : N ≤ 100000000) (w : World) (ht : TabN w)
    (m0 : ∀ w, TabN w → Calls Tryd.prog 16 #[] w fun e w' => e = .returned (.bool true) ∧ Below w.heap.size w w')
    (m1 : ∀ w, Calls Tryd.prog 25 #[rate n d false] w fun e w' => e = .returned (.int .i64 0) ∧ Below w.heap.size w w')
    (m2 : ∀ w, Calls Tryd.prog 26 #[.int .i64 t, .int .i64 144] w fun e w' => e = .returned (.int .i64 k) ∧ Below w.heap.size w w')
    (m3 : ∀ w, Calls Tryd.prog 27 #[.int .i64 q] w fun e w' => e = .returned (.string S1) ∧ Below w.heap.size w w')
    (m4 : ∀ w, Calls Tryd.prog 27 #[.int .i64 p] w fun e w' => e = .returned (.string S2) ∧ Below w.heap.size w w')
    (m5 : ∀ w, Calls Tryd.prog 29 #[.int .i64 0, .bool true] w fun e w' => e = .returned (.string Z) ∧ Below w.heap.size w w')
    (m6 : ∀ w, TabN w → Calls Tryd.prog 21 #[rate n d false, .string (S1 ++ (⟨#[58]⟩ : ByteArray) ++ S2 ++ (⟨#[58, 48, 48]⟩ : ByteArray) ++ (⟨#[58]⟩ : ByteArray) ++ Z)] w fun e w' => e = .returned (.tuple #[.int .i64 N, .int .i64 0]) ∧ Below w.heap.size w w') :
    Calls Tryd.prog 9 #[rate n d false, .int .i64 t] w fun e w' => e = .returned (.bool true) ∧ Below w.heap.size w w' := by
  have hd2 : ¬ d = 0 := by omega
  have HT0 := Lib.hid ht
  have M0 := Lib.hid m0
  have M1 := Lib.hid m1
  have M2 := Lib.hid m2
  have M3 := Lib.hid m3
  have M4 := Lib.hid m4
  have M5 := Lib.hid m5
  have M6 := Lib.hid m6
  clear m0 m1 m2 m3 m4 m5 m6 ht
  go_enter Tryd.func9, Tryd.ntmps9
  go_wp2_with fail
  with_reducible refine (M0.out _ (tab_below HT0.out (bw (Below.refl _ _)))).mono ?_
  rintro e w1 ⟨rfl, hb1⟩
  have h_A : w1.heap[w.heap.size]? = some (.cells #[.int .i64 n, .int .i64 d, .bool false] 24 (0, 0)) := by
    refine Hand.kb hb1 ?_; simp (disch := first | omega | (simp only [Hand.sa, Hand.ss, Hand.sd, Hand.sn]; first | done | omega)) only [Hand.q2, Hand.q1, Hand.q5, Hand.q6, Hand.q4, Hand.q3] <;> rfl
  have hB' : Below w.heap.size w w1 := Hand.stepB hb1 (by repeat (with_reducible first | apply Below.refl _ _ | apply Below.drew | apply pw_below_drewN | (apply Below.setCell; rotate_left; (dsimp only; omega)) | (apply Below.alloc; rotate_left; (first | omega | (simp only [Hand.sa, Hand.ss, Hand.sd, Hand.sn]; omega))))) (Nat.le_refl _)
  clear hb1
  have g_A := h_A
  have hB := hB'
  clear hB' h_A
  obtain ⟨z_A, z1_A, z2_A, y0_A, y1_A⟩ := Hand.hz g_A
  obtain ⟨c_A_0, f_A_0, c_A_1, f_A_1, c_A_2, f_A_2⟩ := Hand.hc3 g_A
  have zw : w.heap.size ≤ w1.heap.size := hB.size
  have HG := Lib.hid (And.intro g_A (hB))
  clear g_A hB
  go_wp2_with fail
  with_reducible refine (M1.out _).mono ?_
  rintro e w2 ⟨rfl, hb2⟩
  obtain ⟨g_A, hB⟩ := HG.out
  have h_A : w2.heap[w.heap.size]? = some (.cells #[.int .i64 n, .int .i64 d, .bool false] 24 (0, 0)) := by
    refine Hand.kb hb2 ?_; first | with_reducible exact g_A | (simp (disch := first | omega | (simp only [Hand.sa, Hand.ss, Hand.sd, Hand.sn]; first | done | omega)) only [Hand.q2, Hand.q1, Hand.q5, Hand.q6, Hand.q4, Hand.q3, g_A] <;> rfl)
  have hB' : Below w.heap.size w w2 := Hand.stepB hb2 (by repeat (with_reducible first | apply hB | apply Below.drew | apply pw_below_drewN | (apply Below.setCell; rotate_left; (dsimp only; omega)) | (apply Below.alloc; rotate_left; (first | omega | (simp only [Hand.sa, Hand.ss, Hand.sd, Hand.sn]; omega))))) (Nat.le_refl _)
  clear HG hB g_A zw z_A z1_A z2_A y0_A y1_A c_A_0 f_A_0 c_A_1 f_A_1 c_A_2 f_A_2
  clear hb2
  have g_A := h_A
  have hB := hB'
  clear hB' h_A
  obtain ⟨z_A, z1_A, z2_A, y0_A, y1_A⟩ := Hand.hz g_A
  obtain ⟨c_A_0, f_A_0, c_A_1, f_A_1, c_A_2, f_A_2⟩ := Hand.hc3 g_A
  have zw : w.heap.size ≤ w2.heap.size := hB.size
  have HG := Lib.hid (And.intro g_A (hB))
  clear g_A hB
  go_wp2_with fail
  with_reducible refine (M2.out _).mono ?_
  rintro e w3 ⟨rfl, hb3⟩
  obtain ⟨g_A, hB⟩ := HG.out
  have h_A : w3.heap[w.heap.size]? = some (.cells #[.int .i64 n, .int .i64 d, .bool false] 24 (0, 0)) := by
    refine Hand.kb hb3 ?_; first | with_reducible exact g_A | (simp (disch := first | omega | (simp only [Hand.sa, Hand.ss, Hand.sd, Hand.sn]; first | done | omega)) only [Hand.q2, Hand.q1, Hand.q5, Hand.q6, Hand.q4, Hand.q3, g_A] <;> rfl)
  have hB' : Below w.heap.size w w3 := Hand.stepB hb3 (by repeat (with_reducible first | apply hB | apply Below.drew | apply pw_below_drewN | (apply Below.setCell; rotate_left; (dsimp only; omega)) | (apply Below.alloc; rotate_left; (first | omega | (simp only [Hand.sa, Hand.ss, Hand.sd, Hand.sn]; omega))))) (Nat.le_refl _)
  clear HG hB g_A zw z_A z1_A z2_A y0_A y1_A c_A_0 f_A_0 c_A_1 f_A_1 c_A_2 f_A_2
  clear hb3
  have g_A := h_A
  have hB := hB'
  clear hB' h_A
  obtain ⟨z_A, z1_A, z2_A, y0_A, y1_A⟩ := Hand.hz g_A
  obtain ⟨c_A_0, f_A_0, c_A_1, f_A_1, c_A_2, f_A_2⟩ := Hand.hc3 g_A
  have zw : w.heap.size ≤ w3.heap.size := hB.size
  have HG := Lib.hid (And.intro g_A (hB))
  clear g_A hB
  go_wp2
  have HT3 := Lib.hid (show TabN w3 from tab_below HT0.out HG.out.2)
  have e1 : IntKind.i64.wrap (k.tdiv 6) = q := by rw [Int.tdiv_eq_ediv_of_nonneg k0, IntKind.wrap_i64]; omega
  have e3 : IntKind.i64.wrap (k.tmod 6 * 10) = p := by rw [Int.tmod_eq_emod_of_nonneg k0, hp, IntKind.wrap_i64]; omega
  have g1 : (100 < F) = True := eq_true (by omega)
  have p0 : (9223372036854775807 < S1.size + 1) = False := eq_false (by omega)
  have p1 : (9223372036854775807 < S1.size + 1 + S2.size) = False := eq_false (by omega)
  have p2 : (9223372036854775807 < S1.size + 1 + S2.size + 3) = False := eq_false (by omega)
  have p3 : (9223372036854775807 < S1.size + 1 + S2.size + 3 + 1) = False := eq_false (by omega)
  have p4 : (9223372036854775807 < S1.size + 1 + S2.size + 3 + 1 + Z.size) = False := eq_false (by omega)
  have p9 : (9223372036854775807 < 9 + Z.size) = False := eq_false (by omega)
  have HBW := Lib.hid (HG.out.2)
  have HK := Lib.hid (And.intro c_A_0 (And.intro c_A_1 (c_A_2)))
  have BD : Below w3.heap.size w3 w3.drew := Below.drew (Below.refl _ _)
  have BR : Below w3.heap.size w3 w3 := Below.refl _ _
  go_region_held3 (fun w_ => Below w.heap.size w w_ ∧ w_.cell? ⟨w.heap.size, 0, none⟩ = some (.int .i64 n) ∧ w_.cell? ⟨w.heap.size, 1, none⟩ = some (.int .i64 d) ∧ w_.cell? ⟨w.heap.size, 2, none⟩ = some (.bool false)) (first | with_reducible (refine ⟨?_, (Below.cell BR (p := ⟨w.heap.size, 0, none⟩) z_A).trans (HK.out.1), (Below.cell BR (p := ⟨w.heap.size, 1, none⟩) z_A).trans (HK.out.2.1), (Below.cell BR (p := ⟨w.heap.size, 2, none⟩) z_A).trans (HK.out.2.2)⟩; apply (HBW.out.trans (Below.mono BR zw))) | with_reducible (refine ⟨?_, (Below.cell BD (p := ⟨w.heap.size, 0, none⟩) z_A).trans (HK.out.1), (Below.cell BD (p := ⟨w.heap.size, 1, none⟩) z_A).trans (HK.out.2.1), (Below.cell BD (p := ⟨w.heap.size, 2, none⟩) z_A).trans (HK.out.2.2)⟩; apply (HBW.out.trans (Below.mono BD zw))) | with_reducible (refine ⟨?_, (Below.cell BB (p := ⟨w.heap.size, 0, none⟩) z_A).trans (HK.out.1), (Below.cell BB (p := ⟨w.heap.size, 1, none⟩) z_A).trans (HK.out.2.1), (Below.cell BB (p := ⟨w.heap.size, 2, none⟩) z_A).trans (HK.out.2.2)⟩; apply (HBW.out.trans (Below.mono BB zw))) | (refine ⟨?_, ?_, ?_, ?_⟩; (focus (repeat (with_reducible first | apply (HBW.out.trans (Below.mono BB zw)) | apply Below.drew | (apply Below.setCell; rotate_left; (dsimp only; omega)) | (apply Below.alloc; rotate_left; (first | omega | (simp only [Hand.sa, Hand.ss, Hand.sd, Hand.sn]; omega)))))); (repeat (with_reducible first | exact (Below.cell BB (p := ⟨w.heap.size, 0, none⟩) z_A).trans (HK.out.1) | refine Hand.cell_alloc ?_ | refine Hand.cell_drew ?_ | refine Hand.cell_far (by omega) ?_)); (repeat (with_reducible first | exact (Below.cell BB (p := ⟨w.heap.size, 1, none⟩) z_A).trans (HK.out.2.1) | refine Hand.cell_alloc ?_ | refine Hand.cell_drew ?_ | refine Hand.cell_far (by omega) ?_)); (repeat (with_reducible first | exact (Below.cell BB (p := ⟨w.heap.size, 2, none⟩) z_A).trans (HK.out.2.2) | refine Hand.cell_alloc ?_ | refine Hand.cell_drew ?_ | refine Hand.cell_far (by omega) ?_)))) (first | (go_at_call 27; ((with_reducible refine (M3.out _).mono ?_); rintro e w4 ⟨rfl, hb_⟩; have BB : Below w3.heap.size w3 w4 := Hand.stepB hb_ (by assumption) (Nat.le_refl _); have zB_w4 := Below.size BB; clear hb_)) | (go_at_call 27; ((with_reducible refine (M4.out _).mono ?_); rintro e w5 ⟨rfl, hb_⟩; have BB : Below w3.heap.size w3 w5 := Hand.stepB hb_ (by assumption) (Nat.le_refl _); have zB_w5 := Below.size BB; clear hb_)) | (go_at_call 29; ((with_reducible refine (M5.out _).mono ?_); rintro e w6 ⟨rfl, hb_⟩; have BB : Below w3.heap.size w3 w6 := Hand.stepB hb_ (by assumption) (Nat.le_refl _); have zB_w6 := Below.size BB; clear hb_)) | (go_at_call 21; ((with_reducible refine (M6.out _ (tab_below HT3.out (by assumption))).mono ?_); rintro e w7 ⟨rfl, hb_⟩; have BB : Below w3.heap.size w3 w7 := Hand.stepB hb_ (by assumption) (Nat.le_refl _); have zB_w7 := Below.size BB; clear hb_)))
  obtain ⟨g_A, hB⟩ := HG.out
  clear HG
  have g_A' := (Hand.hp_below BB z_A).trans g_A
  have hB' := hB.trans (Below.mono BB zw)
  clear g_A
  clear hB HBW HK BD BR BB zw z_A z1_A z2_A y0_A y1_A
  have g_A := g_A'
  have hB := hB'
  clear hB' g_A'
  obtain ⟨z_A, z1_A, z2_A, y0_A, y1_A⟩ := Hand.hz g_A
  obtain ⟨c_A_0, f_A_0, c_A_1, f_A_1, c_A_2, f_A_2⟩ := Hand.hc3 g_A
  have zw : w.heap.size ≤ w7.heap.size := hB.size
  have HG := Lib.hid (And.intro g_A (hB))
  clear g_A hB
  go_wp2
  go_ret
  obtain ⟨g_A, hB⟩ := HG.out
  exact ⟨by first | rfl | (simp; done) | (simp; decide) | (simp; rfl) | (simp [Lib.toList_data]; done), by first | exact hB | exact bw hB⟩
set_option maxHeartbeats 1600000 in
set_option maxRecDepth 100000 in
theorem tens_true (n d t k q p F G N X Y V : Int) (S1 S2 Z : ByteArray) (n1 : 1 ≤ n) (n2 : n ≤ 240000) (d1 : 1 ≤ d) (d2 : d ≤ 1001) (k0 : 0 ≤ k) (k1 : k < 144) (hq : k / 6 = q) (hp : k % 6 * 10 = p) (z1 : S1.size = 2) (z2 : S2.size = 2) (z3 : Z.size ≤ 3) (hF : (n + d - 1) / d = F) (f1 : 1 ≤ F) (f2 : F ≤ 240) (fw : F ≤ 100) (hG : 600 * F - 9 * F / 15 = G) (hN : G * k = N) (N0 : 0 ≤ N) (N1 : N ≤ 100000000) (hX : k * 600 * n = X) (hY : N * d = Y) (hV : X - Y = V) (V0 : 0 ≤ V) (V1 : 10 * V < n) (X0 : 0 ≤ X) (X1 : X ≤ 100000000000) (Y0 : 0 ≤ Y) (Y1 : Y ≤ 200000000000) (w : World) (ht : TabN w)
    (m0 : ∀ w, TabN w → Calls Tryd.prog 16 #[] w fun e w' => e = .returned (.bool true) ∧ Below w.heap.size w w')
    (m1 : ∀ w, Calls Tryd.prog 25 #[rate n d true] w fun e w' => e = .returned (.int .i64 0) ∧ Below w.heap.size w w')
    (m2 : ∀ w, Calls Tryd.prog 26 #[.int .i64 t, .int .i64 144] w fun e w' => e = .returned (.int .i64 k) ∧ Below w.heap.size w w')
    (m3 : ∀ w, Calls Tryd.prog 27 #[.int .i64 q] w fun e w' => e = .returned (.string S1) ∧ Below w.heap.size w w')
    (m4 : ∀ w, Calls Tryd.prog 27 #[.int .i64 p] w fun e w' => e = .returned (.string S2) ∧ Below w.heap.size w w')
    (m5 : ∀ w, Calls Tryd.prog 29 #[.int .i64 0, .bool false] w fun e w' => e = .returned (.string Z) ∧ Below w.heap.size w w')
    (m6 : ∀ w, TabN w → Calls Tryd.prog 21 #[rate n d true, .string (S1 ++ (⟨#[58]⟩ : ByteArray) ++ S2 ++ (⟨#[58, 48, 48]⟩ : ByteArray) ++ (⟨#[59]⟩ : ByteArray) ++ Z)] w fun e w' => e = .returned (.tuple #[.int .i64 N, .int .i64 0]) ∧ Below w.heap.size w w') :
    Calls Tryd.prog 9 #[rate n d true, .int .i64 t] w fun e w' => e = .returned (.bool true) ∧ Below w.heap.size w w' := by
  have hd2 : ¬ d = 0 := by omega
  have HT0 := Lib.hid ht
  have M0 := Lib.hid m0
  have M1 := Lib.hid m1
  have M2 := Lib.hid m2
  have M3 := Lib.hid m3
  have M4 := Lib.hid m4
  have M5 := Lib.hid m5
  have M6 := Lib.hid m6
  clear m0 m1 m2 m3 m4 m5 m6 ht
  go_enter Tryd.func9, Tryd.ntmps9
  go_wp2_with fail
  with_reducible refine (M0.out _ (tab_below HT0.out (bw (Below.refl _ _)))).mono ?_
  rintro e w1 ⟨rfl, hb1⟩
  have h_A : w1.heap[w.heap.size]? = some (.cells #[.int .i64 n, .int .i64 d, .bool true] 24 (0, 0)) := by
    refine Hand.kb hb1 ?_; simp (disch := first | omega | (simp only [Hand.sa, Hand.ss, Hand.sd, Hand.sn]; first | done | omega)) only [Hand.q2, Hand.q1, Hand.q5, Hand.q6, Hand.q4, Hand.q3] <;> rfl
  have hB' : Below w.heap.size w w1 := Hand.stepB hb1 (by repeat (with_reducible first | apply Below.refl _ _ | apply Below.drew | apply pw_below_drewN | (apply Below.setCell; rotate_left; (dsimp only; omega)) | (apply Below.alloc; rotate_left; (first | omega | (simp only [Hand.sa, Hand.ss, Hand.sd, Hand.sn]; omega))))) (Nat.le_refl _)
  clear hb1
  have g_A := h_A
  have hB := hB'
  clear hB' h_A
  obtain ⟨z_A, z1_A, z2_A, y0_A, y1_A⟩ := Hand.hz g_A
  obtain ⟨c_A_0, f_A_0, c_A_1, f_A_1, c_A_2, f_A_2⟩ := Hand.hc3 g_A
  have zw : w.heap.size ≤ w1.heap.size := hB.size
  have HG := Lib.hid (And.intro g_A (hB))
  clear g_A hB
  go_wp2_with fail
  with_reducible refine (M1.out _).mono ?_
  rintro e w2 ⟨rfl, hb2⟩
  obtain ⟨g_A, hB⟩ := HG.out
  have h_A : w2.heap[w.heap.size]? = some (.cells #[.int .i64 n, .int .i64 d, .bool true] 24 (0, 0)) := by
    refine Hand.kb hb2 ?_; first | with_reducible exact g_A | (simp (disch := first | omega | (simp only [Hand.sa, Hand.ss, Hand.sd, Hand.sn]; first | done | omega)) only [Hand.q2, Hand.q1, Hand.q5, Hand.q6, Hand.q4, Hand.q3, g_A] <;> rfl)
  have hB' : Below w.heap.size w w2 := Hand.stepB hb2 (by repeat (with_reducible first | apply hB | apply Below.drew | apply pw_below_drewN | (apply Below.setCell; rotate_left; (dsimp only; omega)) | (apply Below.alloc; rotate_left; (first | omega | (simp only [Hand.sa, Hand.ss, Hand.sd, Hand.sn]; omega))))) (Nat.le_refl _)
  clear HG hB g_A zw z_A z1_A z2_A y0_A y1_A c_A_0 f_A_0 c_A_1 f_A_1 c_A_2 f_A_2
  clear hb2
  have g_A := h_A
  have hB := hB'
  clear hB' h_A
  obtain ⟨z_A, z1_A, z2_A, y0_A, y1_A⟩ := Hand.hz g_A
  obtain ⟨c_A_0, f_A_0, c_A_1, f_A_1, c_A_2, f_A_2⟩ := Hand.hc3 g_A
  have zw : w.heap.size ≤ w2.heap.size := hB.size
  have HG := Lib.hid (And.intro g_A (hB))
  clear g_A hB
  go_wp2_with fail
  with_reducible refine (M2.out _).mono ?_
  rintro e w3 ⟨rfl, hb3⟩
  obtain ⟨g_A, hB⟩ := HG.out
  have h_A : w3.heap[w.heap.size]? = some (.cells #[.int .i64 n, .int .i64 d, .bool true] 24 (0, 0)) := by
    refine Hand.kb hb3 ?_; first | with_reducible exact g_A | (simp (disch := first | omega | (simp only [Hand.sa, Hand.ss, Hand.sd, Hand.sn]; first | done | omega)) only [Hand.q2, Hand.q1, Hand.q5, Hand.q6, Hand.q4, Hand.q3, g_A] <;> rfl)
  have hB' : Below w.heap.size w w3 := Hand.stepB hb3 (by repeat (with_reducible first | apply hB | apply Below.drew | apply pw_below_drewN | (apply Below.setCell; rotate_left; (dsimp only; omega)) | (apply Below.alloc; rotate_left; (first | omega | (simp only [Hand.sa, Hand.ss, Hand.sd, Hand.sn]; omega))))) (Nat.le_refl _)
  clear HG hB g_A zw z_A z1_A z2_A y0_A y1_A c_A_0 f_A_0 c_A_1 f_A_1 c_A_2 f_A_2
  clear hb3
  have g_A := h_A
  have hB := hB'
  clear hB' h_A
  obtain ⟨z_A, z1_A, z2_A, y0_A, y1_A⟩ := Hand.hz g_A
  obtain ⟨c_A_0, f_A_0, c_A_1, f_A_1, c_A_2, f_A_2⟩ := Hand.hc3 g_A
  have zw : w.heap.size ≤ w3.heap.size := hB.size
  have HG := Lib.hid (And.intro g_A (hB))
  clear g_A hB
  go_wp2
  have HT3 := Lib.hid (show TabN w3 from tab_below HT0.out HG.out.2)
  have e1 : IntKind.i64.wrap (k.tdiv 6) = q := by rw [Int.tdiv_eq_ediv_of_nonneg k0, IntKind.wrap_i64]; omega
  have e3 : IntKind.i64.wrap (k.tmod 6 * 10) = p := by rw [Int.tmod_eq_emod_of_nonneg k0, hp, IntKind.wrap_i64]; omega
  have g1 : (100 < F) = False := eq_false (by omega)
  have p0 : (9223372036854775807 < S1.size + 1) = False := eq_false (by omega)
  have p1 : (9223372036854775807 < S1.size + 1 + S2.size) = False := eq_false (by omega)
  have p2 : (9223372036854775807 < S1.size + 1 + S2.size + 3) = False := eq_false (by omega)
  have p3 : (9223372036854775807 < S1.size + 1 + S2.size + 3 + 1) = False := eq_false (by omega)
  have p4 : (9223372036854775807 < S1.size + 1 + S2.size + 3 + 1 + Z.size) = False := eq_false (by omega)
  have p9 : (9223372036854775807 < 9 + Z.size) = False := eq_false (by omega)
  have HBW := Lib.hid (HG.out.2)
  have HK := Lib.hid (And.intro c_A_0 (And.intro c_A_1 (c_A_2)))
  have BD : Below w3.heap.size w3 w3.drew := Below.drew (Below.refl _ _)
  have BR : Below w3.heap.size w3 w3 := Below.refl _ _
  go_region_held3 (fun w_ => Below w.heap.size w w_ ∧ w_.cell? ⟨w.heap.size, 0, none⟩ = some (.int .i64 n) ∧ w_.cell? ⟨w.heap.size, 1, none⟩ = some (.int .i64 d) ∧ w_.cell? ⟨w.heap.size, 2, none⟩ = some (.bool true)) (first | with_reducible (refine ⟨?_, (Below.cell BR (p := ⟨w.heap.size, 0, none⟩) z_A).trans (HK.out.1), (Below.cell BR (p := ⟨w.heap.size, 1, none⟩) z_A).trans (HK.out.2.1), (Below.cell BR (p := ⟨w.heap.size, 2, none⟩) z_A).trans (HK.out.2.2)⟩; apply (HBW.out.trans (Below.mono BR zw))) | with_reducible (refine ⟨?_, (Below.cell BD (p := ⟨w.heap.size, 0, none⟩) z_A).trans (HK.out.1), (Below.cell BD (p := ⟨w.heap.size, 1, none⟩) z_A).trans (HK.out.2.1), (Below.cell BD (p := ⟨w.heap.size, 2, none⟩) z_A).trans (HK.out.2.2)⟩; apply (HBW.out.trans (Below.mono BD zw))) | with_reducible (refine ⟨?_, (Below.cell BB (p := ⟨w.heap.size, 0, none⟩) z_A).trans (HK.out.1), (Below.cell BB (p := ⟨w.heap.size, 1, none⟩) z_A).trans (HK.out.2.1), (Below.cell BB (p := ⟨w.heap.size, 2, none⟩) z_A).trans (HK.out.2.2)⟩; apply (HBW.out.trans (Below.mono BB zw))) | (refine ⟨?_, ?_, ?_, ?_⟩; (focus (repeat (with_reducible first | apply (HBW.out.trans (Below.mono BB zw)) | apply Below.drew | (apply Below.setCell; rotate_left; (dsimp only; omega)) | (apply Below.alloc; rotate_left; (first | omega | (simp only [Hand.sa, Hand.ss, Hand.sd, Hand.sn]; omega)))))); (repeat (with_reducible first | exact (Below.cell BB (p := ⟨w.heap.size, 0, none⟩) z_A).trans (HK.out.1) | refine Hand.cell_alloc ?_ | refine Hand.cell_drew ?_ | refine Hand.cell_far (by omega) ?_)); (repeat (with_reducible first | exact (Below.cell BB (p := ⟨w.heap.size, 1, none⟩) z_A).trans (HK.out.2.1) | refine Hand.cell_alloc ?_ | refine Hand.cell_drew ?_ | refine Hand.cell_far (by omega) ?_)); (repeat (with_reducible first | exact (Below.cell BB (p := ⟨w.heap.size, 2, none⟩) z_A).trans (HK.out.2.2) | refine Hand.cell_alloc ?_ | refine Hand.cell_drew ?_ | refine Hand.cell_far (by omega) ?_)))) (first | (go_at_call 27; ((with_reducible refine (M3.out _).mono ?_); rintro e w4 ⟨rfl, hb_⟩; have BB : Below w3.heap.size w3 w4 := Hand.stepB hb_ (by assumption) (Nat.le_refl _); have zB_w4 := Below.size BB; clear hb_)) | (go_at_call 27; ((with_reducible refine (M4.out _).mono ?_); rintro e w5 ⟨rfl, hb_⟩; have BB : Below w3.heap.size w3 w5 := Hand.stepB hb_ (by assumption) (Nat.le_refl _); have zB_w5 := Below.size BB; clear hb_)) | (go_at_call 29; ((with_reducible refine (M5.out _).mono ?_); rintro e w6 ⟨rfl, hb_⟩; have BB : Below w3.heap.size w3 w6 := Hand.stepB hb_ (by assumption) (Nat.le_refl _); have zB_w6 := Below.size BB; clear hb_)) | (go_at_call 21; ((with_reducible refine (M6.out _ (tab_below HT3.out (by assumption))).mono ?_); rintro e w7 ⟨rfl, hb_⟩; have BB : Below w3.heap.size w3 w7 := Hand.stepB hb_ (by assumption) (Nat.le_refl _); have zB_w7 := Below.size BB; clear hb_)))
  obtain ⟨g_A, hB⟩ := HG.out
  clear HG
  have g_A' := (Hand.hp_below BB z_A).trans g_A
  have hB' := hB.trans (Below.mono BB zw)
  clear g_A
  clear hB HBW HK BD BR BB zw z_A z1_A z2_A y0_A y1_A
  have g_A := g_A'
  have hB := hB'
  clear hB' g_A'
  obtain ⟨z_A, z1_A, z2_A, y0_A, y1_A⟩ := Hand.hz g_A
  obtain ⟨c_A_0, f_A_0, c_A_1, f_A_1, c_A_2, f_A_2⟩ := Hand.hc3 g_A
  have zw : w.heap.size ≤ w7.heap.size := hB.size
  have HG := Lib.hid (And.intro g_A (hB))
  clear g_A hB
  go_wp2
  go_ret
  obtain ⟨g_A, hB⟩ := HG.out
  exact ⟨by first | rfl | (simp; done) | (simp; decide) | (simp; rfl) | (simp [Lib.toList_data]; done), by first | exact hB | exact bw hB⟩
set_option maxHeartbeats 1600000 in
set_option maxRecDepth 100000 in
theorem tens_true_w (n d t k q p F G N X Y V : Int) (S1 S2 Z : ByteArray) (n1 : 1 ≤ n) (n2 : n ≤ 240000) (d1 : 1 ≤ d) (d2 : d ≤ 1001) (k0 : 0 ≤ k) (k1 : k < 144) (hq : k / 6 = q) (hp : k % 6 * 10 = p) (z1 : S1.size = 2) (z2 : S2.size = 2) (z3 : Z.size ≤ 3) (hF : (n + d - 1) / d = F) (f1 : 1 ≤ F) (f2 : F ≤ 240) (fw : 100 < F) (hG : 600 * F - 9 * F / 15 = G) (hN : G * k = N) (N0 : 0 ≤ N) (N1 : N ≤ 100000000) (hX : k * 600 * n = X) (hY : N * d = Y) (hV : X - Y = V) (V0 : 0 ≤ V) (V1 : 10 * V < n) (X0 : 0 ≤ X) (X1 : X ≤ 100000000000) (Y0 : 0 ≤ Y) (Y1 : Y ≤ 200000000000) (w : World) (ht : TabN w)
    (m0 : ∀ w, TabN w → Calls Tryd.prog 16 #[] w fun e w' => e = .returned (.bool true) ∧ Below w.heap.size w w')
    (m1 : ∀ w, Calls Tryd.prog 25 #[rate n d true] w fun e w' => e = .returned (.int .i64 0) ∧ Below w.heap.size w w')
    (m2 : ∀ w, Calls Tryd.prog 26 #[.int .i64 t, .int .i64 144] w fun e w' => e = .returned (.int .i64 k) ∧ Below w.heap.size w w')
    (m3 : ∀ w, Calls Tryd.prog 27 #[.int .i64 q] w fun e w' => e = .returned (.string S1) ∧ Below w.heap.size w w')
    (m4 : ∀ w, Calls Tryd.prog 27 #[.int .i64 p] w fun e w' => e = .returned (.string S2) ∧ Below w.heap.size w w')
    (m5 : ∀ w, Calls Tryd.prog 29 #[.int .i64 0, .bool true] w fun e w' => e = .returned (.string Z) ∧ Below w.heap.size w w')
    (m6 : ∀ w, TabN w → Calls Tryd.prog 21 #[rate n d true, .string (S1 ++ (⟨#[58]⟩ : ByteArray) ++ S2 ++ (⟨#[58, 48, 48]⟩ : ByteArray) ++ (⟨#[59]⟩ : ByteArray) ++ Z)] w fun e w' => e = .returned (.tuple #[.int .i64 N, .int .i64 0]) ∧ Below w.heap.size w w') :
    Calls Tryd.prog 9 #[rate n d true, .int .i64 t] w fun e w' => e = .returned (.bool true) ∧ Below w.heap.size w w' := by
  have hd2 : ¬ d = 0 := by omega
  have HT0 := Lib.hid ht
  have M0 := Lib.hid m0
  have M1 := Lib.hid m1
  have M2 := Lib.hid m2
  have M3 := Lib.hid m3
  have M4 := Lib.hid m4
  have M5 := Lib.hid m5
  have M6 := Lib.hid m6
  clear m0 m1 m2 m3 m4 m5 m6 ht
  go_enter Tryd.func9, Tryd.ntmps9
  go_wp2_with fail
  with_reducible refine (M0.out _ (tab_below HT0.out (bw (Below.refl _ _)))).mono ?_
  rintro e w1 ⟨rfl, hb1⟩
  have h_A : w1.heap[w.heap.size]? = some (.cells #[.int .i64 n, .int .i64 d, .bool true] 24 (0, 0)) := by
    refine Hand.kb hb1 ?_; simp (disch := first | omega | (simp only [Hand.sa, Hand.ss, Hand.sd, Hand.sn]; first | done | omega)) only [Hand.q2, Hand.q1, Hand.q5, Hand.q6, Hand.q4, Hand.q3] <;> rfl
  have hB' : Below w.heap.size w w1 := Hand.stepB hb1 (by repeat (with_reducible first | apply Below.refl _ _ | apply Below.drew | apply pw_below_drewN | (apply Below.setCell; rotate_left; (dsimp only; omega)) | (apply Below.alloc; rotate_left; (first | omega | (simp only [Hand.sa, Hand.ss, Hand.sd, Hand.sn]; omega))))) (Nat.le_refl _)
  clear hb1
  have g_A := h_A
  have hB := hB'
  clear hB' h_A
  obtain ⟨z_A, z1_A, z2_A, y0_A, y1_A⟩ := Hand.hz g_A
  obtain ⟨c_A_0, f_A_0, c_A_1, f_A_1, c_A_2, f_A_2⟩ := Hand.hc3 g_A
  have zw : w.heap.size ≤ w1.heap.size := hB.size
  have HG := Lib.hid (And.intro g_A (hB))
  clear g_A hB
  go_wp2_with fail
  with_reducible refine (M1.out _).mono ?_
  rintro e w2 ⟨rfl, hb2⟩
  obtain ⟨g_A, hB⟩ := HG.out
  have h_A : w2.heap[w.heap.size]? = some (.cells #[.int .i64 n, .int .i64 d, .bool true] 24 (0, 0)) := by
    refine Hand.kb hb2 ?_; first | with_reducible exact g_A | (simp (disch := first | omega | (simp only [Hand.sa, Hand.ss, Hand.sd, Hand.sn]; first | done | omega)) only [Hand.q2, Hand.q1, Hand.q5, Hand.q6, Hand.q4, Hand.q3, g_A] <;> rfl)
  have hB' : Below w.heap.size w w2 := Hand.stepB hb2 (by repeat (with_reducible first | apply hB | apply Below.drew | apply pw_below_drewN | (apply Below.setCell; rotate_left; (dsimp only; omega)) | (apply Below.alloc; rotate_left; (first | omega | (simp only [Hand.sa, Hand.ss, Hand.sd, Hand.sn]; omega))))) (Nat.le_refl _)
  clear HG hB g_A zw z_A z1_A z2_A y0_A y1_A c_A_0 f_A_0 c_A_1 f_A_1 c_A_2 f_A_2
  clear hb2
  have g_A := h_A
  have hB := hB'
  clear hB' h_A
  obtain ⟨z_A, z1_A, z2_A, y0_A, y1_A⟩ := Hand.hz g_A
  obtain ⟨c_A_0, f_A_0, c_A_1, f_A_1, c_A_2, f_A_2⟩ := Hand.hc3 g_A
  have zw : w.heap.size ≤ w2.heap.size := hB.size
  have HG := Lib.hid (And.intro g_A (hB))
  clear g_A hB
  go_wp2_with fail
  with_reducible refine (M2.out _).mono ?_
  rintro e w3 ⟨rfl, hb3⟩
  obtain ⟨g_A, hB⟩ := HG.out
  have h_A : w3.heap[w.heap.size]? = some (.cells #[.int .i64 n, .int .i64 d, .bool true] 24 (0, 0)) := by
    refine Hand.kb hb3 ?_; first | with_reducible exact g_A | (simp (disch := first | omega | (simp only [Hand.sa, Hand.ss, Hand.sd, Hand.sn]; first | done | omega)) only [Hand.q2, Hand.q1, Hand.q5, Hand.q6, Hand.q4, Hand.q3, g_A] <;> rfl)
  have hB' : Below w.heap.size w w3 := Hand.stepB hb3 (by repeat (with_reducible first | apply hB | apply Below.drew | apply pw_below_drewN | (apply Below.setCell; rotate_left; (dsimp only; omega)) | (apply Below.alloc; rotate_left; (first | omega | (simp only [Hand.sa, Hand.ss, Hand.sd, Hand.sn]; omega))))) (Nat.le_refl _)
  clear HG hB g_A zw z_A z1_A z2_A y0_A y1_A c_A_0 f_A_0 c_A_1 f_A_1 c_A_2 f_A_2
  clear hb3
  have g_A := h_A
  have hB := hB'
  clear hB' h_A
  obtain ⟨z_A, z1_A, z2_A, y0_A, y1_A⟩ := Hand.hz g_A
  obtain ⟨c_A_0, f_A_0, c_A_1, f_A_1, c_A_2, f_A_2⟩ := Hand.hc3 g_A
  have zw : w.heap.size ≤ w3.heap.size := hB.size
  have HG := Lib.hid (And.intro g_A (hB))
  clear g_A hB
  go_wp2
  have HT3 := Lib.hid (show TabN w3 from tab_below HT0.out HG.out.2)
  have e1 : IntKind.i64.wrap (k.tdiv 6) = q := by rw [Int.tdiv_eq_ediv_of_nonneg k0, IntKind.wrap_i64]; omega
  have e3 : IntKind.i64.wrap (k.tmod 6 * 10) = p := by rw [Int.tmod_eq_emod_of_nonneg k0, hp, IntKind.wrap_i64]; omega
  have g1 : (100 < F) = True := eq_true (by omega)
  have p0 : (9223372036854775807 < S1.size + 1) = False := eq_false (by omega)
  have p1 : (9223372036854775807 < S1.size + 1 + S2.size) = False := eq_false (by omega)
  have p2 : (9223372036854775807 < S1.size + 1 + S2.size + 3) = False := eq_false (by omega)
  have p3 : (9223372036854775807 < S1.size + 1 + S2.size + 3 + 1) = False := eq_false (by omega)
  have p4 : (9223372036854775807 < S1.size + 1 + S2.size + 3 + 1 + Z.size) = False := eq_false (by omega)
  have p9 : (9223372036854775807 < 9 + Z.size) = False := eq_false (by omega)
  have HBW := Lib.hid (HG.out.2)
  have HK := Lib.hid (And.intro c_A_0 (And.intro c_A_1 (c_A_2)))
  have BD : Below w3.heap.size w3 w3.drew := Below.drew (Below.refl _ _)
  have BR : Below w3.heap.size w3 w3 := Below.refl _ _
  go_region_held3 (fun w_ => Below w.heap.size w w_ ∧ w_.cell? ⟨w.heap.size, 0, none⟩ = some (.int .i64 n) ∧ w_.cell? ⟨w.heap.size, 1, none⟩ = some (.int .i64 d) ∧ w_.cell? ⟨w.heap.size, 2, none⟩ = some (.bool true)) (first | with_reducible (refine ⟨?_, (Below.cell BR (p := ⟨w.heap.size, 0, none⟩) z_A).trans (HK.out.1), (Below.cell BR (p := ⟨w.heap.size, 1, none⟩) z_A).trans (HK.out.2.1), (Below.cell BR (p := ⟨w.heap.size, 2, none⟩) z_A).trans (HK.out.2.2)⟩; apply (HBW.out.trans (Below.mono BR zw))) | with_reducible (refine ⟨?_, (Below.cell BD (p := ⟨w.heap.size, 0, none⟩) z_A).trans (HK.out.1), (Below.cell BD (p := ⟨w.heap.size, 1, none⟩) z_A).trans (HK.out.2.1), (Below.cell BD (p := ⟨w.heap.size, 2, none⟩) z_A).trans (HK.out.2.2)⟩; apply (HBW.out.trans (Below.mono BD zw))) | with_reducible (refine ⟨?_, (Below.cell BB (p := ⟨w.heap.size, 0, none⟩) z_A).trans (HK.out.1), (Below.cell BB (p := ⟨w.heap.size, 1, none⟩) z_A).trans (HK.out.2.1), (Below.cell BB (p := ⟨w.heap.size, 2, none⟩) z_A).trans (HK.out.2.2)⟩; apply (HBW.out.trans (Below.mono BB zw))) | (refine ⟨?_, ?_, ?_, ?_⟩; (focus (repeat (with_reducible first | apply (HBW.out.trans (Below.mono BB zw)) | apply Below.drew | (apply Below.setCell; rotate_left; (dsimp only; omega)) | (apply Below.alloc; rotate_left; (first | omega | (simp only [Hand.sa, Hand.ss, Hand.sd, Hand.sn]; omega)))))); (repeat (with_reducible first | exact (Below.cell BB (p := ⟨w.heap.size, 0, none⟩) z_A).trans (HK.out.1) | refine Hand.cell_alloc ?_ | refine Hand.cell_drew ?_ | refine Hand.cell_far (by omega) ?_)); (repeat (with_reducible first | exact (Below.cell BB (p := ⟨w.heap.size, 1, none⟩) z_A).trans (HK.out.2.1) | refine Hand.cell_alloc ?_ | refine Hand.cell_drew ?_ | refine Hand.cell_far (by omega) ?_)); (repeat (with_reducible first | exact (Below.cell BB (p := ⟨w.heap.size, 2, none⟩) z_A).trans (HK.out.2.2) | refine Hand.cell_alloc ?_ | refine Hand.cell_drew ?_ | refine Hand.cell_far (by omega) ?_)))) (first | (go_at_call 27; ((with_reducible refine (M3.out _).mono ?_); rintro e w4 ⟨rfl, hb_⟩; have BB : Below w3.heap.size w3 w4 := Hand.stepB hb_ (by assumption) (Nat.le_refl _); have zB_w4 := Below.size BB; clear hb_)) | (go_at_call 27; ((with_reducible refine (M4.out _).mono ?_); rintro e w5 ⟨rfl, hb_⟩; have BB : Below w3.heap.size w3 w5 := Hand.stepB hb_ (by assumption) (Nat.le_refl _); have zB_w5 := Below.size BB; clear hb_)) | (go_at_call 29; ((with_reducible refine (M5.out _).mono ?_); rintro e w6 ⟨rfl, hb_⟩; have BB : Below w3.heap.size w3 w6 := Hand.stepB hb_ (by assumption) (Nat.le_refl _); have zB_w6 := Below.size BB; clear hb_)) | (go_at_call 21; ((with_reducible refine (M6.out _ (tab_below HT3.out (by assumption))).mono ?_); rintro e w7 ⟨rfl, hb_⟩; have BB : Below w3.heap.size w3 w7 := Hand.stepB hb_ (by assumption) (Nat.le_refl _); have zB_w7 := Below.size BB; clear hb_)))
  obtain ⟨g_A, hB⟩ := HG.out
  clear HG
  have g_A' := (Hand.hp_below BB z_A).trans g_A
  have hB' := hB.trans (Below.mono BB zw)
  clear g_A
  clear hB HBW HK BD BR BB zw z_A z1_A z2_A y0_A y1_A
  have g_A := g_A'
  have hB := hB'
  clear hB' g_A'
  obtain ⟨z_A, z1_A, z2_A, y0_A, y1_A⟩ := Hand.hz g_A
  obtain ⟨c_A_0, f_A_0, c_A_1, f_A_1, c_A_2, f_A_2⟩ := Hand.hc3 g_A
  have zw : w.heap.size ≤ w7.heap.size := hB.size
  have HG := Lib.hid (And.intro g_A (hB))
  clear g_A hB
  go_wp2
  go_ret
  obtain ⟨g_A, hB⟩ := HG.out
  exact ⟨by first | rfl | (simp; done) | (simp; decide) | (simp; rfl) | (simp [Lib.toList_data]; done), by first | exact hB | exact bw hB⟩
end Go.Proofs.YtghiibdhibcbaaaDoor.PA
