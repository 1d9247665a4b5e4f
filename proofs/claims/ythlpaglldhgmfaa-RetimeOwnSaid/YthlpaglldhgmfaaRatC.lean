/- fit, New, Right. -/
import Derived.Test.YthlpaglldhgmfaaRatB
import Derived.Deep.RegionHeld3
import Derived.Deep.RegionWith
namespace Go.Proofs.Ythlpaglldhgmfaa.PA
open Go.RowKit Go.Proofs.YthlpaglldhgmfaaW.PrintWords Go.Proofs.YthlpaglldhgmfaaW.PrintLast Go.Proofs.YthlpaglldhgmfaaW.PrintMore
set_option linter.unusedSimpArgs false
set_option linter.unusedVariables false
theorem small62 (w : World) : Calls Try.prog 87 #[.int .u64 4611686018427387904] w fun e w' => e = .returned (.agg #[.int .u64 (hiN 4611686018427387904), .int .u64 (loN 4611686018427387904)]) ∧ Below w.heap.size w w' := small_any 4611686018427387904 (by omega) w
theorem small31 (w : World) : Calls Try.prog 87 #[.int .u64 2147483648] w fun e w' => e = .returned (.agg #[.int .u64 (hiN 2147483648), .int .u64 (loN 2147483648)]) ∧ Below w.heap.size w w' := small_any 2147483648 (by omega) w
set_option maxHeartbeats 4000000 in
set_option maxRecDepth 100000 in
theorem fit_wide2 (neg : Bool) (n d g p q p' q' : Nat) (hn : n < 340282366920938463463374607431768211456) (hd : d < 340282366920938463463374607431768211456) (hd0 : 0 < d) (w : World)
    (hg : Nat.gcd n d = g) (hp : n / g = p) (hq : d / g = q) (hp' : n % g = p') (hq' : d % g = q') (h : (decide (0 < cmpN p 4611686018427387904)) = false) (h2 : (decide (0 < cmpN q 2147483648)) = true) :
    Calls Try.prog 84 #[.agg #[.bool neg, .int .u64 (hiN n), .int .u64 (loN n), .int .u64 (hiN d), .int .u64 (loN d)]] w fun e w' =>
      e = .returned (.tuple #[.agg #[.int .i64 0, .int .i64 0], .int .i64 12]) ∧ Below w.heap.size w w' := by
  have HE := Lib.hid (And.intro hg (And.intro hp (And.intro hq (And.intro hp' hq'))))
  have hg0 : 0 < g := by rw [← hg]; exact Nat.gcd_pos_of_pos_right _ hd0
  have hgb : g < 340282366920938463463374607431768211456 := Nat.lt_of_le_of_lt (by rw [← hg]; exact Nat.gcd_le_right _ hd0) hd
  clear hg hp hq hp' hq'
  go_enter Try.func84, Try.ntmps84
  go_wp2_with fail
  refine (common_any n d hn hd _).mono ?_
  rintro e w1 ⟨rfl, hb1⟩
  rw [HE.out.1]
  have h_A : w1.heap[w.heap.size]? = some (.cells #[.bool neg, .int .u64 (hiN n), .int .u64 (loN n), .int .u64 (hiN d), .int .u64 (loN d)] 114 (0, 0)) := by
    refine Hand.kb hb1 ?_; simp (disch := first | omega | (simp only [Hand.sa, Hand.ss, Hand.sd, Hand.sn]; first | done | omega)) only [Hand.q2, Hand.q1, Hand.q5, Hand.q6, Hand.q4, Hand.q3] <;> rfl
  have h_R : w1.heap[w.heap.size + 1]? = some (.cells #[.int .i64 0, .int .i64 0] 31 (0, 0)) := by
    refine Hand.kb hb1 ?_; simp (disch := first | omega | (simp only [Hand.sa, Hand.ss, Hand.sd, Hand.sn]; first | done | omega)) only [Hand.q2, Hand.q1, Hand.q5, Hand.q6, Hand.q4, Hand.q3] <;> rfl
  have hB' : Below w.heap.size w w1 := Hand.stepB hb1 (by repeat (with_reducible first | apply Below.refl _ _ | apply Below.drew | apply pw_below_drewN | (apply Below.setCell; rotate_left; (dsimp only; omega)) | (apply Below.alloc; rotate_left; (first | omega | (simp only [Hand.sa, Hand.ss, Hand.sd, Hand.sn]; omega))))) (Nat.le_refl _)
  clear hb1
  have g_A := h_A
  have g_R := h_R
  have hB := hB'
  clear hB' h_A h_R
  obtain ⟨z_A, z1_A, z2_A, y0_A, y1_A⟩ := Hand.hz g_A
  obtain ⟨c_A_0, f_A_0, c_A_1, f_A_1, c_A_2, f_A_2, c_A_3, f_A_3, c_A_4, f_A_4⟩ := Hand.hc5 g_A
  obtain ⟨z_R, z1_R, z2_R, y0_R, y1_R⟩ := Hand.hz g_R
  obtain ⟨c_R_0, f_R_0, c_R_1, f_R_1⟩ := Hand.hc2 g_R
  have zw : w.heap.size ≤ w1.heap.size := hB.size
  have HG := Lib.hid (And.intro g_A (And.intro g_R (hB)))
  clear g_A g_R hB
  go_wp2_with fail
  refine (over_any n g hn hg0 hgb _).mono ?_
  rintro e w2 ⟨rfl, hb2⟩
  rw [HE.out.2.1, HE.out.2.2.2.1]
  obtain ⟨g_A, g_R, hB⟩ := HG.out
  have h_A : w2.heap[w.heap.size]? = some (.cells #[.bool neg, .int .u64 (hiN n), .int .u64 (loN n), .int .u64 (hiN d), .int .u64 (loN d)] 114 (0, 0)) := by
    refine Hand.kb hb2 ?_; first | with_reducible exact g_A | (simp (disch := first | omega | (simp only [Hand.sa, Hand.ss, Hand.sd, Hand.sn]; first | done | omega)) only [Hand.q2, Hand.q1, Hand.q5, Hand.q6, Hand.q4, Hand.q3, g_A] <;> rfl)
  have h_R : w2.heap[w.heap.size + 1]? = some (.cells #[.int .i64 0, .int .i64 0] 31 (0, 0)) := by
    refine Hand.kb hb2 ?_; first | with_reducible exact g_R | (simp (disch := first | omega | (simp only [Hand.sa, Hand.ss, Hand.sd, Hand.sn]; first | done | omega)) only [Hand.q2, Hand.q1, Hand.q5, Hand.q6, Hand.q4, Hand.q3, g_R] <;> rfl)
  have h_G : w2.heap[w1.heap.size]? = some (.cells #[.int .u64 (hiN g), .int .u64 (loN g)] 85 (0, 0)) := by
    refine Hand.kb hb2 ?_; simp (disch := first | omega | (simp only [Hand.sa, Hand.ss, Hand.sd, Hand.sn]; first | done | omega)) only [Hand.q2, Hand.q1, Hand.q5, Hand.q6, Hand.q4, Hand.q3] <;> rfl
  have hB' : Below w.heap.size w w2 := Hand.stepB hb2 (by repeat (with_reducible first | apply hB | apply Below.drew | apply pw_below_drewN | (apply Below.setCell; rotate_left; (dsimp only; omega)) | (apply Below.alloc; rotate_left; (first | omega | (simp only [Hand.sa, Hand.ss, Hand.sd, Hand.sn]; omega))))) (Nat.le_refl _)
  clear HG hB g_A g_R zw z_A z1_A z2_A y0_A y1_A c_A_0 f_A_0 c_A_1 f_A_1 c_A_2 f_A_2 c_A_3 f_A_3 c_A_4 f_A_4 z_R z1_R z2_R y0_R y1_R c_R_0 f_R_0 c_R_1 f_R_1
  clear hb2
  have g_A := h_A
  have g_R := h_R
  have g_G := h_G
  have hB := hB'
  clear hB' h_A h_R h_G
  obtain ⟨z_A, z1_A, z2_A, y0_A, y1_A⟩ := Hand.hz g_A
  obtain ⟨c_A_0, f_A_0, c_A_1, f_A_1, c_A_2, f_A_2, c_A_3, f_A_3, c_A_4, f_A_4⟩ := Hand.hc5 g_A
  obtain ⟨z_R, z1_R, z2_R, y0_R, y1_R⟩ := Hand.hz g_R
  obtain ⟨c_R_0, f_R_0, c_R_1, f_R_1⟩ := Hand.hc2 g_R
  obtain ⟨z_G, z1_G, z2_G, y0_G, y1_G⟩ := Hand.hz g_G
  obtain ⟨c_G_0, f_G_0, c_G_1, f_G_1⟩ := Hand.hc2 g_G
  have zw : w.heap.size ≤ w2.heap.size := hB.size
  have HG := Lib.hid (And.intro g_A (And.intro g_R (And.intro g_G (hB))))
  clear g_A g_R g_G hB
  go_wp2_with fail
  refine (over_any d g hd hg0 hgb _).mono ?_
  rintro e w3 ⟨rfl, hb3⟩
  rw [HE.out.2.2.1, HE.out.2.2.2.2]
  obtain ⟨g_A, g_R, g_G, hB⟩ := HG.out
  have h_A : w3.heap[w.heap.size]? = some (.cells #[.bool neg, .int .u64 (hiN n), .int .u64 (loN n), .int .u64 (hiN d), .int .u64 (loN d)] 114 (0, 0)) := by
    refine Hand.kb hb3 ?_; first | with_reducible exact g_A | (simp (disch := first | omega | (simp only [Hand.sa, Hand.ss, Hand.sd, Hand.sn]; first | done | omega)) only [Hand.q2, Hand.q1, Hand.q5, Hand.q6, Hand.q4, Hand.q3, g_A] <;> rfl)
  have h_R : w3.heap[w.heap.size + 1]? = some (.cells #[.int .i64 0, .int .i64 0] 31 (0, 0)) := by
    refine Hand.kb hb3 ?_; first | with_reducible exact g_R | (simp (disch := first | omega | (simp only [Hand.sa, Hand.ss, Hand.sd, Hand.sn]; first | done | omega)) only [Hand.q2, Hand.q1, Hand.q5, Hand.q6, Hand.q4, Hand.q3, g_R] <;> rfl)
  have h_G : w3.heap[w1.heap.size]? = some (.cells #[.int .u64 (hiN g), .int .u64 (loN g)] 85 (0, 0)) := by
    refine Hand.kb hb3 ?_; first | with_reducible exact g_G | (simp (disch := first | omega | (simp only [Hand.sa, Hand.ss, Hand.sd, Hand.sn]; first | done | omega)) only [Hand.q2, Hand.q1, Hand.q5, Hand.q6, Hand.q4, Hand.q3, g_G] <;> rfl)
  have h_P : w3.heap[w2.heap.size]? = some (.cells #[.int .u64 (hiN p), .int .u64 (loN p)] 85 (0, 0)) := by
    refine Hand.kb hb3 ?_; simp (disch := first | omega | (simp only [Hand.sa, Hand.ss, Hand.sd, Hand.sn]; first | done | omega)) only [Hand.q2, Hand.q1, Hand.q5, Hand.q6, Hand.q4, Hand.q3] <;> rfl
  have hB' : Below w.heap.size w w3 := Hand.stepB hb3 (by repeat (with_reducible first | apply hB | apply Below.drew | apply pw_below_drewN | (apply Below.setCell; rotate_left; (dsimp only; omega)) | (apply Below.alloc; rotate_left; (first | omega | (simp only [Hand.sa, Hand.ss, Hand.sd, Hand.sn]; omega))))) (Nat.le_refl _)
  clear HG hB g_A g_R g_G zw z_A z1_A z2_A y0_A y1_A c_A_0 f_A_0 c_A_1 f_A_1 c_A_2 f_A_2 c_A_3 f_A_3 c_A_4 f_A_4 z_R z1_R z2_R y0_R y1_R c_R_0 f_R_0 c_R_1 f_R_1 z_G z1_G z2_G y0_G y1_G c_G_0 f_G_0 c_G_1 f_G_1
  clear hb3
  have g_A := h_A
  have g_R := h_R
  have g_G := h_G
  have g_P := h_P
  have hB := hB'
  clear hB' h_A h_R h_G h_P
  obtain ⟨z_A, z1_A, z2_A, y0_A, y1_A⟩ := Hand.hz g_A
  obtain ⟨c_A_0, f_A_0, c_A_1, f_A_1, c_A_2, f_A_2, c_A_3, f_A_3, c_A_4, f_A_4⟩ := Hand.hc5 g_A
  obtain ⟨z_R, z1_R, z2_R, y0_R, y1_R⟩ := Hand.hz g_R
  obtain ⟨c_R_0, f_R_0, c_R_1, f_R_1⟩ := Hand.hc2 g_R
  obtain ⟨z_G, z1_G, z2_G, y0_G, y1_G⟩ := Hand.hz g_G
  obtain ⟨c_G_0, f_G_0, c_G_1, f_G_1⟩ := Hand.hc2 g_G
  obtain ⟨z_P, z1_P, z2_P, y0_P, y1_P⟩ := Hand.hz g_P
  obtain ⟨c_P_0, f_P_0, c_P_1, f_P_1⟩ := Hand.hc2 g_P
  have zw : w.heap.size ≤ w3.heap.size := hB.size
  have HG := Lib.hid (And.intro g_A (And.intro g_R (And.intro g_G (And.intro g_P (hB)))))
  clear g_A g_R g_G g_P hB
  go_wp2_with fail
  obtain ⟨g_A, g_R, g_G, g_P, hB⟩ := HG.out
  obtain ⟨W, hW⟩ : ∃ W_, W_ = (w3.alloc (.cells #[.int .u64 (hiN q), .int .u64 (loN q)] 85)).alloc (.cells #[.int .u64 (hiN q'), .int .u64 (loN q')] 85) := ⟨_, rfl⟩
  rw [← hW]
  have h_A : W.heap[w.heap.size]? = some (.cells #[.bool neg, .int .u64 (hiN n), .int .u64 (loN n), .int .u64 (hiN d), .int .u64 (loN d)] 114 (0, 0)) := by
    rw [hW]
    first | (simp (disch := first | with_reducible assumption | (with_reducible first | exact Nat.ne_of_lt (by assumption) | exact Nat.ne_of_gt (by assumption) | exact Ne.symm (by assumption)) | ((fail_if_success (refine Hand.trip (by with_reducible rfl) ?_)); first | omega | (simp only [Hand.sa, Hand.ss, Hand.sd, Hand.sn]; first | done | with_reducible assumption | omega))) only [Hand.q2, Hand.q1, Hand.q5, Hand.q6, Hand.q4, Hand.q3, g_A]; done) | (simp (disch := first | with_reducible assumption | (with_reducible first | exact Nat.ne_of_lt (by assumption) | exact Nat.ne_of_gt (by assumption) | exact Ne.symm (by assumption)) | ((fail_if_success (refine Hand.trip (by with_reducible rfl) ?_)); first | omega | (simp only [Hand.sa, Hand.ss, Hand.sd, Hand.sn]; first | done | with_reducible assumption | omega))) only [Hand.q2, Hand.q1, Hand.q5, Hand.q6, Hand.q4, Hand.q3, g_A]; rfl)
  have h_R : W.heap[w.heap.size + 1]? = some (.cells #[.int .i64 0, .int .i64 0] 31 (0, 0)) := by
    rw [hW]
    first | (simp (disch := first | with_reducible assumption | (with_reducible first | exact Nat.ne_of_lt (by assumption) | exact Nat.ne_of_gt (by assumption) | exact Ne.symm (by assumption)) | ((fail_if_success (refine Hand.trip (by with_reducible rfl) ?_)); first | omega | (simp only [Hand.sa, Hand.ss, Hand.sd, Hand.sn]; first | done | with_reducible assumption | omega))) only [Hand.q2, Hand.q1, Hand.q5, Hand.q6, Hand.q4, Hand.q3, g_R]; done) | (simp (disch := first | with_reducible assumption | (with_reducible first | exact Nat.ne_of_lt (by assumption) | exact Nat.ne_of_gt (by assumption) | exact Ne.symm (by assumption)) | ((fail_if_success (refine Hand.trip (by with_reducible rfl) ?_)); first | omega | (simp only [Hand.sa, Hand.ss, Hand.sd, Hand.sn]; first | done | with_reducible assumption | omega))) only [Hand.q2, Hand.q1, Hand.q5, Hand.q6, Hand.q4, Hand.q3, g_R]; rfl)
  have h_G : W.heap[w1.heap.size]? = some (.cells #[.int .u64 (hiN g), .int .u64 (loN g)] 85 (0, 0)) := by
    rw [hW]
    first | (simp (disch := first | with_reducible assumption | (with_reducible first | exact Nat.ne_of_lt (by assumption) | exact Nat.ne_of_gt (by assumption) | exact Ne.symm (by assumption)) | ((fail_if_success (refine Hand.trip (by with_reducible rfl) ?_)); first | omega | (simp only [Hand.sa, Hand.ss, Hand.sd, Hand.sn]; first | done | with_reducible assumption | omega))) only [Hand.q2, Hand.q1, Hand.q5, Hand.q6, Hand.q4, Hand.q3, g_G]; done) | (simp (disch := first | with_reducible assumption | (with_reducible first | exact Nat.ne_of_lt (by assumption) | exact Nat.ne_of_gt (by assumption) | exact Ne.symm (by assumption)) | ((fail_if_success (refine Hand.trip (by with_reducible rfl) ?_)); first | omega | (simp only [Hand.sa, Hand.ss, Hand.sd, Hand.sn]; first | done | with_reducible assumption | omega))) only [Hand.q2, Hand.q1, Hand.q5, Hand.q6, Hand.q4, Hand.q3, g_G]; rfl)
  have h_P : W.heap[w2.heap.size]? = some (.cells #[.int .u64 (hiN p), .int .u64 (loN p)] 85 (0, 0)) := by
    rw [hW]
    first | (simp (disch := first | with_reducible assumption | (with_reducible first | exact Nat.ne_of_lt (by assumption) | exact Nat.ne_of_gt (by assumption) | exact Ne.symm (by assumption)) | ((fail_if_success (refine Hand.trip (by with_reducible rfl) ?_)); first | omega | (simp only [Hand.sa, Hand.ss, Hand.sd, Hand.sn]; first | done | with_reducible assumption | omega))) only [Hand.q2, Hand.q1, Hand.q5, Hand.q6, Hand.q4, Hand.q3, g_P]; done) | (simp (disch := first | with_reducible assumption | (with_reducible first | exact Nat.ne_of_lt (by assumption) | exact Nat.ne_of_gt (by assumption) | exact Ne.symm (by assumption)) | ((fail_if_success (refine Hand.trip (by with_reducible rfl) ?_)); first | omega | (simp only [Hand.sa, Hand.ss, Hand.sd, Hand.sn]; first | done | with_reducible assumption | omega))) only [Hand.q2, Hand.q1, Hand.q5, Hand.q6, Hand.q4, Hand.q3, g_P]; rfl)
  have h_Q : W.heap[w3.heap.size]? = some (.cells #[.int .u64 (hiN q), .int .u64 (loN q)] 85 (0, 0)) := by
    rw [hW]
    first | (simp (disch := first | with_reducible assumption | (with_reducible first | exact Nat.ne_of_lt (by assumption) | exact Nat.ne_of_gt (by assumption) | exact Ne.symm (by assumption)) | ((fail_if_success (refine Hand.trip (by with_reducible rfl) ?_)); first | omega | (simp only [Hand.sa, Hand.ss, Hand.sd, Hand.sn]; first | done | with_reducible assumption | omega))) only [Hand.q2, Hand.q1, Hand.q5, Hand.q6, Hand.q4, Hand.q3]; done) | (simp (disch := first | with_reducible assumption | (with_reducible first | exact Nat.ne_of_lt (by assumption) | exact Nat.ne_of_gt (by assumption) | exact Ne.symm (by assumption)) | ((fail_if_success (refine Hand.trip (by with_reducible rfl) ?_)); first | omega | (simp only [Hand.sa, Hand.ss, Hand.sd, Hand.sn]; first | done | with_reducible assumption | omega))) only [Hand.q2, Hand.q1, Hand.q5, Hand.q6, Hand.q4, Hand.q3]; rfl)
  have hB' : Below w.heap.size w W := by
    rw [hW]
    repeat (first | exact hB | (with_reducible first | apply Below.drew | apply pw_below_drewN | refine Below.setCell ?_ (by dsimp only; omega) _ | refine Below.alloc ?_ (by first | omega | (simp only [Hand.sa, Hand.ss, Hand.sd, Hand.sn]; omega)) _))
  clear HG hB g_A g_R g_G g_P zw z_A z1_A z2_A y0_A y1_A c_A_0 f_A_0 c_A_1 f_A_1 c_A_2 f_A_2 c_A_3 f_A_3 c_A_4 f_A_4 z_R z1_R z2_R y0_R y1_R c_R_0 f_R_0 c_R_1 f_R_1 z_G z1_G z2_G y0_G y1_G c_G_0 f_G_0 c_G_1 f_G_1 z_P z1_P z2_P y0_P y1_P c_P_0 f_P_0 c_P_1 f_P_1
  clear hW
  have g_A := h_A
  have g_R := h_R
  have g_G := h_G
  have g_P := h_P
  have g_Q := h_Q
  have hB := hB'
  clear hB' h_A h_R h_G h_P h_Q
  obtain ⟨z_A, z1_A, z2_A, y0_A, y1_A⟩ := Hand.hz g_A
  obtain ⟨c_A_0, f_A_0, c_A_1, f_A_1, c_A_2, f_A_2, c_A_3, f_A_3, c_A_4, f_A_4⟩ := Hand.hc5 g_A
  obtain ⟨z_R, z1_R, z2_R, y0_R, y1_R⟩ := Hand.hz g_R
  obtain ⟨c_R_0, f_R_0, c_R_1, f_R_1⟩ := Hand.hc2 g_R
  obtain ⟨z_G, z1_G, z2_G, y0_G, y1_G⟩ := Hand.hz g_G
  obtain ⟨c_G_0, f_G_0, c_G_1, f_G_1⟩ := Hand.hc2 g_G
  obtain ⟨z_P, z1_P, z2_P, y0_P, y1_P⟩ := Hand.hz g_P
  obtain ⟨c_P_0, f_P_0, c_P_1, f_P_1⟩ := Hand.hc2 g_P
  obtain ⟨z_Q, z1_Q, z2_Q, y0_Q, y1_Q⟩ := Hand.hz g_Q
  obtain ⟨c_Q_0, f_Q_0, c_Q_1, f_Q_1⟩ := Hand.hc2 g_Q
  have zw : w.heap.size ≤ W.heap.size := hB.size
  have HG := Lib.hid (And.intro g_A (And.intro g_R (And.intro g_G (And.intro g_P (And.intro g_Q (hB))))))
  clear g_A g_R g_G g_P g_Q hB
  have K0 : W.cell? ⟨w2.heap.size, 0, none⟩ = some (.int .u64 (hiN p)) ∧ W.cell? ⟨w2.heap.size, 1, none⟩ = some (.int .u64 (loN p)) ∧ W.cell? ⟨w3.heap.size, 0, none⟩ = some (.int .u64 (hiN q)) ∧ W.cell? ⟨w3.heap.size, 1, none⟩ = some (.int .u64 (loN q)) := ⟨c_P_0, c_P_1, c_Q_0, c_Q_1⟩
  have HK := Lib.hid K0
  have BD : Below W.heap.size W W.drew := Below.drew (Below.refl _ _)
  clear K0
  go_region_held3 (fun w' => Below W.heap.size W w' ∧ w'.cell? ⟨w2.heap.size, 0, none⟩ = some (.int .u64 (hiN p)) ∧ w'.cell? ⟨w2.heap.size, 1, none⟩ = some (.int .u64 (loN p)) ∧ w'.cell? ⟨w3.heap.size, 0, none⟩ = some (.int .u64 (hiN q)) ∧ w'.cell? ⟨w3.heap.size, 1, none⟩ = some (.int .u64 (loN q))) (first | exact Hand.keep4 (Below.refl _ _) z_P z_Q HK.out | exact Hand.keep4 (Below.drew (Below.refl _ _)) z_P z_Q HK.out | exact Hand.keep4 BB z_P z_Q HK.out) (first | (go_at_call 87; ((with_reducible refine (small62 _).mono ?_); rintro e w4 ⟨rfl, hb⟩; have BB := Hand.stepB hb (by assumption) (Nat.le_refl _); clear hb)) | (go_at_call 52; ((with_reducible refine (cmp_any p 4611686018427387904 _).mono ?_); rintro e w5 ⟨rfl, hb⟩; have BB := Hand.stepB hb (by assumption) (Nat.le_refl _); clear hb)) | (go_at_call 87; ((with_reducible refine (small31 _).mono ?_); rintro e w6 ⟨rfl, hb⟩; have BB := Hand.stepB hb (by assumption) (Nat.le_refl _); clear hb)) | (go_at_call 52; ((with_reducible refine (cmp_any q 2147483648 _).mono ?_); rintro e w7 ⟨rfl, hb⟩; have BB := Hand.stepB hb (by assumption) (Nat.le_refl _); clear hb)))
  obtain ⟨g_A, g_R, g_G, g_P, g_Q, hB⟩ := HG.out
  have h_A : w7.heap[w.heap.size]? = some (.cells #[.bool neg, .int .u64 (hiN n), .int .u64 (loN n), .int .u64 (hiN d), .int .u64 (loN d)] 114 (0, 0)) := by
    refine Hand.kb BB ?_; first | with_reducible exact g_A | (simp (disch := first | omega | (simp only [Hand.sa, Hand.ss, Hand.sd, Hand.sn]; first | done | omega)) only [Hand.q2, Hand.q1, Hand.q5, Hand.q6, Hand.q4, Hand.q3, g_A] <;> rfl)
  have h_R : w7.heap[w.heap.size + 1]? = some (.cells #[.int .i64 0, .int .i64 0] 31 (0, 0)) := by
    refine Hand.kb BB ?_; first | with_reducible exact g_R | (simp (disch := first | omega | (simp only [Hand.sa, Hand.ss, Hand.sd, Hand.sn]; first | done | omega)) only [Hand.q2, Hand.q1, Hand.q5, Hand.q6, Hand.q4, Hand.q3, g_R] <;> rfl)
  have h_G : w7.heap[w1.heap.size]? = some (.cells #[.int .u64 (hiN g), .int .u64 (loN g)] 85 (0, 0)) := by
    refine Hand.kb BB ?_; first | with_reducible exact g_G | (simp (disch := first | omega | (simp only [Hand.sa, Hand.ss, Hand.sd, Hand.sn]; first | done | omega)) only [Hand.q2, Hand.q1, Hand.q5, Hand.q6, Hand.q4, Hand.q3, g_G] <;> rfl)
  have h_P : w7.heap[w2.heap.size]? = some (.cells #[.int .u64 (hiN p), .int .u64 (loN p)] 85 (0, 0)) := by
    refine Hand.kb BB ?_; first | with_reducible exact g_P | (simp (disch := first | omega | (simp only [Hand.sa, Hand.ss, Hand.sd, Hand.sn]; first | done | omega)) only [Hand.q2, Hand.q1, Hand.q5, Hand.q6, Hand.q4, Hand.q3, g_P] <;> rfl)
  have h_Q : w7.heap[w3.heap.size]? = some (.cells #[.int .u64 (hiN q), .int .u64 (loN q)] 85 (0, 0)) := by
    refine Hand.kb BB ?_; first | with_reducible exact g_Q | (simp (disch := first | omega | (simp only [Hand.sa, Hand.ss, Hand.sd, Hand.sn]; first | done | omega)) only [Hand.q2, Hand.q1, Hand.q5, Hand.q6, Hand.q4, Hand.q3, g_Q] <;> rfl)
  have hB' : Below w.heap.size w w7 := Hand.stepB BB (by repeat (with_reducible first | apply hB | apply Below.drew | apply pw_below_drewN | (apply Below.setCell; rotate_left; (dsimp only; omega)) | (apply Below.alloc; rotate_left; (first | omega | (simp only [Hand.sa, Hand.ss, Hand.sd, Hand.sn]; omega))))) (Nat.le_refl _)
  clear HG hB g_A g_R g_G g_P g_Q zw z_A z1_A z2_A y0_A y1_A c_A_0 f_A_0 c_A_1 f_A_1 c_A_2 f_A_2 c_A_3 f_A_3 c_A_4 f_A_4 z_R z1_R z2_R y0_R y1_R c_R_0 f_R_0 c_R_1 f_R_1 z_G z1_G z2_G y0_G y1_G c_G_0 f_G_0 c_G_1 f_G_1 z_P z1_P z2_P y0_P y1_P c_P_0 f_P_0 c_P_1 f_P_1 z_Q z1_Q z2_Q y0_Q y1_Q c_Q_0 f_Q_0 c_Q_1 f_Q_1
  clear BB
  have g_A := h_A
  have g_R := h_R
  have g_G := h_G
  have g_P := h_P
  have g_Q := h_Q
  have hB := hB'
  clear hB' h_A h_R h_G h_P h_Q
  obtain ⟨z_A, z1_A, z2_A, y0_A, y1_A⟩ := Hand.hz g_A
  obtain ⟨c_A_0, f_A_0, c_A_1, f_A_1, c_A_2, f_A_2, c_A_3, f_A_3, c_A_4, f_A_4⟩ := Hand.hc5 g_A
  obtain ⟨z_R, z1_R, z2_R, y0_R, y1_R⟩ := Hand.hz g_R
  obtain ⟨c_R_0, f_R_0, c_R_1, f_R_1⟩ := Hand.hc2 g_R
  obtain ⟨z_G, z1_G, z2_G, y0_G, y1_G⟩ := Hand.hz g_G
  obtain ⟨c_G_0, f_G_0, c_G_1, f_G_1⟩ := Hand.hc2 g_G
  obtain ⟨z_P, z1_P, z2_P, y0_P, y1_P⟩ := Hand.hz g_P
  obtain ⟨c_P_0, f_P_0, c_P_1, f_P_1⟩ := Hand.hc2 g_P
  obtain ⟨z_Q, z1_Q, z2_Q, y0_Q, y1_Q⟩ := Hand.hz g_Q
  obtain ⟨c_Q_0, f_Q_0, c_Q_1, f_Q_1⟩ := Hand.hc2 g_Q
  have zw : w.heap.size ≤ w7.heap.size := hB.size
  have HG := Lib.hid (And.intro g_A (And.intro g_R (And.intro g_G (And.intro g_P (And.intro g_Q (hB))))))
  clear g_A g_R g_G g_P g_Q hB
  go_wp2
  obtain ⟨g_A, g_R, g_G, g_P, g_Q, hB⟩ := HG.out
  refine bodyPost_ret (results_ct rfl _ _ (w.heap.size + 1) 31 #[.int .i64 0, .int .i64 0] (0, 0) _ rfl ?_ Try.underlying31 rfl (by kernel_rfl)) rfl ⟨rfl, ?_⟩
  · simp (disch := omega) only [Hand.q1, g_R]; rfl
  · exact (hB.setCell (by dsimp only; omega) _).setCell (by dsimp only; omega) _
set_option maxHeartbeats 4000000 in
set_option maxRecDepth 100000 in
theorem fit_ok (neg : Bool) (n d g p q p' q' : Nat) (hn : n < 340282366920938463463374607431768211456) (hd : d < 340282366920938463463374607431768211456) (hd0 : 0 < d) (w : World)
    (hg : Nat.gcd n d = g) (hp : n / g = p) (hq : d / g = q) (hp' : n % g = p') (hq' : d % g = q') (h : (decide (0 < cmpN p 4611686018427387904)) = false) (h2 : (decide (0 < cmpN q 2147483648)) = false) (hp1 : (p : Int) ≤ 4611686018427387904) (hlp : wrap64 (loN p) = (p : Int)) (hlq : wrap64 (loN q) = (q : Int)) :
    Calls Try.prog 84 #[.agg #[.bool neg, .int .u64 (hiN n), .int .u64 (loN n), .int .u64 (hiN d), .int .u64 (loN d)]] w fun e w' =>
      e = .returned (.tuple #[.agg #[.int .i64 (if neg = true then -(p : Int) else (p : Int)), .int .i64 (q : Int)], .int .i64 0]) ∧ Below w.heap.size w w' := by
  have HE := Lib.hid (And.intro hg (And.intro hp (And.intro hq (And.intro hp' hq'))))
  have hg0 : 0 < g := by rw [← hg]; exact Nat.gcd_pos_of_pos_right _ hd0
  have hgb : g < 340282366920938463463374607431768211456 := Nat.lt_of_le_of_lt (by rw [← hg]; exact Nat.gcd_le_right _ hd0) hd
  clear hg hp hq hp' hq'
  go_enter Try.func84, Try.ntmps84
  go_wp2_with fail
  refine (common_any n d hn hd _).mono ?_
  rintro e w1 ⟨rfl, hb1⟩
  rw [HE.out.1]
  have h_A : w1.heap[w.heap.size]? = some (.cells #[.bool neg, .int .u64 (hiN n), .int .u64 (loN n), .int .u64 (hiN d), .int .u64 (loN d)] 114 (0, 0)) := by
    refine Hand.kb hb1 ?_; simp (disch := first | omega | (simp only [Hand.sa, Hand.ss, Hand.sd, Hand.sn]; first | done | omega)) only [Hand.q2, Hand.q1, Hand.q5, Hand.q6, Hand.q4, Hand.q3] <;> rfl
  have h_R : w1.heap[w.heap.size + 1]? = some (.cells #[.int .i64 0, .int .i64 0] 31 (0, 0)) := by
    refine Hand.kb hb1 ?_; simp (disch := first | omega | (simp only [Hand.sa, Hand.ss, Hand.sd, Hand.sn]; first | done | omega)) only [Hand.q2, Hand.q1, Hand.q5, Hand.q6, Hand.q4, Hand.q3] <;> rfl
  have hB' : Below w.heap.size w w1 := Hand.stepB hb1 (by repeat (with_reducible first | apply Below.refl _ _ | apply Below.drew | apply pw_below_drewN | (apply Below.setCell; rotate_left; (dsimp only; omega)) | (apply Below.alloc; rotate_left; (first | omega | (simp only [Hand.sa, Hand.ss, Hand.sd, Hand.sn]; omega))))) (Nat.le_refl _)
  clear hb1
  have g_A := h_A
  have g_R := h_R
  have hB := hB'
  clear hB' h_A h_R
  obtain ⟨z_A, z1_A, z2_A, y0_A, y1_A⟩ := Hand.hz g_A
  obtain ⟨c_A_0, f_A_0, c_A_1, f_A_1, c_A_2, f_A_2, c_A_3, f_A_3, c_A_4, f_A_4⟩ := Hand.hc5 g_A
  obtain ⟨z_R, z1_R, z2_R, y0_R, y1_R⟩ := Hand.hz g_R
  obtain ⟨c_R_0, f_R_0, c_R_1, f_R_1⟩ := Hand.hc2 g_R
  have zw : w.heap.size ≤ w1.heap.size := hB.size
  have HG := Lib.hid (And.intro g_A (And.intro g_R (hB)))
  clear g_A g_R hB
  go_wp2_with fail
  refine (over_any n g hn hg0 hgb _).mono ?_
  rintro e w2 ⟨rfl, hb2⟩
  rw [HE.out.2.1, HE.out.2.2.2.1]
  obtain ⟨g_A, g_R, hB⟩ := HG.out
  have h_A : w2.heap[w.heap.size]? = some (.cells #[.bool neg, .int .u64 (hiN n), .int .u64 (loN n), .int .u64 (hiN d), .int .u64 (loN d)] 114 (0, 0)) := by
    refine Hand.kb hb2 ?_; first | with_reducible exact g_A | (simp (disch := first | omega | (simp only [Hand.sa, Hand.ss, Hand.sd, Hand.sn]; first | done | omega)) only [Hand.q2, Hand.q1, Hand.q5, Hand.q6, Hand.q4, Hand.q3, g_A] <;> rfl)
  have h_R : w2.heap[w.heap.size + 1]? = some (.cells #[.int .i64 0, .int .i64 0] 31 (0, 0)) := by
    refine Hand.kb hb2 ?_; first | with_reducible exact g_R | (simp (disch := first | omega | (simp only [Hand.sa, Hand.ss, Hand.sd, Hand.sn]; first | done | omega)) only [Hand.q2, Hand.q1, Hand.q5, Hand.q6, Hand.q4, Hand.q3, g_R] <;> rfl)
  have h_G : w2.heap[w1.heap.size]? = some (.cells #[.int .u64 (hiN g), .int .u64 (loN g)] 85 (0, 0)) := by
    refine Hand.kb hb2 ?_; simp (disch := first | omega | (simp only [Hand.sa, Hand.ss, Hand.sd, Hand.sn]; first | done | omega)) only [Hand.q2, Hand.q1, Hand.q5, Hand.q6, Hand.q4, Hand.q3] <;> rfl
  have hB' : Below w.heap.size w w2 := Hand.stepB hb2 (by repeat (with_reducible first | apply hB | apply Below.drew | apply pw_below_drewN | (apply Below.setCell; rotate_left; (dsimp only; omega)) | (apply Below.alloc; rotate_left; (first | omega | (simp only [Hand.sa, Hand.ss, Hand.sd, Hand.sn]; omega))))) (Nat.le_refl _)
  clear HG hB g_A g_R zw z_A z1_A z2_A y0_A y1_A c_A_0 f_A_0 c_A_1 f_A_1 c_A_2 f_A_2 c_A_3 f_A_3 c_A_4 f_A_4 z_R z1_R z2_R y0_R y1_R c_R_0 f_R_0 c_R_1 f_R_1
  clear hb2
  have g_A := h_A
  have g_R := h_R
  have g_G := h_G
  have hB := hB'
  clear hB' h_A h_R h_G
  obtain ⟨z_A, z1_A, z2_A, y0_A, y1_A⟩ := Hand.hz g_A
  obtain ⟨c_A_0, f_A_0, c_A_1, f_A_1, c_A_2, f_A_2, c_A_3, f_A_3, c_A_4, f_A_4⟩ := Hand.hc5 g_A
  obtain ⟨z_R, z1_R, z2_R, y0_R, y1_R⟩ := Hand.hz g_R
  obtain ⟨c_R_0, f_R_0, c_R_1, f_R_1⟩ := Hand.hc2 g_R
  obtain ⟨z_G, z1_G, z2_G, y0_G, y1_G⟩ := Hand.hz g_G
  obtain ⟨c_G_0, f_G_0, c_G_1, f_G_1⟩ := Hand.hc2 g_G
  have zw : w.heap.size ≤ w2.heap.size := hB.size
  have HG := Lib.hid (And.intro g_A (And.intro g_R (And.intro g_G (hB))))
  clear g_A g_R g_G hB
  go_wp2_with fail
  refine (over_any d g hd hg0 hgb _).mono ?_
  rintro e w3 ⟨rfl, hb3⟩
  rw [HE.out.2.2.1, HE.out.2.2.2.2]
  obtain ⟨g_A, g_R, g_G, hB⟩ := HG.out
  have h_A : w3.heap[w.heap.size]? = some (.cells #[.bool neg, .int .u64 (hiN n), .int .u64 (loN n), .int .u64 (hiN d), .int .u64 (loN d)] 114 (0, 0)) := by
    refine Hand.kb hb3 ?_; first | with_reducible exact g_A | (simp (disch := first | omega | (simp only [Hand.sa, Hand.ss, Hand.sd, Hand.sn]; first | done | omega)) only [Hand.q2, Hand.q1, Hand.q5, Hand.q6, Hand.q4, Hand.q3, g_A] <;> rfl)
  have h_R : w3.heap[w.heap.size + 1]? = some (.cells #[.int .i64 0, .int .i64 0] 31 (0, 0)) := by
    refine Hand.kb hb3 ?_; first | with_reducible exact g_R | (simp (disch := first | omega | (simp only [Hand.sa, Hand.ss, Hand.sd, Hand.sn]; first | done | omega)) only [Hand.q2, Hand.q1, Hand.q5, Hand.q6, Hand.q4, Hand.q3, g_R] <;> rfl)
  have h_G : w3.heap[w1.heap.size]? = some (.cells #[.int .u64 (hiN g), .int .u64 (loN g)] 85 (0, 0)) := by
    refine Hand.kb hb3 ?_; first | with_reducible exact g_G | (simp (disch := first | omega | (simp only [Hand.sa, Hand.ss, Hand.sd, Hand.sn]; first | done | omega)) only [Hand.q2, Hand.q1, Hand.q5, Hand.q6, Hand.q4, Hand.q3, g_G] <;> rfl)
  have h_P : w3.heap[w2.heap.size]? = some (.cells #[.int .u64 (hiN p), .int .u64 (loN p)] 85 (0, 0)) := by
    refine Hand.kb hb3 ?_; simp (disch := first | omega | (simp only [Hand.sa, Hand.ss, Hand.sd, Hand.sn]; first | done | omega)) only [Hand.q2, Hand.q1, Hand.q5, Hand.q6, Hand.q4, Hand.q3] <;> rfl
  have hB' : Below w.heap.size w w3 := Hand.stepB hb3 (by repeat (with_reducible first | apply hB | apply Below.drew | apply pw_below_drewN | (apply Below.setCell; rotate_left; (dsimp only; omega)) | (apply Below.alloc; rotate_left; (first | omega | (simp only [Hand.sa, Hand.ss, Hand.sd, Hand.sn]; omega))))) (Nat.le_refl _)
  clear HG hB g_A g_R g_G zw z_A z1_A z2_A y0_A y1_A c_A_0 f_A_0 c_A_1 f_A_1 c_A_2 f_A_2 c_A_3 f_A_3 c_A_4 f_A_4 z_R z1_R z2_R y0_R y1_R c_R_0 f_R_0 c_R_1 f_R_1 z_G z1_G z2_G y0_G y1_G c_G_0 f_G_0 c_G_1 f_G_1
  clear hb3
  have g_A := h_A
  have g_R := h_R
  have g_G := h_G
  have g_P := h_P
  have hB := hB'
  clear hB' h_A h_R h_G h_P
  obtain ⟨z_A, z1_A, z2_A, y0_A, y1_A⟩ := Hand.hz g_A
  obtain ⟨c_A_0, f_A_0, c_A_1, f_A_1, c_A_2, f_A_2, c_A_3, f_A_3, c_A_4, f_A_4⟩ := Hand.hc5 g_A
  obtain ⟨z_R, z1_R, z2_R, y0_R, y1_R⟩ := Hand.hz g_R
  obtain ⟨c_R_0, f_R_0, c_R_1, f_R_1⟩ := Hand.hc2 g_R
  obtain ⟨z_G, z1_G, z2_G, y0_G, y1_G⟩ := Hand.hz g_G
  obtain ⟨c_G_0, f_G_0, c_G_1, f_G_1⟩ := Hand.hc2 g_G
  obtain ⟨z_P, z1_P, z2_P, y0_P, y1_P⟩ := Hand.hz g_P
  obtain ⟨c_P_0, f_P_0, c_P_1, f_P_1⟩ := Hand.hc2 g_P
  have zw : w.heap.size ≤ w3.heap.size := hB.size
  have HG := Lib.hid (And.intro g_A (And.intro g_R (And.intro g_G (And.intro g_P (hB)))))
  clear g_A g_R g_G g_P hB
  go_wp2_with fail
  obtain ⟨g_A, g_R, g_G, g_P, hB⟩ := HG.out
  obtain ⟨W, hW⟩ : ∃ W_, W_ = (w3.alloc (.cells #[.int .u64 (hiN q), .int .u64 (loN q)] 85)).alloc (.cells #[.int .u64 (hiN q'), .int .u64 (loN q')] 85) := ⟨_, rfl⟩
  rw [← hW]
  have h_A : W.heap[w.heap.size]? = some (.cells #[.bool neg, .int .u64 (hiN n), .int .u64 (loN n), .int .u64 (hiN d), .int .u64 (loN d)] 114 (0, 0)) := by
    rw [hW]
    first | (simp (disch := first | with_reducible assumption | (with_reducible first | exact Nat.ne_of_lt (by assumption) | exact Nat.ne_of_gt (by assumption) | exact Ne.symm (by assumption)) | ((fail_if_success (refine Hand.trip (by with_reducible rfl) ?_)); first | omega | (simp only [Hand.sa, Hand.ss, Hand.sd, Hand.sn]; first | done | with_reducible assumption | omega))) only [Hand.q2, Hand.q1, Hand.q5, Hand.q6, Hand.q4, Hand.q3, g_A]; done) | (simp (disch := first | with_reducible assumption | (with_reducible first | exact Nat.ne_of_lt (by assumption) | exact Nat.ne_of_gt (by assumption) | exact Ne.symm (by assumption)) | ((fail_if_success (refine Hand.trip (by with_reducible rfl) ?_)); first | omega | (simp only [Hand.sa, Hand.ss, Hand.sd, Hand.sn]; first | done | with_reducible assumption | omega))) only [Hand.q2, Hand.q1, Hand.q5, Hand.q6, Hand.q4, Hand.q3, g_A]; rfl)
  have h_R : W.heap[w.heap.size + 1]? = some (.cells #[.int .i64 0, .int .i64 0] 31 (0, 0)) := by
    rw [hW]
    first | (simp (disch := first | with_reducible assumption | (with_reducible first | exact Nat.ne_of_lt (by assumption) | exact Nat.ne_of_gt (by assumption) | exact Ne.symm (by assumption)) | ((fail_if_success (refine Hand.trip (by with_reducible rfl) ?_)); first | omega | (simp only [Hand.sa, Hand.ss, Hand.sd, Hand.sn]; first | done | with_reducible assumption | omega))) only [Hand.q2, Hand.q1, Hand.q5, Hand.q6, Hand.q4, Hand.q3, g_R]; done) | (simp (disch := first | with_reducible assumption | (with_reducible first | exact Nat.ne_of_lt (by assumption) | exact Nat.ne_of_gt (by assumption) | exact Ne.symm (by assumption)) | ((fail_if_success (refine Hand.trip (by with_reducible rfl) ?_)); first | omega | (simp only [Hand.sa, Hand.ss, Hand.sd, Hand.sn]; first | done | with_reducible assumption | omega))) only [Hand.q2, Hand.q1, Hand.q5, Hand.q6, Hand.q4, Hand.q3, g_R]; rfl)
  have h_G : W.heap[w1.heap.size]? = some (.cells #[.int .u64 (hiN g), .int .u64 (loN g)] 85 (0, 0)) := by
    rw [hW]
    first | (simp (disch := first | with_reducible assumption | (with_reducible first | exact Nat.ne_of_lt (by assumption) | exact Nat.ne_of_gt (by assumption) | exact Ne.symm (by assumption)) | ((fail_if_success (refine Hand.trip (by with_reducible rfl) ?_)); first | omega | (simp only [Hand.sa, Hand.ss, Hand.sd, Hand.sn]; first | done | with_reducible assumption | omega))) only [Hand.q2, Hand.q1, Hand.q5, Hand.q6, Hand.q4, Hand.q3, g_G]; done) | (simp (disch := first | with_reducible assumption | (with_reducible first | exact Nat.ne_of_lt (by assumption) | exact Nat.ne_of_gt (by assumption) | exact Ne.symm (by assumption)) | ((fail_if_success (refine Hand.trip (by with_reducible rfl) ?_)); first | omega | (simp only [Hand.sa, Hand.ss, Hand.sd, Hand.sn]; first | done | with_reducible assumption | omega))) only [Hand.q2, Hand.q1, Hand.q5, Hand.q6, Hand.q4, Hand.q3, g_G]; rfl)
  have h_P : W.heap[w2.heap.size]? = some (.cells #[.int .u64 (hiN p), .int .u64 (loN p)] 85 (0, 0)) := by
    rw [hW]
    first | (simp (disch := first | with_reducible assumption | (with_reducible first | exact Nat.ne_of_lt (by assumption) | exact Nat.ne_of_gt (by assumption) | exact Ne.symm (by assumption)) | ((fail_if_success (refine Hand.trip (by with_reducible rfl) ?_)); first | omega | (simp only [Hand.sa, Hand.ss, Hand.sd, Hand.sn]; first | done | with_reducible assumption | omega))) only [Hand.q2, Hand.q1, Hand.q5, Hand.q6, Hand.q4, Hand.q3, g_P]; done) | (simp (disch := first | with_reducible assumption | (with_reducible first | exact Nat.ne_of_lt (by assumption) | exact Nat.ne_of_gt (by assumption) | exact Ne.symm (by assumption)) | ((fail_if_success (refine Hand.trip (by with_reducible rfl) ?_)); first | omega | (simp only [Hand.sa, Hand.ss, Hand.sd, Hand.sn]; first | done | with_reducible assumption | omega))) only [Hand.q2, Hand.q1, Hand.q5, Hand.q6, Hand.q4, Hand.q3, g_P]; rfl)
  have h_Q : W.heap[w3.heap.size]? = some (.cells #[.int .u64 (hiN q), .int .u64 (loN q)] 85 (0, 0)) := by
    rw [hW]
    first | (simp (disch := first | with_reducible assumption | (with_reducible first | exact Nat.ne_of_lt (by assumption) | exact Nat.ne_of_gt (by assumption) | exact Ne.symm (by assumption)) | ((fail_if_success (refine Hand.trip (by with_reducible rfl) ?_)); first | omega | (simp only [Hand.sa, Hand.ss, Hand.sd, Hand.sn]; first | done | with_reducible assumption | omega))) only [Hand.q2, Hand.q1, Hand.q5, Hand.q6, Hand.q4, Hand.q3]; done) | (simp (disch := first | with_reducible assumption | (with_reducible first | exact Nat.ne_of_lt (by assumption) | exact Nat.ne_of_gt (by assumption) | exact Ne.symm (by assumption)) | ((fail_if_success (refine Hand.trip (by with_reducible rfl) ?_)); first | omega | (simp only [Hand.sa, Hand.ss, Hand.sd, Hand.sn]; first | done | with_reducible assumption | omega))) only [Hand.q2, Hand.q1, Hand.q5, Hand.q6, Hand.q4, Hand.q3]; rfl)
  have hB' : Below w.heap.size w W := by
    rw [hW]
    repeat (first | exact hB | (with_reducible first | apply Below.drew | apply pw_below_drewN | refine Below.setCell ?_ (by dsimp only; omega) _ | refine Below.alloc ?_ (by first | omega | (simp only [Hand.sa, Hand.ss, Hand.sd, Hand.sn]; omega)) _))
  clear HG hB g_A g_R g_G g_P zw z_A z1_A z2_A y0_A y1_A c_A_0 f_A_0 c_A_1 f_A_1 c_A_2 f_A_2 c_A_3 f_A_3 c_A_4 f_A_4 z_R z1_R z2_R y0_R y1_R c_R_0 f_R_0 c_R_1 f_R_1 z_G z1_G z2_G y0_G y1_G c_G_0 f_G_0 c_G_1 f_G_1 z_P z1_P z2_P y0_P y1_P c_P_0 f_P_0 c_P_1 f_P_1
  clear hW
  have g_A := h_A
  have g_R := h_R
  have g_G := h_G
  have g_P := h_P
  have g_Q := h_Q
  have hB := hB'
  clear hB' h_A h_R h_G h_P h_Q
  obtain ⟨z_A, z1_A, z2_A, y0_A, y1_A⟩ := Hand.hz g_A
  obtain ⟨c_A_0, f_A_0, c_A_1, f_A_1, c_A_2, f_A_2, c_A_3, f_A_3, c_A_4, f_A_4⟩ := Hand.hc5 g_A
  obtain ⟨z_R, z1_R, z2_R, y0_R, y1_R⟩ := Hand.hz g_R
  obtain ⟨c_R_0, f_R_0, c_R_1, f_R_1⟩ := Hand.hc2 g_R
  obtain ⟨z_G, z1_G, z2_G, y0_G, y1_G⟩ := Hand.hz g_G
  obtain ⟨c_G_0, f_G_0, c_G_1, f_G_1⟩ := Hand.hc2 g_G
  obtain ⟨z_P, z1_P, z2_P, y0_P, y1_P⟩ := Hand.hz g_P
  obtain ⟨c_P_0, f_P_0, c_P_1, f_P_1⟩ := Hand.hc2 g_P
  obtain ⟨z_Q, z1_Q, z2_Q, y0_Q, y1_Q⟩ := Hand.hz g_Q
  obtain ⟨c_Q_0, f_Q_0, c_Q_1, f_Q_1⟩ := Hand.hc2 g_Q
  have zw : w.heap.size ≤ W.heap.size := hB.size
  have HG := Lib.hid (And.intro g_A (And.intro g_R (And.intro g_G (And.intro g_P (And.intro g_Q (hB))))))
  clear g_A g_R g_G g_P g_Q hB
  have K0 : W.cell? ⟨w2.heap.size, 0, none⟩ = some (.int .u64 (hiN p)) ∧ W.cell? ⟨w2.heap.size, 1, none⟩ = some (.int .u64 (loN p)) ∧ W.cell? ⟨w3.heap.size, 0, none⟩ = some (.int .u64 (hiN q)) ∧ W.cell? ⟨w3.heap.size, 1, none⟩ = some (.int .u64 (loN q)) := ⟨c_P_0, c_P_1, c_Q_0, c_Q_1⟩
  have HK := Lib.hid K0
  have BD : Below W.heap.size W W.drew := Below.drew (Below.refl _ _)
  clear K0
  go_region_held3 (fun w' => Below W.heap.size W w' ∧ w'.cell? ⟨w2.heap.size, 0, none⟩ = some (.int .u64 (hiN p)) ∧ w'.cell? ⟨w2.heap.size, 1, none⟩ = some (.int .u64 (loN p)) ∧ w'.cell? ⟨w3.heap.size, 0, none⟩ = some (.int .u64 (hiN q)) ∧ w'.cell? ⟨w3.heap.size, 1, none⟩ = some (.int .u64 (loN q))) (first | exact Hand.keep4 (Below.refl _ _) z_P z_Q HK.out | exact Hand.keep4 (Below.drew (Below.refl _ _)) z_P z_Q HK.out | exact Hand.keep4 BB z_P z_Q HK.out) (first | (go_at_call 87; ((with_reducible refine (small62 _).mono ?_); rintro e w4 ⟨rfl, hb⟩; have BB := Hand.stepB hb (by assumption) (Nat.le_refl _); clear hb)) | (go_at_call 52; ((with_reducible refine (cmp_any p 4611686018427387904 _).mono ?_); rintro e w5 ⟨rfl, hb⟩; have BB := Hand.stepB hb (by assumption) (Nat.le_refl _); clear hb)) | (go_at_call 87; ((with_reducible refine (small31 _).mono ?_); rintro e w6 ⟨rfl, hb⟩; have BB := Hand.stepB hb (by assumption) (Nat.le_refl _); clear hb)) | (go_at_call 52; ((with_reducible refine (cmp_any q 2147483648 _).mono ?_); rintro e w7 ⟨rfl, hb⟩; have BB := Hand.stepB hb (by assumption) (Nat.le_refl _); clear hb)))
  obtain ⟨g_A, g_R, g_G, g_P, g_Q, hB⟩ := HG.out
  have h_A : w7.heap[w.heap.size]? = some (.cells #[.bool neg, .int .u64 (hiN n), .int .u64 (loN n), .int .u64 (hiN d), .int .u64 (loN d)] 114 (0, 0)) := by
    refine Hand.kb BB ?_; first | with_reducible exact g_A | (simp (disch := first | omega | (simp only [Hand.sa, Hand.ss, Hand.sd, Hand.sn]; first | done | omega)) only [Hand.q2, Hand.q1, Hand.q5, Hand.q6, Hand.q4, Hand.q3, g_A] <;> rfl)
  have h_R : w7.heap[w.heap.size + 1]? = some (.cells #[.int .i64 0, .int .i64 0] 31 (0, 0)) := by
    refine Hand.kb BB ?_; first | with_reducible exact g_R | (simp (disch := first | omega | (simp only [Hand.sa, Hand.ss, Hand.sd, Hand.sn]; first | done | omega)) only [Hand.q2, Hand.q1, Hand.q5, Hand.q6, Hand.q4, Hand.q3, g_R] <;> rfl)
  have h_G : w7.heap[w1.heap.size]? = some (.cells #[.int .u64 (hiN g), .int .u64 (loN g)] 85 (0, 0)) := by
    refine Hand.kb BB ?_; first | with_reducible exact g_G | (simp (disch := first | omega | (simp only [Hand.sa, Hand.ss, Hand.sd, Hand.sn]; first | done | omega)) only [Hand.q2, Hand.q1, Hand.q5, Hand.q6, Hand.q4, Hand.q3, g_G] <;> rfl)
  have h_P : w7.heap[w2.heap.size]? = some (.cells #[.int .u64 (hiN p), .int .u64 (loN p)] 85 (0, 0)) := by
    refine Hand.kb BB ?_; first | with_reducible exact g_P | (simp (disch := first | omega | (simp only [Hand.sa, Hand.ss, Hand.sd, Hand.sn]; first | done | omega)) only [Hand.q2, Hand.q1, Hand.q5, Hand.q6, Hand.q4, Hand.q3, g_P] <;> rfl)
  have h_Q : w7.heap[w3.heap.size]? = some (.cells #[.int .u64 (hiN q), .int .u64 (loN q)] 85 (0, 0)) := by
    refine Hand.kb BB ?_; first | with_reducible exact g_Q | (simp (disch := first | omega | (simp only [Hand.sa, Hand.ss, Hand.sd, Hand.sn]; first | done | omega)) only [Hand.q2, Hand.q1, Hand.q5, Hand.q6, Hand.q4, Hand.q3, g_Q] <;> rfl)
  have hB' : Below w.heap.size w w7 := Hand.stepB BB (by repeat (with_reducible first | apply hB | apply Below.drew | apply pw_below_drewN | (apply Below.setCell; rotate_left; (dsimp only; omega)) | (apply Below.alloc; rotate_left; (first | omega | (simp only [Hand.sa, Hand.ss, Hand.sd, Hand.sn]; omega))))) (Nat.le_refl _)
  clear HG hB g_A g_R g_G g_P g_Q zw z_A z1_A z2_A y0_A y1_A c_A_0 f_A_0 c_A_1 f_A_1 c_A_2 f_A_2 c_A_3 f_A_3 c_A_4 f_A_4 z_R z1_R z2_R y0_R y1_R c_R_0 f_R_0 c_R_1 f_R_1 z_G z1_G z2_G y0_G y1_G c_G_0 f_G_0 c_G_1 f_G_1 z_P z1_P z2_P y0_P y1_P c_P_0 f_P_0 c_P_1 f_P_1 z_Q z1_Q z2_Q y0_Q y1_Q c_Q_0 f_Q_0 c_Q_1 f_Q_1
  clear BB
  have g_A := h_A
  have g_R := h_R
  have g_G := h_G
  have g_P := h_P
  have g_Q := h_Q
  have hB := hB'
  clear hB' h_A h_R h_G h_P h_Q
  obtain ⟨z_A, z1_A, z2_A, y0_A, y1_A⟩ := Hand.hz g_A
  obtain ⟨c_A_0, f_A_0, c_A_1, f_A_1, c_A_2, f_A_2, c_A_3, f_A_3, c_A_4, f_A_4⟩ := Hand.hc5 g_A
  obtain ⟨z_R, z1_R, z2_R, y0_R, y1_R⟩ := Hand.hz g_R
  obtain ⟨c_R_0, f_R_0, c_R_1, f_R_1⟩ := Hand.hc2 g_R
  obtain ⟨z_G, z1_G, z2_G, y0_G, y1_G⟩ := Hand.hz g_G
  obtain ⟨c_G_0, f_G_0, c_G_1, f_G_1⟩ := Hand.hc2 g_G
  obtain ⟨z_P, z1_P, z2_P, y0_P, y1_P⟩ := Hand.hz g_P
  obtain ⟨c_P_0, f_P_0, c_P_1, f_P_1⟩ := Hand.hc2 g_P
  obtain ⟨z_Q, z1_Q, z2_Q, y0_Q, y1_Q⟩ := Hand.hz g_Q
  obtain ⟨c_Q_0, f_Q_0, c_Q_1, f_Q_1⟩ := Hand.hc2 g_Q
  have zw : w.heap.size ≤ w7.heap.size := hB.size
  have HG := Lib.hid (And.intro g_A (And.intro g_R (And.intro g_G (And.intro g_P (And.intro g_Q (hB))))))
  clear g_A g_R g_G g_P g_Q hB
  cases neg
  · go_wp2
    obtain ⟨g_A, g_R, g_G, g_P, g_Q, hB⟩ := HG.out
    refine bodyPost_ret (results_ct rfl _ _ (w.heap.size + 1) 31 #[.int .i64 (p : Int), .int .i64 (q : Int)] (0, 0) _ rfl ?_ Try.underlying31 rfl (by kernel_rfl)) rfl ⟨rfl, ?_⟩
    · simp (disch := first | omega | (simp only [Hand.sa, Hand.ss, Hand.sd, Hand.sn]; first | done | omega)) only [Hand.q4, Hand.q1, g_R]; rfl
    · refine Below.alloc ?_ (by simp only [World.size_setCell]; omega) _
      exact (hB.setCell (by dsimp only; omega) _).setCell (by dsimp only; omega) _
  · go_wp2
    obtain ⟨g_A, g_R, g_G, g_P, g_Q, hB⟩ := HG.out
    refine bodyPost_ret (results_ct rfl _ _ (w.heap.size + 1) 31 #[.int .i64 (-(p : Int)), .int .i64 (q : Int)] (0, 0) _ rfl ?_ Try.underlying31 rfl (by kernel_rfl)) rfl ⟨rfl, ?_⟩
    · simp (disch := first | omega | (simp only [Hand.sa, Hand.ss, Hand.sd, Hand.sn]; first | done | omega)) only [Hand.q4, Hand.q1, g_R]; rfl
    · refine Below.alloc ?_ (by simp only [World.size_setCell]; omega) _
      exact (hB.setCell (by dsimp only; omega) _).setCell (by dsimp only; omega) _
theorem wrap64_loN {x : Nat} (h : x ≤ 4611686018427387904) : wrap64 (loN x) = (x : Int) := by rw [loN_small (by omega)]; unfold wrap64; omega
theorem cmpN_pos {x y : Nat} : decide (0 < cmpN x y) = decide (y < x) := by
  unfold cmpN
  by_cases h : x = y
  · subst h; simp
  · rw [if_neg h]
    by_cases h2 : x < y
    · rw [if_pos h2]; simp; omega
    · rw [if_neg h2]; simp; omega
/-- fit: a fraction's lowest terms, if they are those of a right ratio -/
theorem fit_any (neg : Bool) (n d : Nat) (hn : n < 340282366920938463463374607431768211456) (hd : d < 340282366920938463463374607431768211456) (hd0 : 0 < d) (w : World) :
    Calls Try.prog 84 #[.agg #[.bool neg, .int .u64 (hiN n), .int .u64 (loN n), .int .u64 (hiN d), .int .u64 (loN d)]] w fun e w' =>
      e = .returned (.tuple #[.agg #[.int .i64 (fitS neg n d).1, .int .i64 (fitS neg n d).2.1], .int .i64 (fitS neg n d).2.2]) ∧ Below w.heap.size w w' := by
  unfold fitS
  by_cases h1 : n / Nat.gcd n d ≤ 4611686018427387904
  · by_cases h2 : d / Nat.gcd n d ≤ 2147483648
    · rw [if_pos ⟨h1, h2⟩]
      exact fit_ok neg n d _ _ _ _ _ hn hd hd0 w rfl rfl rfl rfl rfl (by rw [cmpN_pos]; exact decide_eq_false (by omega)) (by rw [cmpN_pos]; exact decide_eq_false (by omega)) (by omega)
        (wrap64_loN h1) (wrap64_loN (Nat.le_trans h2 (by omega)))
    · rw [if_neg (by omega)]
      exact fit_wide2 neg n d _ _ _ _ _ hn hd hd0 w rfl rfl rfl rfl rfl (by rw [cmpN_pos]; exact decide_eq_false (by omega)) (by rw [cmpN_pos]; exact decide_eq_true (by omega))
  · rw [if_neg (by omega)]
    exact fit_wide neg n d _ _ _ _ _ hn hd hd0 w rfl rfl rfl rfl rfl (by rw [cmpN_pos]; exact decide_eq_true (by omega))
end Go.Proofs.Ythlpaglldhgmfaa.PA
