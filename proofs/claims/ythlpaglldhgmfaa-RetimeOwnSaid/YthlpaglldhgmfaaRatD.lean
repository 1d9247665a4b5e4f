/- New, Right, right. -/
import Derived.Test.YthlpaglldhgmfaaRatC
namespace Go.Proofs.Ythlpaglldhgmfaa.PA
open Go.RowKit Go.Proofs.YthlpaglldhgmfaaW.PrintWords Go.Proofs.YthlpaglldhgmfaaW.PrintLast Go.Proofs.YthlpaglldhgmfaaW.PrintMore
attribute [local go_sem high] eqA85
set_option linter.unusedSimpArgs false
set_option linter.unusedVariables false
/-- n / d, told -/
def newS (n d : Int) : Int × Int × Int := if d = 0 then (0, 0, 11) else fitS (decide (n < 0) != decide (d < 0)) n.natAbs d.natAbs
set_option maxHeartbeats 800000 in
set_option maxRecDepth 100000 in
theorem new_zero (n : Int) (w : World) :
    Calls Try.prog 49 #[.int .i64 n, .int .i64 0] w fun e w' => e = .returned (.tuple #[.agg #[.int .i64 0, .int .i64 0], .int .i64 11]) ∧ Below w.heap.size w w' := by
  go_enter Try.func49, Try.ntmps49
  go_wp2
  refine bodyPost_ret (v := .tuple #[.agg #[.int .i64 0, .int .i64 0], .int .i64 11]) (by simp [results, Try.results49, go_sem]) rfl ⟨rfl, ?_⟩
  exact (Below.refl _ _).alloc (Nat.le_refl _) _
set_option maxHeartbeats 800000 in
set_option maxRecDepth 100000 in
theorem new_some (n d x y z : Int) (a b : Nat) (neg : Bool) (w : World) (hd : (d == 0) = false) (hn0 : -9223372036854775808 ≤ n) (hn1 : n ≤ 9223372036854775807) (hd0 : -9223372036854775808 ≤ d) (hd1 : d ≤ 9223372036854775807)
    (ha : n.natAbs = a) (hb : d.natAbs = b) (hneg : (!(decide (n < 0) == decide (d < 0))) = neg) (hf : fitS neg a b = (x, y, z)) :
    Calls Try.prog 49 #[.int .i64 n, .int .i64 d] w fun e w' => e = .returned (.tuple #[.agg #[.int .i64 x, .int .i64 y], .int .i64 z]) ∧ Below w.heap.size w w' := by
  have hd' : d ≠ 0 := by simpa using hd
  have ha2 : a < 18446744073709551616 := by omega
  have hb2 : b < 18446744073709551616 := by omega
  have hb0 : 0 < b := by omega
  have HF := Lib.hid hf
  have HA := Lib.hid (And.intro ha hb)
  clear hf ha hb
  go_enter Try.func49, Try.ntmps49
  go_wp2_with fail
  with_reducible refine (size_any n hn0 hn1 _).mono ?_
  rintro e w1 ⟨rfl, hr1⟩
  obtain ⟨q1, rfl⟩ := hr1.out
  clear hr1
  rw [HA.out.1]
  go_wp2_with fail
  with_reducible refine (small_any a ha2 _).mono ?_
  rintro e w2 ⟨rfl, hb2⟩
  have h_R : w2.heap[w.heap.size]? = some (.cells #[.int .i64 0, .int .i64 0] 31 (0, 0)) := by
    refine Hand.kb hb2 ?_; simp (disch := first | omega | (simp only [Hand.sa, Hand.ss, Hand.sd, Hand.sn]; first | done | omega)) only [Hand.q2, Hand.q1, Hand.q5, Hand.q6, Hand.q4, Hand.q3] <;> rfl
  have hB' : Below w.heap.size w w2 := Hand.stepB hb2 (by repeat (with_reducible first | apply Below.refl _ _ | apply Below.drew | apply pw_below_drewN | (apply Below.setCell; rotate_left; (dsimp only; omega)) | (apply Below.alloc; rotate_left; (first | omega | (simp only [Hand.sa, Hand.ss, Hand.sd, Hand.sn]; omega))))) (Nat.le_refl _)
  clear hb2
  have g_R := h_R
  have hB := hB'
  clear hB' h_R
  obtain ⟨z_R, z1_R, z2_R, y0_R, y1_R⟩ := Hand.hz g_R
  obtain ⟨c_R_0, f_R_0, c_R_1, f_R_1⟩ := Hand.hc2 g_R
  have zw : w.heap.size ≤ w2.heap.size := hB.size
  have HG := Lib.hid (And.intro g_R (hB))
  clear g_R hB
  go_wp2_with fail
  with_reducible refine (size_any d hd0 hd1 _).mono ?_
  rintro e w3 ⟨rfl, hr3⟩
  obtain ⟨q3, rfl⟩ := hr3.out
  rw [HA.out.2]
  clear hr3
  go_wp2_with fail
  with_reducible refine (small_any b (by omega) _).mono ?_
  rintro e w4 ⟨rfl, hb4⟩
  obtain ⟨g_R, hB⟩ := HG.out
  have h_R : w4.heap[w.heap.size]? = some (.cells #[.int .i64 0, .int .i64 0] 31 (0, 0)) := by
    refine Hand.kb hb4 ?_; first | with_reducible exact g_R | (simp (disch := first | omega | (simp only [Hand.sa, Hand.ss, Hand.sd, Hand.sn]; first | done | omega)) only [Hand.q2, Hand.q1, Hand.q5, Hand.q6, Hand.q4, Hand.q3, g_R] <;> rfl)
  have hB' : Below w.heap.size w w4 := Hand.stepB hb4 (by repeat (with_reducible first | apply hB | apply Below.drew | apply pw_below_drewN | (apply Below.setCell; rotate_left; (dsimp only; omega)) | (apply Below.alloc; rotate_left; (first | omega | (simp only [Hand.sa, Hand.ss, Hand.sd, Hand.sn]; omega))))) (Nat.le_refl _)
  clear HG hB g_R zw z_R z1_R z2_R y0_R y1_R c_R_0 f_R_0 c_R_1 f_R_1
  clear hb4
  have g_R := h_R
  have hB := hB'
  clear hB' h_R
  obtain ⟨z_R, z1_R, z2_R, y0_R, y1_R⟩ := Hand.hz g_R
  obtain ⟨c_R_0, f_R_0, c_R_1, f_R_1⟩ := Hand.hc2 g_R
  have zw : w.heap.size ≤ w4.heap.size := hB.size
  have HG := Lib.hid (And.intro g_R (hB))
  clear g_R hB
  go_wp2_with fail
  with_reducible refine (fit_any neg a b (by omega) (by omega) hb0 _).mono ?_
  rintro e w5 ⟨rfl, hb5⟩
  rw [HF.out]
  obtain ⟨g_R, hB⟩ := HG.out
  have h_R : w5.heap[w.heap.size]? = some (.cells #[.int .i64 0, .int .i64 0] 31 (0, 0)) := by
    refine Hand.kb hb5 ?_; first | with_reducible exact g_R | (simp (disch := first | omega | (simp only [Hand.sa, Hand.ss, Hand.sd, Hand.sn]; first | done | omega)) only [Hand.q2, Hand.q1, Hand.q5, Hand.q6, Hand.q4, Hand.q3, g_R] <;> rfl)
  have hB' : Below w.heap.size w w5 := Hand.stepB hb5 (by repeat (with_reducible first | apply hB | apply Below.drew | apply pw_below_drewN | (apply Below.setCell; rotate_left; (dsimp only; omega)) | (apply Below.alloc; rotate_left; (first | omega | (simp only [Hand.sa, Hand.ss, Hand.sd, Hand.sn]; omega))))) (Nat.le_refl _)
  clear HG hB g_R zw z_R z1_R z2_R y0_R y1_R c_R_0 f_R_0 c_R_1 f_R_1
  clear hb5
  have g_R := h_R
  have hB := hB'
  clear hB' h_R
  obtain ⟨z_R, z1_R, z2_R, y0_R, y1_R⟩ := Hand.hz g_R
  obtain ⟨c_R_0, f_R_0, c_R_1, f_R_1⟩ := Hand.hc2 g_R
  have zw : w.heap.size ≤ w5.heap.size := hB.size
  have HG := Lib.hid (And.intro g_R (hB))
  clear g_R hB
  go_wp2
  obtain ⟨g_R, hB⟩ := HG.out
  refine bodyPost_ret (results_ct rfl _ _ (w.heap.size) 31 #[.int .i64 x, .int .i64 y] (0, 0) _ rfl ?_ Try.underlying31 rfl (by kernel_rfl)) rfl ⟨rfl, ?_⟩
  · simp (disch := omega) only [Hand.q1, g_R]; rfl
  · exact (hB.setCell (by dsimp only; omega) _).setCell (by dsimp only; omega) _
theorem new_any (n d : Int) (w : World) (hn0 : -9223372036854775808 ≤ n) (hn1 : n ≤ 9223372036854775807) (hd0 : -9223372036854775808 ≤ d) (hd1 : d ≤ 9223372036854775807) :
    Calls Try.prog 49 #[.int .i64 n, .int .i64 d] w fun e w' => e = .returned (.tuple #[.agg #[.int .i64 (newS n d).1, .int .i64 (newS n d).2.1], .int .i64 (newS n d).2.2]) ∧ Below w.heap.size w w' := by
  unfold newS
  by_cases h : d = 0
  · subst h; rw [if_pos rfl]; exact new_zero n w
  · rw [if_neg h]; exact new_some n d _ _ _ _ _ _ w (beq_eq_false_iff_ne.mpr h) hn0 hn1 hd0 hd1 rfl rfl rfl rfl
theorem eqA31 (d : Nat) (w : World) (x0 y0 : Int) (x1 y1 : Int) :
    (Op.equalIn (d + 2) 31 (.agg #[.int .i64 x0, .int .i64 x1]) (.agg #[.int .i64 y0, .int .i64 y1])).run Try.prog w = .ok (x0 == y0 && (x1 == y1)) w := by
  refine eqA_of Try.underlying31 (by kernel_rfl) ?_
  refine eqf_cons (by rfl) (by go_simp; rfl) (by go_simp; rfl) (by go_simp) ?_
  exact eqf_last (by rfl) (by go_simp; rfl) (by go_simp; rfl) (by go_simp)
attribute [local go_sem high] eqA31
/-- is n / d right? -/
def rightS (n d : Int) : Bool := decide (1 ≤ d) && decide (newS n d = (n, d, 0))
set_option maxHeartbeats 800000 in
set_option maxRecDepth 100000 in
theorem right_low (n d : Int) (w : World) (h : decide (d < 1) = true) :
    Calls Try.prog 17 #[.agg #[.int .i64 n, .int .i64 d]] w fun e w' => e = .returned (.bool false) ∧ Below w.heap.size w w' := by
  go_enter Try.func17, Try.ntmps17
  go_wp2
  all_goals go_ret
  all_goals exact ⟨rfl, (Below.refl _ _).alloc (Nat.le_refl _) _⟩
set_option maxHeartbeats 800000 in
set_option maxRecDepth 100000 in
theorem right_err (n d x y z : Int) (w : World) (h : decide (d < 1) = false) (hn0 : -9223372036854775808 ≤ n) (hn1 : n ≤ 9223372036854775807) (hd0 : -9223372036854775808 ≤ d) (hd1 : d ≤ 9223372036854775807)
    (hs : newS n d = (x, y, z)) (hz : (z == 0) = false) :
    Calls Try.prog 17 #[.agg #[.int .i64 n, .int .i64 d]] w fun e w' => e = .returned (.bool false) ∧ Below w.heap.size w w' := by
  have HS := Lib.hid hs
  clear hs
  go_enter Try.func17, Try.ntmps17
  go_wp2_with fail
  with_reducible refine (new_any n d _ hn0 hn1 hd0 hd1).mono ?_
  rintro e w1 ⟨rfl, hb1⟩
  rw [HS.out]
  have h_R : w1.heap[w.heap.size]? = some (.cells #[.int .i64 n, .int .i64 d] 31 (0, 0)) := by
    refine Hand.kb hb1 ?_; simp (disch := first | omega | (simp only [Hand.sa, Hand.ss, Hand.sd, Hand.sn]; first | done | omega)) only [Hand.q2, Hand.q1, Hand.q5, Hand.q6, Hand.q4, Hand.q3] <;> rfl
  have hB' : Below w.heap.size w w1 := Hand.stepB hb1 (by repeat (with_reducible first | apply Below.refl _ _ | apply Below.drew | apply pw_below_drewN | (apply Below.setCell; rotate_left; (dsimp only; omega)) | (apply Below.alloc; rotate_left; (first | omega | (simp only [Hand.sa, Hand.ss, Hand.sd, Hand.sn]; omega))))) (Nat.le_refl _)
  clear hb1
  have g_R := h_R
  have hB := hB'
  clear hB' h_R
  obtain ⟨z_R, z1_R, z2_R, y0_R, y1_R⟩ := Hand.hz g_R
  obtain ⟨c_R_0, f_R_0, c_R_1, f_R_1⟩ := Hand.hc2 g_R
  have zw : w.heap.size ≤ w1.heap.size := hB.size
  have HG := Lib.hid (And.intro g_R (hB))
  clear g_R hB
  go_wp2
  obtain ⟨g_R, hB⟩ := HG.out
  go_ret
  exact ⟨rfl, hB.alloc (by omega) _⟩
set_option maxHeartbeats 800000 in
set_option maxRecDepth 100000 in
theorem right_ok (n d x y : Int) (w : World) (h : decide (d < 1) = false) (hn0 : -9223372036854775808 ≤ n) (hn1 : n ≤ 9223372036854775807) (hd0 : -9223372036854775808 ≤ d) (hd1 : d ≤ 9223372036854775807)
    (hs : newS n d = (x, y, 0)) :
    Calls Try.prog 17 #[.agg #[.int .i64 n, .int .i64 d]] w fun e w' => e = .returned (.bool (x == n && y == d)) ∧ Below w.heap.size w w' := by
  have HS := Lib.hid hs
  clear hs
  go_enter Try.func17, Try.ntmps17
  go_wp2_with fail
  with_reducible refine (new_any n d _ hn0 hn1 hd0 hd1).mono ?_
  rintro e w1 ⟨rfl, hb1⟩
  rw [HS.out]
  have h_R : w1.heap[w.heap.size]? = some (.cells #[.int .i64 n, .int .i64 d] 31 (0, 0)) := by
    refine Hand.kb hb1 ?_; simp (disch := first | omega | (simp only [Hand.sa, Hand.ss, Hand.sd, Hand.sn]; first | done | omega)) only [Hand.q2, Hand.q1, Hand.q5, Hand.q6, Hand.q4, Hand.q3] <;> rfl
  have hB' : Below w.heap.size w w1 := Hand.stepB hb1 (by repeat (with_reducible first | apply Below.refl _ _ | apply Below.drew | apply pw_below_drewN | (apply Below.setCell; rotate_left; (dsimp only; omega)) | (apply Below.alloc; rotate_left; (first | omega | (simp only [Hand.sa, Hand.ss, Hand.sd, Hand.sn]; omega))))) (Nat.le_refl _)
  clear hb1
  have g_R := h_R
  have hB := hB'
  clear hB' h_R
  obtain ⟨z_R, z1_R, z2_R, y0_R, y1_R⟩ := Hand.hz g_R
  obtain ⟨c_R_0, f_R_0, c_R_1, f_R_1⟩ := Hand.hc2 g_R
  have zw : w.heap.size ≤ w1.heap.size := hB.size
  have HG := Lib.hid (And.intro g_R (hB))
  clear g_R hB
  go_wp2
  obtain ⟨g_R, hB⟩ := HG.out
  go_ret
  exact ⟨rfl, hB.alloc (by omega) _⟩
theorem right_any (n d : Int) (w : World) (hn0 : -9223372036854775808 ≤ n) (hn1 : n ≤ 9223372036854775807) (hd0 : -9223372036854775808 ≤ d) (hd1 : d ≤ 9223372036854775807) :
    Calls Try.prog 17 #[.agg #[.int .i64 n, .int .i64 d]] w fun e w' => e = .returned (.bool (rightS n d)) ∧ Below w.heap.size w w' := by
  unfold rightS
  by_cases h : 1 ≤ d
  · obtain ⟨x, y, z, hs⟩ : ∃ x y z, newS n d = (x, y, z) := ⟨_, _, _, rfl⟩
    rw [hs, decide_eq_true h]
    by_cases hz : z = 0
    · subst hz
      have e : (true && decide ((x, y, (0 : Int)) = (n, d, 0))) = (x == n && y == d) := by
        rw [Bool.eq_iff_iff]; simp
      rw [e]
      exact right_ok n d x y w (decide_eq_false (by omega)) hn0 hn1 hd0 hd1 hs
    · have e : (true && decide ((x, y, z) = (n, d, 0))) = false := by simp [hz]
      rw [e]
      exact right_err n d x y z w (decide_eq_false (by omega)) hn0 hn1 hd0 hd1 hs (beq_eq_false_iff_ne.mpr hz)
  · rw [decide_eq_false h]
    exact right_low n d w (decide_eq_true (by omega))
end Go.Proofs.Ythlpaglldhgmfaa.PA
