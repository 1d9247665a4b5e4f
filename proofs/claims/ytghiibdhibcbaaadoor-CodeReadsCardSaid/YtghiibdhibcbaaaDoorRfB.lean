/- The reference: full, last, left, out, wide, grid, lowest, Grid, Time, Timed, Frame. -/
import Derived.Test.YtghiibdhibcbaaaDoorRfA
import Derived.Test.YtghiibdhibcbaaaDoorCodH
import Derived.StillTailTactics
namespace Go.Proofs.YtghiibdhibcbaaaDoor.PA
open Go Go.RowKit Go.Proofs.YtghiibdhibcbaaaDoorW.PrintWords Go.Proofs.YtghiibdhibcbaaaDoorW.PrintLast Go.Proofs.YtghiibdhibcbaaaDoorW.PrintMore Go.Proofs.YtghiibdhibcbaaaDoor.CS
set_option linter.unusedSimpArgs false
set_option linter.unusedVariables false
set_option maxHeartbeats 800000 in
set_option maxRecDepth 100000 in
theorem rgrid_1  (w : World) :
    Calls Tryd.prog 66 #[.int .i64 1] w fun e w' => e = .returned (.int .i64 1000) ∧ Below w.heap.size w w' := by
  go_enter Tryd.func66, Tryd.ntmps66
  go_wp2
  go_ret
  exact ⟨rfl, bw (Below.refl _ _)⟩
set_option maxHeartbeats 800000 in
set_option maxRecDepth 100000 in
theorem rgrid_2  (w : World) :
    Calls Tryd.prog 66 #[.int .i64 2] w fun e w' => e = .returned (.int .i64 1000) ∧ Below w.heap.size w w' := by
  go_enter Tryd.func66, Tryd.ntmps66
  go_wp2
  go_ret
  exact ⟨rfl, bw (Below.refl _ _)⟩
set_option maxHeartbeats 800000 in
set_option maxRecDepth 100000 in
theorem rgrid_4  (w : World) :
    Calls Tryd.prog 66 #[.int .i64 4] w fun e w' => e = .returned (.int .i64 100) ∧ Below w.heap.size w w' := by
  go_enter Tryd.func66, Tryd.ntmps66
  go_wp2
  go_ret
  exact ⟨rfl, bw (Below.refl _ _)⟩
set_option maxHeartbeats 800000 in
set_option maxRecDepth 100000 in
theorem rgrid_0 (f : Int) (h1 : (f == 1) = false) (h2 : (f == 2) = false) (h4 : (f == 4) = false) (w : World) :
    Calls Tryd.prog 66 #[.int .i64 f] w fun e w' => e = .returned (.int .i64 0) ∧ Below w.heap.size w w' := by
  go_enter Tryd.func66, Tryd.ntmps66
  go_wp2
  go_ret
  exact ⟨rfl, bw (Below.refl _ _)⟩
set_option maxHeartbeats 800000 in
set_option maxRecDepth 100000 in
theorem rlowest_of (n d g p q : Int) (n0 : 0 ≤ n) (n1 : n ≤ 9000000000000000000) (d0 : 0 ≤ d) (d1 : d ≤ 9000000000000000000) (g0 : 1 ≤ g) (hp : n / g = p) (hq : d / g = q) (p0 : 0 ≤ p) (p1 : p ≤ 9000000000000000000) (q0 : 0 ≤ q) (q1 : q ≤ 9000000000000000000) (w : World)
    (m1 : ∀ w, Calls Tryd.prog 68 #[.int .i64 n, .int .i64 d] w fun e w' => e = .returned (.int .i64 g) ∧ Below w.heap.size w w') :
    Calls Tryd.prog 50 #[.int .i64 n, .int .i64 d] w fun e w' => e = .returned (.agg #[.int .i64 p, .int .i64 q]) ∧ Below w.heap.size w w' := by
  have hg2 : ¬ g = 0 := by omega
  have M1 := Lib.hid m1
  clear m1
  go_enter Tryd.func50, Tryd.ntmps50
  go_wp2_with fail
  with_reducible refine (M1.out _).mono ?_
  rintro e w1 ⟨rfl, hb1⟩
  have h_R : w1.heap[w.heap.size]? = some (.cells #[.int .i64 0, .int .i64 0] 26 (0, 0)) := by
    refine Hand.kb hb1 ?_; simp (disch := first | omega | (simp only [Hand.sa, Hand.ss, Hand.sd, Hand.sn]; first | done | omega)) only [Hand.q2, Hand.q1, Hand.q5, Hand.q6, Hand.q4, Hand.q3] <;> rfl
  have hB' : Below w.heap.size w w1 := Hand.stepB hb1 (by repeat (with_reducible first | apply Below.refl _ _ | apply Below.drew | apply pw_below_drewN | (apply Below.setCell; rotate_left; (dsimp only; omega)) | (apply Below.alloc; rotate_left; (first | omega | (simp only [Hand.sa, Hand.ss, Hand.sd, Hand.sn]; omega))))) (Nat.le_refl _)
  clear hb1
  have g_R := h_R
  have hB := hB'
  clear hB' h_R
  obtain ⟨z_R, z1_R, z2_R, y0_R, y1_R⟩ := Hand.hz g_R
  obtain ⟨c_R_0, f_R_0, c_R_1, f_R_1⟩ := Hand.hc2 g_R
  have zw : w.heap.size ≤ w1.heap.size := hB.size
  have HG := Lib.hid (And.intro g_R (hB))
  clear g_R hB
  go_wp2
  have e1 : IntKind.i64.wrap (n.tdiv g) = p := by rw [Int.tdiv_eq_ediv_of_nonneg n0, hp, IntKind.wrap_i64]; omega
  have e2 : IntKind.i64.wrap (d.tdiv g) = q := by rw [Int.tdiv_eq_ediv_of_nonneg d0, hq, IntKind.wrap_i64]; omega
  go_still_tail 7, (by kernel_rfl)
  change wpList _ _ _ _ _ w1.drew
  go_wp2
  obtain ⟨g_R, hB⟩ := HG.out
  refine bodyPost_ret (results_cell_row rfl _ _ (w.heap.size) 26 #[.int .i64 p, .int .i64 q] (0, 0) _ rfl ?_ Tryd.underlying26 rfl (by kernel_rfl)) rfl ⟨rfl, ?_⟩
  · simp (disch := omega) only [Hand.q5, Hand.q1, g_R]; rfl
  · exact Below.drew ((hB.setCell (by dsimp only; omega) _).setCell (by dsimp only; omega) _)
end Go.Proofs.YtghiibdhibcbaaaDoor.PA
