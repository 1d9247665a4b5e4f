/- RatioNear, walked: one theorem for each way through it. -/
import Derived.Test.YtofndakpenpkbaaDoorRatP
import Derived.Test.YtofndakpenpkbaaDoorStrE
import Derived.OpenShut
namespace Go.Proofs.YtofndakpenpkbaaDoor.PA
open Go.RowKit Go.ChangeShapes Go.WideShapes Go.Proofs.YtofndakpenpkbaaDoorW.PrintWords Go.Proofs.YtofndakpenpkbaaDoorW.PrintLast Go.Proofs.YtofndakpenpkbaaDoorW.PrintMore
attribute [local go_sem high] eqA24
set_option linter.unusedSimpArgs false
set_option linter.unusedVariables false
/-- a call gives a ratio and an error number -/
def RT (f : Nat) (args : Array Value) (p q r : Int) : Prop := ∀ w, Calls Tryd.prog f args w fun e w' => e = .returned (.tuple #[.agg #[.int .i64 p, .int .i64 q], .int .i64 r]) ∧ Below w.heap.size w w'
theorem RT.out {f : Nat} {args : Array Value} {p q r : Int} (h : RT f args p q r) (w : World) : Calls Tryd.prog f args w fun e w' => e = .returned (.tuple #[.agg #[.int .i64 p, .int .i64 q], .int .i64 r]) ∧ Below w.heap.size w w' := h w
def RI (f : Nat) (args : Array Value) (n : Int) : Prop := ∀ w, Calls Tryd.prog f args w fun e w' => e = .returned (.int .i64 n) ∧ Below w.heap.size w w'
theorem RI.out {f : Nat} {args : Array Value} {n : Int} (h : RI f args n) (w : World) : Calls Tryd.prog f args w fun e w' => e = .returned (.int .i64 n) ∧ Below w.heap.size w w' := h w
def RB (f : Nat) (args : Array Value) (b : Bool) : Prop := ∀ w, Calls Tryd.prog f args w fun e w' => e = .returned (.bool b) ∧ Below w.heap.size w w'
theorem RB.out {f : Nat} {args : Array Value} {b : Bool} (h : RB f args b) (w : World) : Calls Tryd.prog f args w fun e w' => e = .returned (.bool b) ∧ Below w.heap.size w w' := h w
def RQ (f : Nat) (args : Array Value) (b : Bool) : Prop := ∀ w, Calls Tryd.prog f args w fun e w' => e = .returned (.bool b) ∧ w' = w
theorem RQ.out {f : Nat} {args : Array Value} {b : Bool} (h : RQ f args b) (w : World) : Calls Tryd.prog f args w fun e w' => e = .returned (.bool b) ∧ w' = w := h w
theorem RQ.rb {f : Nat} {args : Array Value} {b : Bool} (h : RQ f args b) : RB f args b := fun w => (h w).mono fun _ _ h => ⟨h.1, by rw [h.2]; exact Below.refl _ _⟩
theorem fine_q (r : Int) (b : Bool) (h : (r == 0) = b) : RQ 33 #[.int .i64 r] b := fun w => by
  go_enter Tryd.func33, Tryd.ntmps33
  go_wp2
  go_ret
  exact ⟨rfl, rfl⟩

set_option maxHeartbeats 8000000 in
set_option maxRecDepth 100000 in
theorem near_e1 (a b c d p1 q1 p3 q3 p2 q2 r1 r3 r2 : Int) (w : World)
    (K0 : RB 16 #[] true)
    (S1 : RT 42 #[.agg #[.int .i64 a, .int .i64 b], .agg #[.int .i64 c, .int .i64 d], .int .i64 1] p1 q1 r1)
    (S3 : RT 42 #[.agg #[.int .i64 a, .int .i64 b], .agg #[.int .i64 c, .int .i64 d], .int .i64 3] p3 q3 r3)
    (S2 : RT 42 #[.agg #[.int .i64 a, .int .i64 b], .agg #[.int .i64 c, .int .i64 d], .int .i64 2] p2 q2 r2)
    (F1 : RB 33 #[.int .i64 r1] false) :
    Calls Tryd.prog 12 #[.agg #[.int .i64 a, .int .i64 b], .agg #[.int .i64 c, .int .i64 d]] w fun e w' => e = .returned (.bool true) ∧ Below w.heap.size w w' := by
  go_enter Tryd.func12, Tryd.ntmps12
  go_wp2_with fail
  with_reducible refine (K0.out _).mono ?_
  rintro e w1 ⟨rfl, hb1⟩
  have h_R : w1.heap[w.heap.size]? = some (.cells #[.int .i64 a, .int .i64 b] 24 (0, 0)) := by
    refine Hand.kb hb1 ?_; simp (disch := first | omega | (simp only [Hand.sa, Hand.ss, Hand.sd, Hand.sn]; first | done | omega)) only [Hand.q2, Hand.q1, Hand.q5, Hand.q6, Hand.q4, Hand.q3] <;> rfl
  have h_G : w1.heap[w.heap.size + 1]? = some (.cells #[.int .i64 c, .int .i64 d] 24 (0, 0)) := by
    refine Hand.kb hb1 ?_; simp (disch := first | omega | (simp only [Hand.sa, Hand.ss, Hand.sd, Hand.sn]; first | done | omega)) only [Hand.q2, Hand.q1, Hand.q5, Hand.q6, Hand.q4, Hand.q3] <;> rfl
  have hB' : Below w.heap.size w w1 := Hand.stepB hb1 (by repeat (with_reducible first | apply Below.refl _ _ | apply Below.drew | apply pw_below_drewN | (apply Below.setCell; rotate_left; (dsimp only; omega)) | (apply Below.alloc; rotate_left; (first | omega | (simp only [Hand.sa, Hand.ss, Hand.sd, Hand.sn]; omega))))) (Nat.le_refl _)
  clear hb1
  have g_R := h_R
  have g_G := h_G
  have hB := hB'
  clear hB' h_R h_G
  obtain ⟨z_R, z1_R, z2_R, y0_R, y1_R⟩ := Hand.hz g_R
  obtain ⟨c_R_0, f_R_0, c_R_1, f_R_1⟩ := Hand.hc2 g_R
  obtain ⟨z_G, z1_G, z2_G, y0_G, y1_G⟩ := Hand.hz g_G
  obtain ⟨c_G_0, f_G_0, c_G_1, f_G_1⟩ := Hand.hc2 g_G
  have zw : w.heap.size ≤ w1.heap.size := hB.size
  have HG := Lib.hid (And.intro g_R (And.intro g_G (hB)))
  clear g_R g_G hB
  go_wp2_with fail
  with_reducible refine (S1.out _).mono ?_
  rintro e w2 ⟨rfl, hb2⟩
  obtain ⟨g_R, g_G, hB⟩ := HG.out
  have h_R : w2.heap[w.heap.size]? = some (.cells #[.int .i64 a, .int .i64 b] 24 (0, 0)) := by
    refine Hand.kb hb2 ?_; first | with_reducible exact g_R | (simp (disch := first | omega | (simp only [Hand.sa, Hand.ss, Hand.sd, Hand.sn]; first | done | omega)) only [Hand.q2, Hand.q1, Hand.q5, Hand.q6, Hand.q4, Hand.q3, g_R] <;> rfl)
  have h_G : w2.heap[w.heap.size + 1]? = some (.cells #[.int .i64 c, .int .i64 d] 24 (0, 0)) := by
    refine Hand.kb hb2 ?_; first | with_reducible exact g_G | (simp (disch := first | omega | (simp only [Hand.sa, Hand.ss, Hand.sd, Hand.sn]; first | done | omega)) only [Hand.q2, Hand.q1, Hand.q5, Hand.q6, Hand.q4, Hand.q3, g_G] <;> rfl)
  have hB' : Below w.heap.size w w2 := Hand.stepB hb2 (by repeat (with_reducible first | apply hB | apply Below.drew | apply pw_below_drewN | (apply Below.setCell; rotate_left; (dsimp only; omega)) | (apply Below.alloc; rotate_left; (first | omega | (simp only [Hand.sa, Hand.ss, Hand.sd, Hand.sn]; omega))))) (Nat.le_refl _)
  clear HG hB g_R g_G zw z_R z1_R z2_R y0_R y1_R c_R_0 f_R_0 c_R_1 f_R_1 z_G z1_G z2_G y0_G y1_G c_G_0 f_G_0 c_G_1 f_G_1
  clear hb2
  have g_R := h_R
  have g_G := h_G
  have hB := hB'
  clear hB' h_R h_G
  obtain ⟨z_R, z1_R, z2_R, y0_R, y1_R⟩ := Hand.hz g_R
  obtain ⟨c_R_0, f_R_0, c_R_1, f_R_1⟩ := Hand.hc2 g_R
  obtain ⟨z_G, z1_G, z2_G, y0_G, y1_G⟩ := Hand.hz g_G
  obtain ⟨c_G_0, f_G_0, c_G_1, f_G_1⟩ := Hand.hc2 g_G
  have zw : w.heap.size ≤ w2.heap.size := hB.size
  have HG := Lib.hid (And.intro g_R (And.intro g_G (hB)))
  clear g_R g_G hB
  go_wp2_with fail
  with_reducible refine (S3.out _).mono ?_
  rintro e w3 ⟨rfl, hb3⟩
  obtain ⟨g_R, g_G, hB⟩ := HG.out
  have h_R : w3.heap[w.heap.size]? = some (.cells #[.int .i64 a, .int .i64 b] 24 (0, 0)) := by
    refine Hand.kb hb3 ?_; first | with_reducible exact g_R | (simp (disch := first | omega | (simp only [Hand.sa, Hand.ss, Hand.sd, Hand.sn]; first | done | omega)) only [Hand.q2, Hand.q1, Hand.q5, Hand.q6, Hand.q4, Hand.q3, g_R] <;> rfl)
  have h_G : w3.heap[w.heap.size + 1]? = some (.cells #[.int .i64 c, .int .i64 d] 24 (0, 0)) := by
    refine Hand.kb hb3 ?_; first | with_reducible exact g_G | (simp (disch := first | omega | (simp only [Hand.sa, Hand.ss, Hand.sd, Hand.sn]; first | done | omega)) only [Hand.q2, Hand.q1, Hand.q5, Hand.q6, Hand.q4, Hand.q3, g_G] <;> rfl)
  have h_L : w3.heap[w2.heap.size]? = some (.cells #[.int .i64 p1, .int .i64 q1] 24 (0, 0)) := by
    refine Hand.kb hb3 ?_; simp (disch := first | omega | (simp only [Hand.sa, Hand.ss, Hand.sd, Hand.sn]; first | done | omega)) only [Hand.q2, Hand.q1, Hand.q5, Hand.q6, Hand.q4, Hand.q3] <;> rfl
  have hB' : Below w.heap.size w w3 := Hand.stepB hb3 (by repeat (with_reducible first | apply hB | apply Below.drew | apply pw_below_drewN | (apply Below.setCell; rotate_left; (dsimp only; omega)) | (apply Below.alloc; rotate_left; (first | omega | (simp only [Hand.sa, Hand.ss, Hand.sd, Hand.sn]; omega))))) (Nat.le_refl _)
  clear HG hB g_R g_G zw z_R z1_R z2_R y0_R y1_R c_R_0 f_R_0 c_R_1 f_R_1 z_G z1_G z2_G y0_G y1_G c_G_0 f_G_0 c_G_1 f_G_1
  clear hb3
  have g_R := h_R
  have g_G := h_G
  have g_L := h_L
  have hB := hB'
  clear hB' h_R h_G h_L
  obtain ⟨z_R, z1_R, z2_R, y0_R, y1_R⟩ := Hand.hz g_R
  obtain ⟨c_R_0, f_R_0, c_R_1, f_R_1⟩ := Hand.hc2 g_R
  obtain ⟨z_G, z1_G, z2_G, y0_G, y1_G⟩ := Hand.hz g_G
  obtain ⟨c_G_0, f_G_0, c_G_1, f_G_1⟩ := Hand.hc2 g_G
  obtain ⟨z_L, z1_L, z2_L, y0_L, y1_L⟩ := Hand.hz g_L
  obtain ⟨c_L_0, f_L_0, c_L_1, f_L_1⟩ := Hand.hc2 g_L
  have zw : w.heap.size ≤ w3.heap.size := hB.size
  have HG := Lib.hid (And.intro g_R (And.intro g_G (And.intro g_L (hB))))
  clear g_R g_G g_L hB
  go_wp2_with fail
  with_reducible refine (S2.out _).mono ?_
  rintro e w4 ⟨rfl, hb4⟩
  obtain ⟨g_R, g_G, g_L, hB⟩ := HG.out
  have h_R : w4.heap[w.heap.size]? = some (.cells #[.int .i64 a, .int .i64 b] 24 (0, 0)) := by
    refine Hand.kb hb4 ?_; first | with_reducible exact g_R | (simp (disch := first | omega | (simp only [Hand.sa, Hand.ss, Hand.sd, Hand.sn]; first | done | omega)) only [Hand.q2, Hand.q1, Hand.q5, Hand.q6, Hand.q4, Hand.q3, g_R] <;> rfl)
  have h_G : w4.heap[w.heap.size + 1]? = some (.cells #[.int .i64 c, .int .i64 d] 24 (0, 0)) := by
    refine Hand.kb hb4 ?_; first | with_reducible exact g_G | (simp (disch := first | omega | (simp only [Hand.sa, Hand.ss, Hand.sd, Hand.sn]; first | done | omega)) only [Hand.q2, Hand.q1, Hand.q5, Hand.q6, Hand.q4, Hand.q3, g_G] <;> rfl)
  have h_L : w4.heap[w2.heap.size]? = some (.cells #[.int .i64 p1, .int .i64 q1] 24 (0, 0)) := by
    refine Hand.kb hb4 ?_; first | with_reducible exact g_L | (simp (disch := first | omega | (simp only [Hand.sa, Hand.ss, Hand.sd, Hand.sn]; first | done | omega)) only [Hand.q2, Hand.q1, Hand.q5, Hand.q6, Hand.q4, Hand.q3, g_L] <;> rfl)
  have h_H : w4.heap[w3.heap.size]? = some (.cells #[.int .i64 p3, .int .i64 q3] 24 (0, 0)) := by
    refine Hand.kb hb4 ?_; simp (disch := first | omega | (simp only [Hand.sa, Hand.ss, Hand.sd, Hand.sn]; first | done | omega)) only [Hand.q2, Hand.q1, Hand.q5, Hand.q6, Hand.q4, Hand.q3] <;> rfl
  have hB' : Below w.heap.size w w4 := Hand.stepB hb4 (by repeat (with_reducible first | apply hB | apply Below.drew | apply pw_below_drewN | (apply Below.setCell; rotate_left; (dsimp only; omega)) | (apply Below.alloc; rotate_left; (first | omega | (simp only [Hand.sa, Hand.ss, Hand.sd, Hand.sn]; omega))))) (Nat.le_refl _)
  clear HG hB g_R g_G g_L zw z_R z1_R z2_R y0_R y1_R c_R_0 f_R_0 c_R_1 f_R_1 z_G z1_G z2_G y0_G y1_G c_G_0 f_G_0 c_G_1 f_G_1 z_L z1_L z2_L y0_L y1_L c_L_0 f_L_0 c_L_1 f_L_1
  clear hb4
  have g_R := h_R
  have g_G := h_G
  have g_L := h_L
  have g_H := h_H
  have hB := hB'
  clear hB' h_R h_G h_L h_H
  obtain ⟨z_R, z1_R, z2_R, y0_R, y1_R⟩ := Hand.hz g_R
  obtain ⟨c_R_0, f_R_0, c_R_1, f_R_1⟩ := Hand.hc2 g_R
  obtain ⟨z_G, z1_G, z2_G, y0_G, y1_G⟩ := Hand.hz g_G
  obtain ⟨c_G_0, f_G_0, c_G_1, f_G_1⟩ := Hand.hc2 g_G
  obtain ⟨z_L, z1_L, z2_L, y0_L, y1_L⟩ := Hand.hz g_L
  obtain ⟨c_L_0, f_L_0, c_L_1, f_L_1⟩ := Hand.hc2 g_L
  obtain ⟨z_H, z1_H, z2_H, y0_H, y1_H⟩ := Hand.hz g_H
  obtain ⟨c_H_0, f_H_0, c_H_1, f_H_1⟩ := Hand.hc2 g_H
  have zw : w.heap.size ≤ w4.heap.size := hB.size
  have HG := Lib.hid (And.intro g_R (And.intro g_G (And.intro g_L (And.intro g_H (hB)))))
  clear g_R g_G g_L g_H hB
  go_wp2_with fail
  with_reducible refine (F1.out _).mono ?_
  rintro e w5 ⟨rfl, hb5⟩
  obtain ⟨g_R, g_G, g_L, g_H, hB⟩ := HG.out
  have h_R : w5.heap[w.heap.size]? = some (.cells #[.int .i64 a, .int .i64 b] 24 (0, 0)) := by
    refine Hand.kb hb5 ?_; first | with_reducible exact g_R | (simp (disch := first | omega | (simp only [Hand.sa, Hand.ss, Hand.sd, Hand.sn]; first | done | omega)) only [Hand.q2, Hand.q1, Hand.q5, Hand.q6, Hand.q4, Hand.q3, g_R] <;> rfl)
  have h_G : w5.heap[w.heap.size + 1]? = some (.cells #[.int .i64 c, .int .i64 d] 24 (0, 0)) := by
    refine Hand.kb hb5 ?_; first | with_reducible exact g_G | (simp (disch := first | omega | (simp only [Hand.sa, Hand.ss, Hand.sd, Hand.sn]; first | done | omega)) only [Hand.q2, Hand.q1, Hand.q5, Hand.q6, Hand.q4, Hand.q3, g_G] <;> rfl)
  have h_L : w5.heap[w2.heap.size]? = some (.cells #[.int .i64 p1, .int .i64 q1] 24 (0, 0)) := by
    refine Hand.kb hb5 ?_; first | with_reducible exact g_L | (simp (disch := first | omega | (simp only [Hand.sa, Hand.ss, Hand.sd, Hand.sn]; first | done | omega)) only [Hand.q2, Hand.q1, Hand.q5, Hand.q6, Hand.q4, Hand.q3, g_L] <;> rfl)
  have h_H : w5.heap[w3.heap.size]? = some (.cells #[.int .i64 p3, .int .i64 q3] 24 (0, 0)) := by
    refine Hand.kb hb5 ?_; first | with_reducible exact g_H | (simp (disch := first | omega | (simp only [Hand.sa, Hand.ss, Hand.sd, Hand.sn]; first | done | omega)) only [Hand.q2, Hand.q1, Hand.q5, Hand.q6, Hand.q4, Hand.q3, g_H] <;> rfl)
  have h_N : w5.heap[w4.heap.size]? = some (.cells #[.int .i64 p2, .int .i64 q2] 24 (0, 0)) := by
    refine Hand.kb hb5 ?_; simp (disch := first | omega | (simp only [Hand.sa, Hand.ss, Hand.sd, Hand.sn]; first | done | omega)) only [Hand.q2, Hand.q1, Hand.q5, Hand.q6, Hand.q4, Hand.q3] <;> rfl
  have hB' : Below w.heap.size w w5 := Hand.stepB hb5 (by repeat (with_reducible first | apply hB | apply Below.drew | apply pw_below_drewN | (apply Below.setCell; rotate_left; (dsimp only; omega)) | (apply Below.alloc; rotate_left; (first | omega | (simp only [Hand.sa, Hand.ss, Hand.sd, Hand.sn]; omega))))) (Nat.le_refl _)
  clear HG hB g_R g_G g_L g_H zw z_R z1_R z2_R y0_R y1_R c_R_0 f_R_0 c_R_1 f_R_1 z_G z1_G z2_G y0_G y1_G c_G_0 f_G_0 c_G_1 f_G_1 z_L z1_L z2_L y0_L y1_L c_L_0 f_L_0 c_L_1 f_L_1 z_H z1_H z2_H y0_H y1_H c_H_0 f_H_0 c_H_1 f_H_1
  clear hb5
  have g_R := h_R
  have g_G := h_G
  have g_L := h_L
  have g_H := h_H
  have g_N := h_N
  have hB := hB'
  clear hB' h_R h_G h_L h_H h_N
  obtain ⟨z_R, z1_R, z2_R, y0_R, y1_R⟩ := Hand.hz g_R
  obtain ⟨c_R_0, f_R_0, c_R_1, f_R_1⟩ := Hand.hc2 g_R
  obtain ⟨z_G, z1_G, z2_G, y0_G, y1_G⟩ := Hand.hz g_G
  obtain ⟨c_G_0, f_G_0, c_G_1, f_G_1⟩ := Hand.hc2 g_G
  obtain ⟨z_L, z1_L, z2_L, y0_L, y1_L⟩ := Hand.hz g_L
  obtain ⟨c_L_0, f_L_0, c_L_1, f_L_1⟩ := Hand.hc2 g_L
  obtain ⟨z_H, z1_H, z2_H, y0_H, y1_H⟩ := Hand.hz g_H
  obtain ⟨c_H_0, f_H_0, c_H_1, f_H_1⟩ := Hand.hc2 g_H
  obtain ⟨z_N, z1_N, z2_N, y0_N, y1_N⟩ := Hand.hz g_N
  obtain ⟨c_N_0, f_N_0, c_N_1, f_N_1⟩ := Hand.hc2 g_N
  have zw : w.heap.size ≤ w5.heap.size := hB.size
  have HG := Lib.hid (And.intro g_R (And.intro g_G (And.intro g_L (And.intro g_H (And.intro g_N (hB))))))
  clear g_R g_G g_L g_H g_N hB
  go_wp2
  go_ret
  obtain ⟨g_R, g_G, g_L, g_H, g_N, hB⟩ := HG.out
  exact ⟨rfl, hB⟩
set_option maxHeartbeats 8000000 in
set_option maxRecDepth 100000 in
theorem near_e3 (a b c d p1 q1 p3 q3 p2 q2 r3 r2 : Int) (w : World)
    (K0 : RB 16 #[] true)
    (S1 : RT 42 #[.agg #[.int .i64 a, .int .i64 b], .agg #[.int .i64 c, .int .i64 d], .int .i64 1] p1 q1 0)
    (S3 : RT 42 #[.agg #[.int .i64 a, .int .i64 b], .agg #[.int .i64 c, .int .i64 d], .int .i64 3] p3 q3 r3)
    (S2 : RT 42 #[.agg #[.int .i64 a, .int .i64 b], .agg #[.int .i64 c, .int .i64 d], .int .i64 2] p2 q2 r2)
    (F1 : RB 33 #[.int .i64 0] true)
    (F2 : RB 33 #[.int .i64 r3] false) :
    Calls Tryd.prog 12 #[.agg #[.int .i64 a, .int .i64 b], .agg #[.int .i64 c, .int .i64 d]] w fun e w' => e = .returned (.bool true) ∧ Below w.heap.size w w' := by
  go_enter Tryd.func12, Tryd.ntmps12
  go_wp2_with fail
  with_reducible refine (K0.out _).mono ?_
  rintro e w1 ⟨rfl, hb1⟩
  have h_R : w1.heap[w.heap.size]? = some (.cells #[.int .i64 a, .int .i64 b] 24 (0, 0)) := by
    refine Hand.kb hb1 ?_; simp (disch := first | omega | (simp only [Hand.sa, Hand.ss, Hand.sd, Hand.sn]; first | done | omega)) only [Hand.q2, Hand.q1, Hand.q5, Hand.q6, Hand.q4, Hand.q3] <;> rfl
  have h_G : w1.heap[w.heap.size + 1]? = some (.cells #[.int .i64 c, .int .i64 d] 24 (0, 0)) := by
    refine Hand.kb hb1 ?_; simp (disch := first | omega | (simp only [Hand.sa, Hand.ss, Hand.sd, Hand.sn]; first | done | omega)) only [Hand.q2, Hand.q1, Hand.q5, Hand.q6, Hand.q4, Hand.q3] <;> rfl
  have hB' : Below w.heap.size w w1 := Hand.stepB hb1 (by repeat (with_reducible first | apply Below.refl _ _ | apply Below.drew | apply pw_below_drewN | (apply Below.setCell; rotate_left; (dsimp only; omega)) | (apply Below.alloc; rotate_left; (first | omega | (simp only [Hand.sa, Hand.ss, Hand.sd, Hand.sn]; omega))))) (Nat.le_refl _)
  clear hb1
  have g_R := h_R
  have g_G := h_G
  have hB := hB'
  clear hB' h_R h_G
  obtain ⟨z_R, z1_R, z2_R, y0_R, y1_R⟩ := Hand.hz g_R
  obtain ⟨c_R_0, f_R_0, c_R_1, f_R_1⟩ := Hand.hc2 g_R
  obtain ⟨z_G, z1_G, z2_G, y0_G, y1_G⟩ := Hand.hz g_G
  obtain ⟨c_G_0, f_G_0, c_G_1, f_G_1⟩ := Hand.hc2 g_G
  have zw : w.heap.size ≤ w1.heap.size := hB.size
  have HG := Lib.hid (And.intro g_R (And.intro g_G (hB)))
  clear g_R g_G hB
  go_wp2_with fail
  with_reducible refine (S1.out _).mono ?_
  rintro e w2 ⟨rfl, hb2⟩
  obtain ⟨g_R, g_G, hB⟩ := HG.out
  have h_R : w2.heap[w.heap.size]? = some (.cells #[.int .i64 a, .int .i64 b] 24 (0, 0)) := by
    refine Hand.kb hb2 ?_; first | with_reducible exact g_R | (simp (disch := first | omega | (simp only [Hand.sa, Hand.ss, Hand.sd, Hand.sn]; first | done | omega)) only [Hand.q2, Hand.q1, Hand.q5, Hand.q6, Hand.q4, Hand.q3, g_R] <;> rfl)
  have h_G : w2.heap[w.heap.size + 1]? = some (.cells #[.int .i64 c, .int .i64 d] 24 (0, 0)) := by
    refine Hand.kb hb2 ?_; first | with_reducible exact g_G | (simp (disch := first | omega | (simp only [Hand.sa, Hand.ss, Hand.sd, Hand.sn]; first | done | omega)) only [Hand.q2, Hand.q1, Hand.q5, Hand.q6, Hand.q4, Hand.q3, g_G] <;> rfl)
  have hB' : Below w.heap.size w w2 := Hand.stepB hb2 (by repeat (with_reducible first | apply hB | apply Below.drew | apply pw_below_drewN | (apply Below.setCell; rotate_left; (dsimp only; omega)) | (apply Below.alloc; rotate_left; (first | omega | (simp only [Hand.sa, Hand.ss, Hand.sd, Hand.sn]; omega))))) (Nat.le_refl _)
  clear HG hB g_R g_G zw z_R z1_R z2_R y0_R y1_R c_R_0 f_R_0 c_R_1 f_R_1 z_G z1_G z2_G y0_G y1_G c_G_0 f_G_0 c_G_1 f_G_1
  clear hb2
  have g_R := h_R
  have g_G := h_G
  have hB := hB'
  clear hB' h_R h_G
  obtain ⟨z_R, z1_R, z2_R, y0_R, y1_R⟩ := Hand.hz g_R
  obtain ⟨c_R_0, f_R_0, c_R_1, f_R_1⟩ := Hand.hc2 g_R
  obtain ⟨z_G, z1_G, z2_G, y0_G, y1_G⟩ := Hand.hz g_G
  obtain ⟨c_G_0, f_G_0, c_G_1, f_G_1⟩ := Hand.hc2 g_G
  have zw : w.heap.size ≤ w2.heap.size := hB.size
  have HG := Lib.hid (And.intro g_R (And.intro g_G (hB)))
  clear g_R g_G hB
  go_wp2_with fail
  with_reducible refine (S3.out _).mono ?_
  rintro e w3 ⟨rfl, hb3⟩
  obtain ⟨g_R, g_G, hB⟩ := HG.out
  have h_R : w3.heap[w.heap.size]? = some (.cells #[.int .i64 a, .int .i64 b] 24 (0, 0)) := by
    refine Hand.kb hb3 ?_; first | with_reducible exact g_R | (simp (disch := first | omega | (simp only [Hand.sa, Hand.ss, Hand.sd, Hand.sn]; first | done | omega)) only [Hand.q2, Hand.q1, Hand.q5, Hand.q6, Hand.q4, Hand.q3, g_R] <;> rfl)
  have h_G : w3.heap[w.heap.size + 1]? = some (.cells #[.int .i64 c, .int .i64 d] 24 (0, 0)) := by
    refine Hand.kb hb3 ?_; first | with_reducible exact g_G | (simp (disch := first | omega | (simp only [Hand.sa, Hand.ss, Hand.sd, Hand.sn]; first | done | omega)) only [Hand.q2, Hand.q1, Hand.q5, Hand.q6, Hand.q4, Hand.q3, g_G] <;> rfl)
  have h_L : w3.heap[w2.heap.size]? = some (.cells #[.int .i64 p1, .int .i64 q1] 24 (0, 0)) := by
    refine Hand.kb hb3 ?_; simp (disch := first | omega | (simp only [Hand.sa, Hand.ss, Hand.sd, Hand.sn]; first | done | omega)) only [Hand.q2, Hand.q1, Hand.q5, Hand.q6, Hand.q4, Hand.q3] <;> rfl
  have hB' : Below w.heap.size w w3 := Hand.stepB hb3 (by repeat (with_reducible first | apply hB | apply Below.drew | apply pw_below_drewN | (apply Below.setCell; rotate_left; (dsimp only; omega)) | (apply Below.alloc; rotate_left; (first | omega | (simp only [Hand.sa, Hand.ss, Hand.sd, Hand.sn]; omega))))) (Nat.le_refl _)
  clear HG hB g_R g_G zw z_R z1_R z2_R y0_R y1_R c_R_0 f_R_0 c_R_1 f_R_1 z_G z1_G z2_G y0_G y1_G c_G_0 f_G_0 c_G_1 f_G_1
  clear hb3
  have g_R := h_R
  have g_G := h_G
  have g_L := h_L
  have hB := hB'
  clear hB' h_R h_G h_L
  obtain ⟨z_R, z1_R, z2_R, y0_R, y1_R⟩ := Hand.hz g_R
  obtain ⟨c_R_0, f_R_0, c_R_1, f_R_1⟩ := Hand.hc2 g_R
  obtain ⟨z_G, z1_G, z2_G, y0_G, y1_G⟩ := Hand.hz g_G
  obtain ⟨c_G_0, f_G_0, c_G_1, f_G_1⟩ := Hand.hc2 g_G
  obtain ⟨z_L, z1_L, z2_L, y0_L, y1_L⟩ := Hand.hz g_L
  obtain ⟨c_L_0, f_L_0, c_L_1, f_L_1⟩ := Hand.hc2 g_L
  have zw : w.heap.size ≤ w3.heap.size := hB.size
  have HG := Lib.hid (And.intro g_R (And.intro g_G (And.intro g_L (hB))))
  clear g_R g_G g_L hB
  go_wp2_with fail
  with_reducible refine (S2.out _).mono ?_
  rintro e w4 ⟨rfl, hb4⟩
  obtain ⟨g_R, g_G, g_L, hB⟩ := HG.out
  have h_R : w4.heap[w.heap.size]? = some (.cells #[.int .i64 a, .int .i64 b] 24 (0, 0)) := by
    refine Hand.kb hb4 ?_; first | with_reducible exact g_R | (simp (disch := first | omega | (simp only [Hand.sa, Hand.ss, Hand.sd, Hand.sn]; first | done | omega)) only [Hand.q2, Hand.q1, Hand.q5, Hand.q6, Hand.q4, Hand.q3, g_R] <;> rfl)
  have h_G : w4.heap[w.heap.size + 1]? = some (.cells #[.int .i64 c, .int .i64 d] 24 (0, 0)) := by
    refine Hand.kb hb4 ?_; first | with_reducible exact g_G | (simp (disch := first | omega | (simp only [Hand.sa, Hand.ss, Hand.sd, Hand.sn]; first | done | omega)) only [Hand.q2, Hand.q1, Hand.q5, Hand.q6, Hand.q4, Hand.q3, g_G] <;> rfl)
  have h_L : w4.heap[w2.heap.size]? = some (.cells #[.int .i64 p1, .int .i64 q1] 24 (0, 0)) := by
    refine Hand.kb hb4 ?_; first | with_reducible exact g_L | (simp (disch := first | omega | (simp only [Hand.sa, Hand.ss, Hand.sd, Hand.sn]; first | done | omega)) only [Hand.q2, Hand.q1, Hand.q5, Hand.q6, Hand.q4, Hand.q3, g_L] <;> rfl)
  have h_H : w4.heap[w3.heap.size]? = some (.cells #[.int .i64 p3, .int .i64 q3] 24 (0, 0)) := by
    refine Hand.kb hb4 ?_; simp (disch := first | omega | (simp only [Hand.sa, Hand.ss, Hand.sd, Hand.sn]; first | done | omega)) only [Hand.q2, Hand.q1, Hand.q5, Hand.q6, Hand.q4, Hand.q3] <;> rfl
  have hB' : Below w.heap.size w w4 := Hand.stepB hb4 (by repeat (with_reducible first | apply hB | apply Below.drew | apply pw_below_drewN | (apply Below.setCell; rotate_left; (dsimp only; omega)) | (apply Below.alloc; rotate_left; (first | omega | (simp only [Hand.sa, Hand.ss, Hand.sd, Hand.sn]; omega))))) (Nat.le_refl _)
  clear HG hB g_R g_G g_L zw z_R z1_R z2_R y0_R y1_R c_R_0 f_R_0 c_R_1 f_R_1 z_G z1_G z2_G y0_G y1_G c_G_0 f_G_0 c_G_1 f_G_1 z_L z1_L z2_L y0_L y1_L c_L_0 f_L_0 c_L_1 f_L_1
  clear hb4
  have g_R := h_R
  have g_G := h_G
  have g_L := h_L
  have g_H := h_H
  have hB := hB'
  clear hB' h_R h_G h_L h_H
  obtain ⟨z_R, z1_R, z2_R, y0_R, y1_R⟩ := Hand.hz g_R
  obtain ⟨c_R_0, f_R_0, c_R_1, f_R_1⟩ := Hand.hc2 g_R
  obtain ⟨z_G, z1_G, z2_G, y0_G, y1_G⟩ := Hand.hz g_G
  obtain ⟨c_G_0, f_G_0, c_G_1, f_G_1⟩ := Hand.hc2 g_G
  obtain ⟨z_L, z1_L, z2_L, y0_L, y1_L⟩ := Hand.hz g_L
  obtain ⟨c_L_0, f_L_0, c_L_1, f_L_1⟩ := Hand.hc2 g_L
  obtain ⟨z_H, z1_H, z2_H, y0_H, y1_H⟩ := Hand.hz g_H
  obtain ⟨c_H_0, f_H_0, c_H_1, f_H_1⟩ := Hand.hc2 g_H
  have zw : w.heap.size ≤ w4.heap.size := hB.size
  have HG := Lib.hid (And.intro g_R (And.intro g_G (And.intro g_L (And.intro g_H (hB)))))
  clear g_R g_G g_L g_H hB
  go_wp2_with fail
  with_reducible refine (F1.out _).mono ?_
  rintro e w5 ⟨rfl, hb5⟩
  obtain ⟨g_R, g_G, g_L, g_H, hB⟩ := HG.out
  have h_R : w5.heap[w.heap.size]? = some (.cells #[.int .i64 a, .int .i64 b] 24 (0, 0)) := by
    refine Hand.kb hb5 ?_; first | with_reducible exact g_R | (simp (disch := first | omega | (simp only [Hand.sa, Hand.ss, Hand.sd, Hand.sn]; first | done | omega)) only [Hand.q2, Hand.q1, Hand.q5, Hand.q6, Hand.q4, Hand.q3, g_R] <;> rfl)
  have h_G : w5.heap[w.heap.size + 1]? = some (.cells #[.int .i64 c, .int .i64 d] 24 (0, 0)) := by
    refine Hand.kb hb5 ?_; first | with_reducible exact g_G | (simp (disch := first | omega | (simp only [Hand.sa, Hand.ss, Hand.sd, Hand.sn]; first | done | omega)) only [Hand.q2, Hand.q1, Hand.q5, Hand.q6, Hand.q4, Hand.q3, g_G] <;> rfl)
  have h_L : w5.heap[w2.heap.size]? = some (.cells #[.int .i64 p1, .int .i64 q1] 24 (0, 0)) := by
    refine Hand.kb hb5 ?_; first | with_reducible exact g_L | (simp (disch := first | omega | (simp only [Hand.sa, Hand.ss, Hand.sd, Hand.sn]; first | done | omega)) only [Hand.q2, Hand.q1, Hand.q5, Hand.q6, Hand.q4, Hand.q3, g_L] <;> rfl)
  have h_H : w5.heap[w3.heap.size]? = some (.cells #[.int .i64 p3, .int .i64 q3] 24 (0, 0)) := by
    refine Hand.kb hb5 ?_; first | with_reducible exact g_H | (simp (disch := first | omega | (simp only [Hand.sa, Hand.ss, Hand.sd, Hand.sn]; first | done | omega)) only [Hand.q2, Hand.q1, Hand.q5, Hand.q6, Hand.q4, Hand.q3, g_H] <;> rfl)
  have h_N : w5.heap[w4.heap.size]? = some (.cells #[.int .i64 p2, .int .i64 q2] 24 (0, 0)) := by
    refine Hand.kb hb5 ?_; simp (disch := first | omega | (simp only [Hand.sa, Hand.ss, Hand.sd, Hand.sn]; first | done | omega)) only [Hand.q2, Hand.q1, Hand.q5, Hand.q6, Hand.q4, Hand.q3] <;> rfl
  have hB' : Below w.heap.size w w5 := Hand.stepB hb5 (by repeat (with_reducible first | apply hB | apply Below.drew | apply pw_below_drewN | (apply Below.setCell; rotate_left; (dsimp only; omega)) | (apply Below.alloc; rotate_left; (first | omega | (simp only [Hand.sa, Hand.ss, Hand.sd, Hand.sn]; omega))))) (Nat.le_refl _)
  clear HG hB g_R g_G g_L g_H zw z_R z1_R z2_R y0_R y1_R c_R_0 f_R_0 c_R_1 f_R_1 z_G z1_G z2_G y0_G y1_G c_G_0 f_G_0 c_G_1 f_G_1 z_L z1_L z2_L y0_L y1_L c_L_0 f_L_0 c_L_1 f_L_1 z_H z1_H z2_H y0_H y1_H c_H_0 f_H_0 c_H_1 f_H_1
  clear hb5
  have g_R := h_R
  have g_G := h_G
  have g_L := h_L
  have g_H := h_H
  have g_N := h_N
  have hB := hB'
  clear hB' h_R h_G h_L h_H h_N
  obtain ⟨z_R, z1_R, z2_R, y0_R, y1_R⟩ := Hand.hz g_R
  obtain ⟨c_R_0, f_R_0, c_R_1, f_R_1⟩ := Hand.hc2 g_R
  obtain ⟨z_G, z1_G, z2_G, y0_G, y1_G⟩ := Hand.hz g_G
  obtain ⟨c_G_0, f_G_0, c_G_1, f_G_1⟩ := Hand.hc2 g_G
  obtain ⟨z_L, z1_L, z2_L, y0_L, y1_L⟩ := Hand.hz g_L
  obtain ⟨c_L_0, f_L_0, c_L_1, f_L_1⟩ := Hand.hc2 g_L
  obtain ⟨z_H, z1_H, z2_H, y0_H, y1_H⟩ := Hand.hz g_H
  obtain ⟨c_H_0, f_H_0, c_H_1, f_H_1⟩ := Hand.hc2 g_H
  obtain ⟨z_N, z1_N, z2_N, y0_N, y1_N⟩ := Hand.hz g_N
  obtain ⟨c_N_0, f_N_0, c_N_1, f_N_1⟩ := Hand.hc2 g_N
  have zw : w.heap.size ≤ w5.heap.size := hB.size
  have HG := Lib.hid (And.intro g_R (And.intro g_G (And.intro g_L (And.intro g_H (And.intro g_N (hB))))))
  clear g_R g_G g_L g_H g_N hB
  go_wp2_with fail
  with_reducible refine (F2.out _).mono ?_
  rintro e w6 ⟨rfl, hb6⟩
  obtain ⟨g_R, g_G, g_L, g_H, g_N, hB⟩ := HG.out
  have h_R : w6.heap[w.heap.size]? = some (.cells #[.int .i64 a, .int .i64 b] 24 (0, 0)) := by
    refine Hand.kb hb6 ?_; first | with_reducible exact g_R | (simp (disch := first | omega | (simp only [Hand.sa, Hand.ss, Hand.sd, Hand.sn]; first | done | omega)) only [Hand.q2, Hand.q1, Hand.q5, Hand.q6, Hand.q4, Hand.q3, g_R] <;> rfl)
  have h_G : w6.heap[w.heap.size + 1]? = some (.cells #[.int .i64 c, .int .i64 d] 24 (0, 0)) := by
    refine Hand.kb hb6 ?_; first | with_reducible exact g_G | (simp (disch := first | omega | (simp only [Hand.sa, Hand.ss, Hand.sd, Hand.sn]; first | done | omega)) only [Hand.q2, Hand.q1, Hand.q5, Hand.q6, Hand.q4, Hand.q3, g_G] <;> rfl)
  have h_L : w6.heap[w2.heap.size]? = some (.cells #[.int .i64 p1, .int .i64 q1] 24 (0, 0)) := by
    refine Hand.kb hb6 ?_; first | with_reducible exact g_L | (simp (disch := first | omega | (simp only [Hand.sa, Hand.ss, Hand.sd, Hand.sn]; first | done | omega)) only [Hand.q2, Hand.q1, Hand.q5, Hand.q6, Hand.q4, Hand.q3, g_L] <;> rfl)
  have h_H : w6.heap[w3.heap.size]? = some (.cells #[.int .i64 p3, .int .i64 q3] 24 (0, 0)) := by
    refine Hand.kb hb6 ?_; first | with_reducible exact g_H | (simp (disch := first | omega | (simp only [Hand.sa, Hand.ss, Hand.sd, Hand.sn]; first | done | omega)) only [Hand.q2, Hand.q1, Hand.q5, Hand.q6, Hand.q4, Hand.q3, g_H] <;> rfl)
  have h_N : w6.heap[w4.heap.size]? = some (.cells #[.int .i64 p2, .int .i64 q2] 24 (0, 0)) := by
    refine Hand.kb hb6 ?_; first | with_reducible exact g_N | (simp (disch := first | omega | (simp only [Hand.sa, Hand.ss, Hand.sd, Hand.sn]; first | done | omega)) only [Hand.q2, Hand.q1, Hand.q5, Hand.q6, Hand.q4, Hand.q3, g_N] <;> rfl)
  have hB' : Below w.heap.size w w6 := Hand.stepB hb6 (by repeat (with_reducible first | apply hB | apply Below.drew | apply pw_below_drewN | (apply Below.setCell; rotate_left; (dsimp only; omega)) | (apply Below.alloc; rotate_left; (first | omega | (simp only [Hand.sa, Hand.ss, Hand.sd, Hand.sn]; omega))))) (Nat.le_refl _)
  clear HG hB g_R g_G g_L g_H g_N zw z_R z1_R z2_R y0_R y1_R c_R_0 f_R_0 c_R_1 f_R_1 z_G z1_G z2_G y0_G y1_G c_G_0 f_G_0 c_G_1 f_G_1 z_L z1_L z2_L y0_L y1_L c_L_0 f_L_0 c_L_1 f_L_1 z_H z1_H z2_H y0_H y1_H c_H_0 f_H_0 c_H_1 f_H_1 z_N z1_N z2_N y0_N y1_N c_N_0 f_N_0 c_N_1 f_N_1
  clear hb6
  have g_R := h_R
  have g_G := h_G
  have g_L := h_L
  have g_H := h_H
  have g_N := h_N
  have hB := hB'
  clear hB' h_R h_G h_L h_H h_N
  obtain ⟨z_R, z1_R, z2_R, y0_R, y1_R⟩ := Hand.hz g_R
  obtain ⟨c_R_0, f_R_0, c_R_1, f_R_1⟩ := Hand.hc2 g_R
  obtain ⟨z_G, z1_G, z2_G, y0_G, y1_G⟩ := Hand.hz g_G
  obtain ⟨c_G_0, f_G_0, c_G_1, f_G_1⟩ := Hand.hc2 g_G
  obtain ⟨z_L, z1_L, z2_L, y0_L, y1_L⟩ := Hand.hz g_L
  obtain ⟨c_L_0, f_L_0, c_L_1, f_L_1⟩ := Hand.hc2 g_L
  obtain ⟨z_H, z1_H, z2_H, y0_H, y1_H⟩ := Hand.hz g_H
  obtain ⟨c_H_0, f_H_0, c_H_1, f_H_1⟩ := Hand.hc2 g_H
  obtain ⟨z_N, z1_N, z2_N, y0_N, y1_N⟩ := Hand.hz g_N
  obtain ⟨c_N_0, f_N_0, c_N_1, f_N_1⟩ := Hand.hc2 g_N
  have zw : w.heap.size ≤ w6.heap.size := hB.size
  have HG := Lib.hid (And.intro g_R (And.intro g_G (And.intro g_L (And.intro g_H (And.intro g_N (hB))))))
  clear g_R g_G g_L g_H g_N hB
  go_wp2
  go_ret
  obtain ⟨g_R, g_G, g_L, g_H, g_N, hB⟩ := HG.out
  exact ⟨rfl, hB⟩
set_option maxHeartbeats 8000000 in
set_option maxRecDepth 100000 in
theorem near_e2 (a b c d p1 q1 p3 q3 p2 q2 r2 : Int) (w : World)
    (K0 : RB 16 #[] true)
    (S1 : RT 42 #[.agg #[.int .i64 a, .int .i64 b], .agg #[.int .i64 c, .int .i64 d], .int .i64 1] p1 q1 0)
    (S3 : RT 42 #[.agg #[.int .i64 a, .int .i64 b], .agg #[.int .i64 c, .int .i64 d], .int .i64 3] p3 q3 0)
    (S2 : RT 42 #[.agg #[.int .i64 a, .int .i64 b], .agg #[.int .i64 c, .int .i64 d], .int .i64 2] p2 q2 r2)
    (F1 : RB 33 #[.int .i64 0] true)
    (F2 : RB 33 #[.int .i64 0] true)
    (F3 : RB 33 #[.int .i64 r2] false) :
    Calls Tryd.prog 12 #[.agg #[.int .i64 a, .int .i64 b], .agg #[.int .i64 c, .int .i64 d]] w fun e w' => e = .returned (.bool true) ∧ Below w.heap.size w w' := by
  go_enter Tryd.func12, Tryd.ntmps12
  go_wp2_with fail
  with_reducible refine (K0.out _).mono ?_
  rintro e w1 ⟨rfl, hb1⟩
  have h_R : w1.heap[w.heap.size]? = some (.cells #[.int .i64 a, .int .i64 b] 24 (0, 0)) := by
    refine Hand.kb hb1 ?_; simp (disch := first | omega | (simp only [Hand.sa, Hand.ss, Hand.sd, Hand.sn]; first | done | omega)) only [Hand.q2, Hand.q1, Hand.q5, Hand.q6, Hand.q4, Hand.q3] <;> rfl
  have h_G : w1.heap[w.heap.size + 1]? = some (.cells #[.int .i64 c, .int .i64 d] 24 (0, 0)) := by
    refine Hand.kb hb1 ?_; simp (disch := first | omega | (simp only [Hand.sa, Hand.ss, Hand.sd, Hand.sn]; first | done | omega)) only [Hand.q2, Hand.q1, Hand.q5, Hand.q6, Hand.q4, Hand.q3] <;> rfl
  have hB' : Below w.heap.size w w1 := Hand.stepB hb1 (by repeat (with_reducible first | apply Below.refl _ _ | apply Below.drew | apply pw_below_drewN | (apply Below.setCell; rotate_left; (dsimp only; omega)) | (apply Below.alloc; rotate_left; (first | omega | (simp only [Hand.sa, Hand.ss, Hand.sd, Hand.sn]; omega))))) (Nat.le_refl _)
  clear hb1
  have g_R := h_R
  have g_G := h_G
  have hB := hB'
  clear hB' h_R h_G
  obtain ⟨z_R, z1_R, z2_R, y0_R, y1_R⟩ := Hand.hz g_R
  obtain ⟨c_R_0, f_R_0, c_R_1, f_R_1⟩ := Hand.hc2 g_R
  obtain ⟨z_G, z1_G, z2_G, y0_G, y1_G⟩ := Hand.hz g_G
  obtain ⟨c_G_0, f_G_0, c_G_1, f_G_1⟩ := Hand.hc2 g_G
  have zw : w.heap.size ≤ w1.heap.size := hB.size
  have HG := Lib.hid (And.intro g_R (And.intro g_G (hB)))
  clear g_R g_G hB
  go_wp2_with fail
  with_reducible refine (S1.out _).mono ?_
  rintro e w2 ⟨rfl, hb2⟩
  obtain ⟨g_R, g_G, hB⟩ := HG.out
  have h_R : w2.heap[w.heap.size]? = some (.cells #[.int .i64 a, .int .i64 b] 24 (0, 0)) := by
    refine Hand.kb hb2 ?_; first | with_reducible exact g_R | (simp (disch := first | omega | (simp only [Hand.sa, Hand.ss, Hand.sd, Hand.sn]; first | done | omega)) only [Hand.q2, Hand.q1, Hand.q5, Hand.q6, Hand.q4, Hand.q3, g_R] <;> rfl)
  have h_G : w2.heap[w.heap.size + 1]? = some (.cells #[.int .i64 c, .int .i64 d] 24 (0, 0)) := by
    refine Hand.kb hb2 ?_; first | with_reducible exact g_G | (simp (disch := first | omega | (simp only [Hand.sa, Hand.ss, Hand.sd, Hand.sn]; first | done | omega)) only [Hand.q2, Hand.q1, Hand.q5, Hand.q6, Hand.q4, Hand.q3, g_G] <;> rfl)
  have hB' : Below w.heap.size w w2 := Hand.stepB hb2 (by repeat (with_reducible first | apply hB | apply Below.drew | apply pw_below_drewN | (apply Below.setCell; rotate_left; (dsimp only; omega)) | (apply Below.alloc; rotate_left; (first | omega | (simp only [Hand.sa, Hand.ss, Hand.sd, Hand.sn]; omega))))) (Nat.le_refl _)
  clear HG hB g_R g_G zw z_R z1_R z2_R y0_R y1_R c_R_0 f_R_0 c_R_1 f_R_1 z_G z1_G z2_G y0_G y1_G c_G_0 f_G_0 c_G_1 f_G_1
  clear hb2
  have g_R := h_R
  have g_G := h_G
  have hB := hB'
  clear hB' h_R h_G
  obtain ⟨z_R, z1_R, z2_R, y0_R, y1_R⟩ := Hand.hz g_R
  obtain ⟨c_R_0, f_R_0, c_R_1, f_R_1⟩ := Hand.hc2 g_R
  obtain ⟨z_G, z1_G, z2_G, y0_G, y1_G⟩ := Hand.hz g_G
  obtain ⟨c_G_0, f_G_0, c_G_1, f_G_1⟩ := Hand.hc2 g_G
  have zw : w.heap.size ≤ w2.heap.size := hB.size
  have HG := Lib.hid (And.intro g_R (And.intro g_G (hB)))
  clear g_R g_G hB
  go_wp2_with fail
  with_reducible refine (S3.out _).mono ?_
  rintro e w3 ⟨rfl, hb3⟩
  obtain ⟨g_R, g_G, hB⟩ := HG.out
  have h_R : w3.heap[w.heap.size]? = some (.cells #[.int .i64 a, .int .i64 b] 24 (0, 0)) := by
    refine Hand.kb hb3 ?_; first | with_reducible exact g_R | (simp (disch := first | omega | (simp only [Hand.sa, Hand.ss, Hand.sd, Hand.sn]; first | done | omega)) only [Hand.q2, Hand.q1, Hand.q5, Hand.q6, Hand.q4, Hand.q3, g_R] <;> rfl)
  have h_G : w3.heap[w.heap.size + 1]? = some (.cells #[.int .i64 c, .int .i64 d] 24 (0, 0)) := by
    refine Hand.kb hb3 ?_; first | with_reducible exact g_G | (simp (disch := first | omega | (simp only [Hand.sa, Hand.ss, Hand.sd, Hand.sn]; first | done | omega)) only [Hand.q2, Hand.q1, Hand.q5, Hand.q6, Hand.q4, Hand.q3, g_G] <;> rfl)
  have h_L : w3.heap[w2.heap.size]? = some (.cells #[.int .i64 p1, .int .i64 q1] 24 (0, 0)) := by
    refine Hand.kb hb3 ?_; simp (disch := first | omega | (simp only [Hand.sa, Hand.ss, Hand.sd, Hand.sn]; first | done | omega)) only [Hand.q2, Hand.q1, Hand.q5, Hand.q6, Hand.q4, Hand.q3] <;> rfl
  have hB' : Below w.heap.size w w3 := Hand.stepB hb3 (by repeat (with_reducible first | apply hB | apply Below.drew | apply pw_below_drewN | (apply Below.setCell; rotate_left; (dsimp only; omega)) | (apply Below.alloc; rotate_left; (first | omega | (simp only [Hand.sa, Hand.ss, Hand.sd, Hand.sn]; omega))))) (Nat.le_refl _)
  clear HG hB g_R g_G zw z_R z1_R z2_R y0_R y1_R c_R_0 f_R_0 c_R_1 f_R_1 z_G z1_G z2_G y0_G y1_G c_G_0 f_G_0 c_G_1 f_G_1
  clear hb3
  have g_R := h_R
  have g_G := h_G
  have g_L := h_L
  have hB := hB'
  clear hB' h_R h_G h_L
  obtain ⟨z_R, z1_R, z2_R, y0_R, y1_R⟩ := Hand.hz g_R
  obtain ⟨c_R_0, f_R_0, c_R_1, f_R_1⟩ := Hand.hc2 g_R
  obtain ⟨z_G, z1_G, z2_G, y0_G, y1_G⟩ := Hand.hz g_G
  obtain ⟨c_G_0, f_G_0, c_G_1, f_G_1⟩ := Hand.hc2 g_G
  obtain ⟨z_L, z1_L, z2_L, y0_L, y1_L⟩ := Hand.hz g_L
  obtain ⟨c_L_0, f_L_0, c_L_1, f_L_1⟩ := Hand.hc2 g_L
  have zw : w.heap.size ≤ w3.heap.size := hB.size
  have HG := Lib.hid (And.intro g_R (And.intro g_G (And.intro g_L (hB))))
  clear g_R g_G g_L hB
  go_wp2_with fail
  with_reducible refine (S2.out _).mono ?_
  rintro e w4 ⟨rfl, hb4⟩
  obtain ⟨g_R, g_G, g_L, hB⟩ := HG.out
  have h_R : w4.heap[w.heap.size]? = some (.cells #[.int .i64 a, .int .i64 b] 24 (0, 0)) := by
    refine Hand.kb hb4 ?_; first | with_reducible exact g_R | (simp (disch := first | omega | (simp only [Hand.sa, Hand.ss, Hand.sd, Hand.sn]; first | done | omega)) only [Hand.q2, Hand.q1, Hand.q5, Hand.q6, Hand.q4, Hand.q3, g_R] <;> rfl)
  have h_G : w4.heap[w.heap.size + 1]? = some (.cells #[.int .i64 c, .int .i64 d] 24 (0, 0)) := by
    refine Hand.kb hb4 ?_; first | with_reducible exact g_G | (simp (disch := first | omega | (simp only [Hand.sa, Hand.ss, Hand.sd, Hand.sn]; first | done | omega)) only [Hand.q2, Hand.q1, Hand.q5, Hand.q6, Hand.q4, Hand.q3, g_G] <;> rfl)
  have h_L : w4.heap[w2.heap.size]? = some (.cells #[.int .i64 p1, .int .i64 q1] 24 (0, 0)) := by
    refine Hand.kb hb4 ?_; first | with_reducible exact g_L | (simp (disch := first | omega | (simp only [Hand.sa, Hand.ss, Hand.sd, Hand.sn]; first | done | omega)) only [Hand.q2, Hand.q1, Hand.q5, Hand.q6, Hand.q4, Hand.q3, g_L] <;> rfl)
  have h_H : w4.heap[w3.heap.size]? = some (.cells #[.int .i64 p3, .int .i64 q3] 24 (0, 0)) := by
    refine Hand.kb hb4 ?_; simp (disch := first | omega | (simp only [Hand.sa, Hand.ss, Hand.sd, Hand.sn]; first | done | omega)) only [Hand.q2, Hand.q1, Hand.q5, Hand.q6, Hand.q4, Hand.q3] <;> rfl
  have hB' : Below w.heap.size w w4 := Hand.stepB hb4 (by repeat (with_reducible first | apply hB | apply Below.drew | apply pw_below_drewN | (apply Below.setCell; rotate_left; (dsimp only; omega)) | (apply Below.alloc; rotate_left; (first | omega | (simp only [Hand.sa, Hand.ss, Hand.sd, Hand.sn]; omega))))) (Nat.le_refl _)
  clear HG hB g_R g_G g_L zw z_R z1_R z2_R y0_R y1_R c_R_0 f_R_0 c_R_1 f_R_1 z_G z1_G z2_G y0_G y1_G c_G_0 f_G_0 c_G_1 f_G_1 z_L z1_L z2_L y0_L y1_L c_L_0 f_L_0 c_L_1 f_L_1
  clear hb4
  have g_R := h_R
  have g_G := h_G
  have g_L := h_L
  have g_H := h_H
  have hB := hB'
  clear hB' h_R h_G h_L h_H
  obtain ⟨z_R, z1_R, z2_R, y0_R, y1_R⟩ := Hand.hz g_R
  obtain ⟨c_R_0, f_R_0, c_R_1, f_R_1⟩ := Hand.hc2 g_R
  obtain ⟨z_G, z1_G, z2_G, y0_G, y1_G⟩ := Hand.hz g_G
  obtain ⟨c_G_0, f_G_0, c_G_1, f_G_1⟩ := Hand.hc2 g_G
  obtain ⟨z_L, z1_L, z2_L, y0_L, y1_L⟩ := Hand.hz g_L
  obtain ⟨c_L_0, f_L_0, c_L_1, f_L_1⟩ := Hand.hc2 g_L
  obtain ⟨z_H, z1_H, z2_H, y0_H, y1_H⟩ := Hand.hz g_H
  obtain ⟨c_H_0, f_H_0, c_H_1, f_H_1⟩ := Hand.hc2 g_H
  have zw : w.heap.size ≤ w4.heap.size := hB.size
  have HG := Lib.hid (And.intro g_R (And.intro g_G (And.intro g_L (And.intro g_H (hB)))))
  clear g_R g_G g_L g_H hB
  go_wp2_with fail
  with_reducible refine (F1.out _).mono ?_
  rintro e w5 ⟨rfl, hb5⟩
  obtain ⟨g_R, g_G, g_L, g_H, hB⟩ := HG.out
  have h_R : w5.heap[w.heap.size]? = some (.cells #[.int .i64 a, .int .i64 b] 24 (0, 0)) := by
    refine Hand.kb hb5 ?_; first | with_reducible exact g_R | (simp (disch := first | omega | (simp only [Hand.sa, Hand.ss, Hand.sd, Hand.sn]; first | done | omega)) only [Hand.q2, Hand.q1, Hand.q5, Hand.q6, Hand.q4, Hand.q3, g_R] <;> rfl)
  have h_G : w5.heap[w.heap.size + 1]? = some (.cells #[.int .i64 c, .int .i64 d] 24 (0, 0)) := by
    refine Hand.kb hb5 ?_; first | with_reducible exact g_G | (simp (disch := first | omega | (simp only [Hand.sa, Hand.ss, Hand.sd, Hand.sn]; first | done | omega)) only [Hand.q2, Hand.q1, Hand.q5, Hand.q6, Hand.q4, Hand.q3, g_G] <;> rfl)
  have h_L : w5.heap[w2.heap.size]? = some (.cells #[.int .i64 p1, .int .i64 q1] 24 (0, 0)) := by
    refine Hand.kb hb5 ?_; first | with_reducible exact g_L | (simp (disch := first | omega | (simp only [Hand.sa, Hand.ss, Hand.sd, Hand.sn]; first | done | omega)) only [Hand.q2, Hand.q1, Hand.q5, Hand.q6, Hand.q4, Hand.q3, g_L] <;> rfl)
  have h_H : w5.heap[w3.heap.size]? = some (.cells #[.int .i64 p3, .int .i64 q3] 24 (0, 0)) := by
    refine Hand.kb hb5 ?_; first | with_reducible exact g_H | (simp (disch := first | omega | (simp only [Hand.sa, Hand.ss, Hand.sd, Hand.sn]; first | done | omega)) only [Hand.q2, Hand.q1, Hand.q5, Hand.q6, Hand.q4, Hand.q3, g_H] <;> rfl)
  have h_N : w5.heap[w4.heap.size]? = some (.cells #[.int .i64 p2, .int .i64 q2] 24 (0, 0)) := by
    refine Hand.kb hb5 ?_; simp (disch := first | omega | (simp only [Hand.sa, Hand.ss, Hand.sd, Hand.sn]; first | done | omega)) only [Hand.q2, Hand.q1, Hand.q5, Hand.q6, Hand.q4, Hand.q3] <;> rfl
  have hB' : Below w.heap.size w w5 := Hand.stepB hb5 (by repeat (with_reducible first | apply hB | apply Below.drew | apply pw_below_drewN | (apply Below.setCell; rotate_left; (dsimp only; omega)) | (apply Below.alloc; rotate_left; (first | omega | (simp only [Hand.sa, Hand.ss, Hand.sd, Hand.sn]; omega))))) (Nat.le_refl _)
  clear HG hB g_R g_G g_L g_H zw z_R z1_R z2_R y0_R y1_R c_R_0 f_R_0 c_R_1 f_R_1 z_G z1_G z2_G y0_G y1_G c_G_0 f_G_0 c_G_1 f_G_1 z_L z1_L z2_L y0_L y1_L c_L_0 f_L_0 c_L_1 f_L_1 z_H z1_H z2_H y0_H y1_H c_H_0 f_H_0 c_H_1 f_H_1
  clear hb5
  have g_R := h_R
  have g_G := h_G
  have g_L := h_L
  have g_H := h_H
  have g_N := h_N
  have hB := hB'
  clear hB' h_R h_G h_L h_H h_N
  obtain ⟨z_R, z1_R, z2_R, y0_R, y1_R⟩ := Hand.hz g_R
  obtain ⟨c_R_0, f_R_0, c_R_1, f_R_1⟩ := Hand.hc2 g_R
  obtain ⟨z_G, z1_G, z2_G, y0_G, y1_G⟩ := Hand.hz g_G
  obtain ⟨c_G_0, f_G_0, c_G_1, f_G_1⟩ := Hand.hc2 g_G
  obtain ⟨z_L, z1_L, z2_L, y0_L, y1_L⟩ := Hand.hz g_L
  obtain ⟨c_L_0, f_L_0, c_L_1, f_L_1⟩ := Hand.hc2 g_L
  obtain ⟨z_H, z1_H, z2_H, y0_H, y1_H⟩ := Hand.hz g_H
  obtain ⟨c_H_0, f_H_0, c_H_1, f_H_1⟩ := Hand.hc2 g_H
  obtain ⟨z_N, z1_N, z2_N, y0_N, y1_N⟩ := Hand.hz g_N
  obtain ⟨c_N_0, f_N_0, c_N_1, f_N_1⟩ := Hand.hc2 g_N
  have zw : w.heap.size ≤ w5.heap.size := hB.size
  have HG := Lib.hid (And.intro g_R (And.intro g_G (And.intro g_L (And.intro g_H (And.intro g_N (hB))))))
  clear g_R g_G g_L g_H g_N hB
  go_wp2_with fail
  with_reducible refine (F2.out _).mono ?_
  rintro e w6 ⟨rfl, hb6⟩
  obtain ⟨g_R, g_G, g_L, g_H, g_N, hB⟩ := HG.out
  have h_R : w6.heap[w.heap.size]? = some (.cells #[.int .i64 a, .int .i64 b] 24 (0, 0)) := by
    refine Hand.kb hb6 ?_; first | with_reducible exact g_R | (simp (disch := first | omega | (simp only [Hand.sa, Hand.ss, Hand.sd, Hand.sn]; first | done | omega)) only [Hand.q2, Hand.q1, Hand.q5, Hand.q6, Hand.q4, Hand.q3, g_R] <;> rfl)
  have h_G : w6.heap[w.heap.size + 1]? = some (.cells #[.int .i64 c, .int .i64 d] 24 (0, 0)) := by
    refine Hand.kb hb6 ?_; first | with_reducible exact g_G | (simp (disch := first | omega | (simp only [Hand.sa, Hand.ss, Hand.sd, Hand.sn]; first | done | omega)) only [Hand.q2, Hand.q1, Hand.q5, Hand.q6, Hand.q4, Hand.q3, g_G] <;> rfl)
  have h_L : w6.heap[w2.heap.size]? = some (.cells #[.int .i64 p1, .int .i64 q1] 24 (0, 0)) := by
    refine Hand.kb hb6 ?_; first | with_reducible exact g_L | (simp (disch := first | omega | (simp only [Hand.sa, Hand.ss, Hand.sd, Hand.sn]; first | done | omega)) only [Hand.q2, Hand.q1, Hand.q5, Hand.q6, Hand.q4, Hand.q3, g_L] <;> rfl)
  have h_H : w6.heap[w3.heap.size]? = some (.cells #[.int .i64 p3, .int .i64 q3] 24 (0, 0)) := by
    refine Hand.kb hb6 ?_; first | with_reducible exact g_H | (simp (disch := first | omega | (simp only [Hand.sa, Hand.ss, Hand.sd, Hand.sn]; first | done | omega)) only [Hand.q2, Hand.q1, Hand.q5, Hand.q6, Hand.q4, Hand.q3, g_H] <;> rfl)
  have h_N : w6.heap[w4.heap.size]? = some (.cells #[.int .i64 p2, .int .i64 q2] 24 (0, 0)) := by
    refine Hand.kb hb6 ?_; first | with_reducible exact g_N | (simp (disch := first | omega | (simp only [Hand.sa, Hand.ss, Hand.sd, Hand.sn]; first | done | omega)) only [Hand.q2, Hand.q1, Hand.q5, Hand.q6, Hand.q4, Hand.q3, g_N] <;> rfl)
  have hB' : Below w.heap.size w w6 := Hand.stepB hb6 (by repeat (with_reducible first | apply hB | apply Below.drew | apply pw_below_drewN | (apply Below.setCell; rotate_left; (dsimp only; omega)) | (apply Below.alloc; rotate_left; (first | omega | (simp only [Hand.sa, Hand.ss, Hand.sd, Hand.sn]; omega))))) (Nat.le_refl _)
  clear HG hB g_R g_G g_L g_H g_N zw z_R z1_R z2_R y0_R y1_R c_R_0 f_R_0 c_R_1 f_R_1 z_G z1_G z2_G y0_G y1_G c_G_0 f_G_0 c_G_1 f_G_1 z_L z1_L z2_L y0_L y1_L c_L_0 f_L_0 c_L_1 f_L_1 z_H z1_H z2_H y0_H y1_H c_H_0 f_H_0 c_H_1 f_H_1 z_N z1_N z2_N y0_N y1_N c_N_0 f_N_0 c_N_1 f_N_1
  clear hb6
  have g_R := h_R
  have g_G := h_G
  have g_L := h_L
  have g_H := h_H
  have g_N := h_N
  have hB := hB'
  clear hB' h_R h_G h_L h_H h_N
  obtain ⟨z_R, z1_R, z2_R, y0_R, y1_R⟩ := Hand.hz g_R
  obtain ⟨c_R_0, f_R_0, c_R_1, f_R_1⟩ := Hand.hc2 g_R
  obtain ⟨z_G, z1_G, z2_G, y0_G, y1_G⟩ := Hand.hz g_G
  obtain ⟨c_G_0, f_G_0, c_G_1, f_G_1⟩ := Hand.hc2 g_G
  obtain ⟨z_L, z1_L, z2_L, y0_L, y1_L⟩ := Hand.hz g_L
  obtain ⟨c_L_0, f_L_0, c_L_1, f_L_1⟩ := Hand.hc2 g_L
  obtain ⟨z_H, z1_H, z2_H, y0_H, y1_H⟩ := Hand.hz g_H
  obtain ⟨c_H_0, f_H_0, c_H_1, f_H_1⟩ := Hand.hc2 g_H
  obtain ⟨z_N, z1_N, z2_N, y0_N, y1_N⟩ := Hand.hz g_N
  obtain ⟨c_N_0, f_N_0, c_N_1, f_N_1⟩ := Hand.hc2 g_N
  have zw : w.heap.size ≤ w6.heap.size := hB.size
  have HG := Lib.hid (And.intro g_R (And.intro g_G (And.intro g_L (And.intro g_H (And.intro g_N (hB))))))
  clear g_R g_G g_L g_H g_N hB
  go_wp2_with fail
  with_reducible refine (F3.out _).mono ?_
  rintro e w7 ⟨rfl, hb7⟩
  obtain ⟨g_R, g_G, g_L, g_H, g_N, hB⟩ := HG.out
  have h_R : w7.heap[w.heap.size]? = some (.cells #[.int .i64 a, .int .i64 b] 24 (0, 0)) := by
    refine Hand.kb hb7 ?_; first | with_reducible exact g_R | (simp (disch := first | omega | (simp only [Hand.sa, Hand.ss, Hand.sd, Hand.sn]; first | done | omega)) only [Hand.q2, Hand.q1, Hand.q5, Hand.q6, Hand.q4, Hand.q3, g_R] <;> rfl)
  have h_G : w7.heap[w.heap.size + 1]? = some (.cells #[.int .i64 c, .int .i64 d] 24 (0, 0)) := by
    refine Hand.kb hb7 ?_; first | with_reducible exact g_G | (simp (disch := first | omega | (simp only [Hand.sa, Hand.ss, Hand.sd, Hand.sn]; first | done | omega)) only [Hand.q2, Hand.q1, Hand.q5, Hand.q6, Hand.q4, Hand.q3, g_G] <;> rfl)
  have h_L : w7.heap[w2.heap.size]? = some (.cells #[.int .i64 p1, .int .i64 q1] 24 (0, 0)) := by
    refine Hand.kb hb7 ?_; first | with_reducible exact g_L | (simp (disch := first | omega | (simp only [Hand.sa, Hand.ss, Hand.sd, Hand.sn]; first | done | omega)) only [Hand.q2, Hand.q1, Hand.q5, Hand.q6, Hand.q4, Hand.q3, g_L] <;> rfl)
  have h_H : w7.heap[w3.heap.size]? = some (.cells #[.int .i64 p3, .int .i64 q3] 24 (0, 0)) := by
    refine Hand.kb hb7 ?_; first | with_reducible exact g_H | (simp (disch := first | omega | (simp only [Hand.sa, Hand.ss, Hand.sd, Hand.sn]; first | done | omega)) only [Hand.q2, Hand.q1, Hand.q5, Hand.q6, Hand.q4, Hand.q3, g_H] <;> rfl)
  have h_N : w7.heap[w4.heap.size]? = some (.cells #[.int .i64 p2, .int .i64 q2] 24 (0, 0)) := by
    refine Hand.kb hb7 ?_; first | with_reducible exact g_N | (simp (disch := first | omega | (simp only [Hand.sa, Hand.ss, Hand.sd, Hand.sn]; first | done | omega)) only [Hand.q2, Hand.q1, Hand.q5, Hand.q6, Hand.q4, Hand.q3, g_N] <;> rfl)
  have hB' : Below w.heap.size w w7 := Hand.stepB hb7 (by repeat (with_reducible first | apply hB | apply Below.drew | apply pw_below_drewN | (apply Below.setCell; rotate_left; (dsimp only; omega)) | (apply Below.alloc; rotate_left; (first | omega | (simp only [Hand.sa, Hand.ss, Hand.sd, Hand.sn]; omega))))) (Nat.le_refl _)
  clear HG hB g_R g_G g_L g_H g_N zw z_R z1_R z2_R y0_R y1_R c_R_0 f_R_0 c_R_1 f_R_1 z_G z1_G z2_G y0_G y1_G c_G_0 f_G_0 c_G_1 f_G_1 z_L z1_L z2_L y0_L y1_L c_L_0 f_L_0 c_L_1 f_L_1 z_H z1_H z2_H y0_H y1_H c_H_0 f_H_0 c_H_1 f_H_1 z_N z1_N z2_N y0_N y1_N c_N_0 f_N_0 c_N_1 f_N_1
  clear hb7
  have g_R := h_R
  have g_G := h_G
  have g_L := h_L
  have g_H := h_H
  have g_N := h_N
  have hB := hB'
  clear hB' h_R h_G h_L h_H h_N
  obtain ⟨z_R, z1_R, z2_R, y0_R, y1_R⟩ := Hand.hz g_R
  obtain ⟨c_R_0, f_R_0, c_R_1, f_R_1⟩ := Hand.hc2 g_R
  obtain ⟨z_G, z1_G, z2_G, y0_G, y1_G⟩ := Hand.hz g_G
  obtain ⟨c_G_0, f_G_0, c_G_1, f_G_1⟩ := Hand.hc2 g_G
  obtain ⟨z_L, z1_L, z2_L, y0_L, y1_L⟩ := Hand.hz g_L
  obtain ⟨c_L_0, f_L_0, c_L_1, f_L_1⟩ := Hand.hc2 g_L
  obtain ⟨z_H, z1_H, z2_H, y0_H, y1_H⟩ := Hand.hz g_H
  obtain ⟨c_H_0, f_H_0, c_H_1, f_H_1⟩ := Hand.hc2 g_H
  obtain ⟨z_N, z1_N, z2_N, y0_N, y1_N⟩ := Hand.hz g_N
  obtain ⟨c_N_0, f_N_0, c_N_1, f_N_1⟩ := Hand.hc2 g_N
  have zw : w.heap.size ≤ w7.heap.size := hB.size
  have HG := Lib.hid (And.intro g_R (And.intro g_G (And.intro g_L (And.intro g_H (And.intro g_N (hB))))))
  clear g_R g_G g_L g_H g_N hB
  go_wp2
  go_ret
  obtain ⟨g_R, g_G, g_L, g_H, g_N, hB⟩ := HG.out
  exact ⟨rfl, hB⟩
set_option maxHeartbeats 8000000 in
set_option maxRecDepth 100000 in
theorem near_lo1 (a b c d p1 q1 p3 q3 x y z x' y' z' : Int) (w : World)
    (K0 : RB 16 #[] true)
    (S1 : RT 42 #[.agg #[.int .i64 a, .int .i64 b], .agg #[.int .i64 c, .int .i64 d], .int .i64 1] p1 q1 0)
    (S3 : RT 42 #[.agg #[.int .i64 a, .int .i64 b], .agg #[.int .i64 c, .int .i64 d], .int .i64 3] p3 q3 0)
    (S2 : RT 42 #[.agg #[.int .i64 a, .int .i64 b], .agg #[.int .i64 c, .int .i64 d], .int .i64 2] p1 q1 0)
    (F1 : RB 33 #[.int .i64 0] true)
    (F2 : RB 33 #[.int .i64 0] true)
    (F3 : RB 33 #[.int .i64 0] true)
    (C1 : RI 32 #[.agg #[.int .i64 p1, .int .i64 q1], .agg #[.int .i64 a, .int .i64 b]] (-1))
    (C2 : RI 32 #[.agg #[.int .i64 a, .int .i64 b], .agg #[.int .i64 p3, .int .i64 q3]] (-1))
    (D1 : RT 24 #[.agg #[.int .i64 p3, .int .i64 q3], .agg #[.int .i64 p1, .int .i64 q1]] c d 0)
    (F0 : RQ 33 #[.int .i64 0] true)
    (D2 : RT 24 #[.agg #[.int .i64 a, .int .i64 b], .agg #[.int .i64 p1, .int .i64 q1]] x y z)
    (D3 : RT 24 #[.agg #[.int .i64 p3, .int .i64 q3], .agg #[.int .i64 a, .int .i64 b]] x' y' z')
    (h13 : (p1 == p3 && q1 == q3) = false)
    (h31 : (p3 == p1 && q3 == q1) = false)
    (h1r : (p1 == a && q1 == b) = false)
    (E1 : RB 33 #[.int .i64 z] false) :
    Calls Tryd.prog 12 #[.agg #[.int .i64 a, .int .i64 b], .agg #[.int .i64 c, .int .i64 d]] w fun e w' => e = .returned (.bool true) ∧ Below w.heap.size w w' := by
  go_enter Tryd.func12, Tryd.ntmps12
  go_wp2_with fail
  with_reducible refine (K0.out _).mono ?_
  rintro e w1 ⟨rfl, hb1⟩
  have h_R : w1.heap[w.heap.size]? = some (.cells #[.int .i64 a, .int .i64 b] 24 (0, 0)) := by
    refine Hand.kb hb1 ?_; simp (disch := first | omega | (simp only [Hand.sa, Hand.ss, Hand.sd, Hand.sn]; first | done | omega)) only [Hand.q2, Hand.q1, Hand.q5, Hand.q6, Hand.q4, Hand.q3] <;> rfl
  have h_G : w1.heap[w.heap.size + 1]? = some (.cells #[.int .i64 c, .int .i64 d] 24 (0, 0)) := by
    refine Hand.kb hb1 ?_; simp (disch := first | omega | (simp only [Hand.sa, Hand.ss, Hand.sd, Hand.sn]; first | done | omega)) only [Hand.q2, Hand.q1, Hand.q5, Hand.q6, Hand.q4, Hand.q3] <;> rfl
  have hB' : Below w.heap.size w w1 := Hand.stepB hb1 (by repeat (with_reducible first | apply Below.refl _ _ | apply Below.drew | apply pw_below_drewN | (apply Below.setCell; rotate_left; (dsimp only; omega)) | (apply Below.alloc; rotate_left; (first | omega | (simp only [Hand.sa, Hand.ss, Hand.sd, Hand.sn]; omega))))) (Nat.le_refl _)
  clear hb1
  have g_R := h_R
  have g_G := h_G
  have hB := hB'
  clear hB' h_R h_G
  obtain ⟨z_R, z1_R, z2_R, y0_R, y1_R⟩ := Hand.hz g_R
  obtain ⟨c_R_0, f_R_0, c_R_1, f_R_1⟩ := Hand.hc2 g_R
  obtain ⟨z_G, z1_G, z2_G, y0_G, y1_G⟩ := Hand.hz g_G
  obtain ⟨c_G_0, f_G_0, c_G_1, f_G_1⟩ := Hand.hc2 g_G
  have zw : w.heap.size ≤ w1.heap.size := hB.size
  have HG := Lib.hid (And.intro g_R (And.intro g_G (hB)))
  clear g_R g_G hB
  go_wp2_with fail
  with_reducible refine (S1.out _).mono ?_
  rintro e w2 ⟨rfl, hb2⟩
  obtain ⟨g_R, g_G, hB⟩ := HG.out
  have h_R : w2.heap[w.heap.size]? = some (.cells #[.int .i64 a, .int .i64 b] 24 (0, 0)) := by
    refine Hand.kb hb2 ?_; first | with_reducible exact g_R | (simp (disch := first | omega | (simp only [Hand.sa, Hand.ss, Hand.sd, Hand.sn]; first | done | omega)) only [Hand.q2, Hand.q1, Hand.q5, Hand.q6, Hand.q4, Hand.q3, g_R] <;> rfl)
  have h_G : w2.heap[w.heap.size + 1]? = some (.cells #[.int .i64 c, .int .i64 d] 24 (0, 0)) := by
    refine Hand.kb hb2 ?_; first | with_reducible exact g_G | (simp (disch := first | omega | (simp only [Hand.sa, Hand.ss, Hand.sd, Hand.sn]; first | done | omega)) only [Hand.q2, Hand.q1, Hand.q5, Hand.q6, Hand.q4, Hand.q3, g_G] <;> rfl)
  have hB' : Below w.heap.size w w2 := Hand.stepB hb2 (by repeat (with_reducible first | apply hB | apply Below.drew | apply pw_below_drewN | (apply Below.setCell; rotate_left; (dsimp only; omega)) | (apply Below.alloc; rotate_left; (first | omega | (simp only [Hand.sa, Hand.ss, Hand.sd, Hand.sn]; omega))))) (Nat.le_refl _)
  clear HG hB g_R g_G zw z_R z1_R z2_R y0_R y1_R c_R_0 f_R_0 c_R_1 f_R_1 z_G z1_G z2_G y0_G y1_G c_G_0 f_G_0 c_G_1 f_G_1
  clear hb2
  have g_R := h_R
  have g_G := h_G
  have hB := hB'
  clear hB' h_R h_G
  obtain ⟨z_R, z1_R, z2_R, y0_R, y1_R⟩ := Hand.hz g_R
  obtain ⟨c_R_0, f_R_0, c_R_1, f_R_1⟩ := Hand.hc2 g_R
  obtain ⟨z_G, z1_G, z2_G, y0_G, y1_G⟩ := Hand.hz g_G
  obtain ⟨c_G_0, f_G_0, c_G_1, f_G_1⟩ := Hand.hc2 g_G
  have zw : w.heap.size ≤ w2.heap.size := hB.size
  have HG := Lib.hid (And.intro g_R (And.intro g_G (hB)))
  clear g_R g_G hB
  go_wp2_with fail
  with_reducible refine (S3.out _).mono ?_
  rintro e w3 ⟨rfl, hb3⟩
  obtain ⟨g_R, g_G, hB⟩ := HG.out
  have h_R : w3.heap[w.heap.size]? = some (.cells #[.int .i64 a, .int .i64 b] 24 (0, 0)) := by
    refine Hand.kb hb3 ?_; first | with_reducible exact g_R | (simp (disch := first | omega | (simp only [Hand.sa, Hand.ss, Hand.sd, Hand.sn]; first | done | omega)) only [Hand.q2, Hand.q1, Hand.q5, Hand.q6, Hand.q4, Hand.q3, g_R] <;> rfl)
  have h_G : w3.heap[w.heap.size + 1]? = some (.cells #[.int .i64 c, .int .i64 d] 24 (0, 0)) := by
    refine Hand.kb hb3 ?_; first | with_reducible exact g_G | (simp (disch := first | omega | (simp only [Hand.sa, Hand.ss, Hand.sd, Hand.sn]; first | done | omega)) only [Hand.q2, Hand.q1, Hand.q5, Hand.q6, Hand.q4, Hand.q3, g_G] <;> rfl)
  have h_L : w3.heap[w2.heap.size]? = some (.cells #[.int .i64 p1, .int .i64 q1] 24 (0, 0)) := by
    refine Hand.kb hb3 ?_; simp (disch := first | omega | (simp only [Hand.sa, Hand.ss, Hand.sd, Hand.sn]; first | done | omega)) only [Hand.q2, Hand.q1, Hand.q5, Hand.q6, Hand.q4, Hand.q3] <;> rfl
  have hB' : Below w.heap.size w w3 := Hand.stepB hb3 (by repeat (with_reducible first | apply hB | apply Below.drew | apply pw_below_drewN | (apply Below.setCell; rotate_left; (dsimp only; omega)) | (apply Below.alloc; rotate_left; (first | omega | (simp only [Hand.sa, Hand.ss, Hand.sd, Hand.sn]; omega))))) (Nat.le_refl _)
  clear HG hB g_R g_G zw z_R z1_R z2_R y0_R y1_R c_R_0 f_R_0 c_R_1 f_R_1 z_G z1_G z2_G y0_G y1_G c_G_0 f_G_0 c_G_1 f_G_1
  clear hb3
  have g_R := h_R
  have g_G := h_G
  have g_L := h_L
  have hB := hB'
  clear hB' h_R h_G h_L
  obtain ⟨z_R, z1_R, z2_R, y0_R, y1_R⟩ := Hand.hz g_R
  obtain ⟨c_R_0, f_R_0, c_R_1, f_R_1⟩ := Hand.hc2 g_R
  obtain ⟨z_G, z1_G, z2_G, y0_G, y1_G⟩ := Hand.hz g_G
  obtain ⟨c_G_0, f_G_0, c_G_1, f_G_1⟩ := Hand.hc2 g_G
  obtain ⟨z_L, z1_L, z2_L, y0_L, y1_L⟩ := Hand.hz g_L
  obtain ⟨c_L_0, f_L_0, c_L_1, f_L_1⟩ := Hand.hc2 g_L
  have zw : w.heap.size ≤ w3.heap.size := hB.size
  have HG := Lib.hid (And.intro g_R (And.intro g_G (And.intro g_L (hB))))
  clear g_R g_G g_L hB
  go_wp2_with fail
  with_reducible refine (S2.out _).mono ?_
  rintro e w4 ⟨rfl, hb4⟩
  obtain ⟨g_R, g_G, g_L, hB⟩ := HG.out
  have h_R : w4.heap[w.heap.size]? = some (.cells #[.int .i64 a, .int .i64 b] 24 (0, 0)) := by
    refine Hand.kb hb4 ?_; first | with_reducible exact g_R | (simp (disch := first | omega | (simp only [Hand.sa, Hand.ss, Hand.sd, Hand.sn]; first | done | omega)) only [Hand.q2, Hand.q1, Hand.q5, Hand.q6, Hand.q4, Hand.q3, g_R] <;> rfl)
  have h_G : w4.heap[w.heap.size + 1]? = some (.cells #[.int .i64 c, .int .i64 d] 24 (0, 0)) := by
    refine Hand.kb hb4 ?_; first | with_reducible exact g_G | (simp (disch := first | omega | (simp only [Hand.sa, Hand.ss, Hand.sd, Hand.sn]; first | done | omega)) only [Hand.q2, Hand.q1, Hand.q5, Hand.q6, Hand.q4, Hand.q3, g_G] <;> rfl)
  have h_L : w4.heap[w2.heap.size]? = some (.cells #[.int .i64 p1, .int .i64 q1] 24 (0, 0)) := by
    refine Hand.kb hb4 ?_; first | with_reducible exact g_L | (simp (disch := first | omega | (simp only [Hand.sa, Hand.ss, Hand.sd, Hand.sn]; first | done | omega)) only [Hand.q2, Hand.q1, Hand.q5, Hand.q6, Hand.q4, Hand.q3, g_L] <;> rfl)
  have h_H : w4.heap[w3.heap.size]? = some (.cells #[.int .i64 p3, .int .i64 q3] 24 (0, 0)) := by
    refine Hand.kb hb4 ?_; simp (disch := first | omega | (simp only [Hand.sa, Hand.ss, Hand.sd, Hand.sn]; first | done | omega)) only [Hand.q2, Hand.q1, Hand.q5, Hand.q6, Hand.q4, Hand.q3] <;> rfl
  have hB' : Below w.heap.size w w4 := Hand.stepB hb4 (by repeat (with_reducible first | apply hB | apply Below.drew | apply pw_below_drewN | (apply Below.setCell; rotate_left; (dsimp only; omega)) | (apply Below.alloc; rotate_left; (first | omega | (simp only [Hand.sa, Hand.ss, Hand.sd, Hand.sn]; omega))))) (Nat.le_refl _)
  clear HG hB g_R g_G g_L zw z_R z1_R z2_R y0_R y1_R c_R_0 f_R_0 c_R_1 f_R_1 z_G z1_G z2_G y0_G y1_G c_G_0 f_G_0 c_G_1 f_G_1 z_L z1_L z2_L y0_L y1_L c_L_0 f_L_0 c_L_1 f_L_1
  clear hb4
  have g_R := h_R
  have g_G := h_G
  have g_L := h_L
  have g_H := h_H
  have hB := hB'
  clear hB' h_R h_G h_L h_H
  obtain ⟨z_R, z1_R, z2_R, y0_R, y1_R⟩ := Hand.hz g_R
  obtain ⟨c_R_0, f_R_0, c_R_1, f_R_1⟩ := Hand.hc2 g_R
  obtain ⟨z_G, z1_G, z2_G, y0_G, y1_G⟩ := Hand.hz g_G
  obtain ⟨c_G_0, f_G_0, c_G_1, f_G_1⟩ := Hand.hc2 g_G
  obtain ⟨z_L, z1_L, z2_L, y0_L, y1_L⟩ := Hand.hz g_L
  obtain ⟨c_L_0, f_L_0, c_L_1, f_L_1⟩ := Hand.hc2 g_L
  obtain ⟨z_H, z1_H, z2_H, y0_H, y1_H⟩ := Hand.hz g_H
  obtain ⟨c_H_0, f_H_0, c_H_1, f_H_1⟩ := Hand.hc2 g_H
  have zw : w.heap.size ≤ w4.heap.size := hB.size
  have HG := Lib.hid (And.intro g_R (And.intro g_G (And.intro g_L (And.intro g_H (hB)))))
  clear g_R g_G g_L g_H hB
  go_wp2_with fail
  with_reducible refine (F1.out _).mono ?_
  rintro e w5 ⟨rfl, hb5⟩
  obtain ⟨g_R, g_G, g_L, g_H, hB⟩ := HG.out
  have h_R : w5.heap[w.heap.size]? = some (.cells #[.int .i64 a, .int .i64 b] 24 (0, 0)) := by
    refine Hand.kb hb5 ?_; first | with_reducible exact g_R | (simp (disch := first | omega | (simp only [Hand.sa, Hand.ss, Hand.sd, Hand.sn]; first | done | omega)) only [Hand.q2, Hand.q1, Hand.q5, Hand.q6, Hand.q4, Hand.q3, g_R] <;> rfl)
  have h_G : w5.heap[w.heap.size + 1]? = some (.cells #[.int .i64 c, .int .i64 d] 24 (0, 0)) := by
    refine Hand.kb hb5 ?_; first | with_reducible exact g_G | (simp (disch := first | omega | (simp only [Hand.sa, Hand.ss, Hand.sd, Hand.sn]; first | done | omega)) only [Hand.q2, Hand.q1, Hand.q5, Hand.q6, Hand.q4, Hand.q3, g_G] <;> rfl)
  have h_L : w5.heap[w2.heap.size]? = some (.cells #[.int .i64 p1, .int .i64 q1] 24 (0, 0)) := by
    refine Hand.kb hb5 ?_; first | with_reducible exact g_L | (simp (disch := first | omega | (simp only [Hand.sa, Hand.ss, Hand.sd, Hand.sn]; first | done | omega)) only [Hand.q2, Hand.q1, Hand.q5, Hand.q6, Hand.q4, Hand.q3, g_L] <;> rfl)
  have h_H : w5.heap[w3.heap.size]? = some (.cells #[.int .i64 p3, .int .i64 q3] 24 (0, 0)) := by
    refine Hand.kb hb5 ?_; first | with_reducible exact g_H | (simp (disch := first | omega | (simp only [Hand.sa, Hand.ss, Hand.sd, Hand.sn]; first | done | omega)) only [Hand.q2, Hand.q1, Hand.q5, Hand.q6, Hand.q4, Hand.q3, g_H] <;> rfl)
  have h_N : w5.heap[w4.heap.size]? = some (.cells #[.int .i64 p1, .int .i64 q1] 24 (0, 0)) := by
    refine Hand.kb hb5 ?_; simp (disch := first | omega | (simp only [Hand.sa, Hand.ss, Hand.sd, Hand.sn]; first | done | omega)) only [Hand.q2, Hand.q1, Hand.q5, Hand.q6, Hand.q4, Hand.q3] <;> rfl
  have hB' : Below w.heap.size w w5 := Hand.stepB hb5 (by repeat (with_reducible first | apply hB | apply Below.drew | apply pw_below_drewN | (apply Below.setCell; rotate_left; (dsimp only; omega)) | (apply Below.alloc; rotate_left; (first | omega | (simp only [Hand.sa, Hand.ss, Hand.sd, Hand.sn]; omega))))) (Nat.le_refl _)
  clear HG hB g_R g_G g_L g_H zw z_R z1_R z2_R y0_R y1_R c_R_0 f_R_0 c_R_1 f_R_1 z_G z1_G z2_G y0_G y1_G c_G_0 f_G_0 c_G_1 f_G_1 z_L z1_L z2_L y0_L y1_L c_L_0 f_L_0 c_L_1 f_L_1 z_H z1_H z2_H y0_H y1_H c_H_0 f_H_0 c_H_1 f_H_1
  clear hb5
  have g_R := h_R
  have g_G := h_G
  have g_L := h_L
  have g_H := h_H
  have g_N := h_N
  have hB := hB'
  clear hB' h_R h_G h_L h_H h_N
  obtain ⟨z_R, z1_R, z2_R, y0_R, y1_R⟩ := Hand.hz g_R
  obtain ⟨c_R_0, f_R_0, c_R_1, f_R_1⟩ := Hand.hc2 g_R
  obtain ⟨z_G, z1_G, z2_G, y0_G, y1_G⟩ := Hand.hz g_G
  obtain ⟨c_G_0, f_G_0, c_G_1, f_G_1⟩ := Hand.hc2 g_G
  obtain ⟨z_L, z1_L, z2_L, y0_L, y1_L⟩ := Hand.hz g_L
  obtain ⟨c_L_0, f_L_0, c_L_1, f_L_1⟩ := Hand.hc2 g_L
  obtain ⟨z_H, z1_H, z2_H, y0_H, y1_H⟩ := Hand.hz g_H
  obtain ⟨c_H_0, f_H_0, c_H_1, f_H_1⟩ := Hand.hc2 g_H
  obtain ⟨z_N, z1_N, z2_N, y0_N, y1_N⟩ := Hand.hz g_N
  obtain ⟨c_N_0, f_N_0, c_N_1, f_N_1⟩ := Hand.hc2 g_N
  have zw : w.heap.size ≤ w5.heap.size := hB.size
  have HG := Lib.hid (And.intro g_R (And.intro g_G (And.intro g_L (And.intro g_H (And.intro g_N (hB))))))
  clear g_R g_G g_L g_H g_N hB
  go_wp2_with fail
  with_reducible refine (F2.out _).mono ?_
  rintro e w6 ⟨rfl, hb6⟩
  obtain ⟨g_R, g_G, g_L, g_H, g_N, hB⟩ := HG.out
  have h_R : w6.heap[w.heap.size]? = some (.cells #[.int .i64 a, .int .i64 b] 24 (0, 0)) := by
    refine Hand.kb hb6 ?_; first | with_reducible exact g_R | (simp (disch := first | omega | (simp only [Hand.sa, Hand.ss, Hand.sd, Hand.sn]; first | done | omega)) only [Hand.q2, Hand.q1, Hand.q5, Hand.q6, Hand.q4, Hand.q3, g_R] <;> rfl)
  have h_G : w6.heap[w.heap.size + 1]? = some (.cells #[.int .i64 c, .int .i64 d] 24 (0, 0)) := by
    refine Hand.kb hb6 ?_; first | with_reducible exact g_G | (simp (disch := first | omega | (simp only [Hand.sa, Hand.ss, Hand.sd, Hand.sn]; first | done | omega)) only [Hand.q2, Hand.q1, Hand.q5, Hand.q6, Hand.q4, Hand.q3, g_G] <;> rfl)
  have h_L : w6.heap[w2.heap.size]? = some (.cells #[.int .i64 p1, .int .i64 q1] 24 (0, 0)) := by
    refine Hand.kb hb6 ?_; first | with_reducible exact g_L | (simp (disch := first | omega | (simp only [Hand.sa, Hand.ss, Hand.sd, Hand.sn]; first | done | omega)) only [Hand.q2, Hand.q1, Hand.q5, Hand.q6, Hand.q4, Hand.q3, g_L] <;> rfl)
  have h_H : w6.heap[w3.heap.size]? = some (.cells #[.int .i64 p3, .int .i64 q3] 24 (0, 0)) := by
    refine Hand.kb hb6 ?_; first | with_reducible exact g_H | (simp (disch := first | omega | (simp only [Hand.sa, Hand.ss, Hand.sd, Hand.sn]; first | done | omega)) only [Hand.q2, Hand.q1, Hand.q5, Hand.q6, Hand.q4, Hand.q3, g_H] <;> rfl)
  have h_N : w6.heap[w4.heap.size]? = some (.cells #[.int .i64 p1, .int .i64 q1] 24 (0, 0)) := by
    refine Hand.kb hb6 ?_; first | with_reducible exact g_N | (simp (disch := first | omega | (simp only [Hand.sa, Hand.ss, Hand.sd, Hand.sn]; first | done | omega)) only [Hand.q2, Hand.q1, Hand.q5, Hand.q6, Hand.q4, Hand.q3, g_N] <;> rfl)
  have hB' : Below w.heap.size w w6 := Hand.stepB hb6 (by repeat (with_reducible first | apply hB | apply Below.drew | apply pw_below_drewN | (apply Below.setCell; rotate_left; (dsimp only; omega)) | (apply Below.alloc; rotate_left; (first | omega | (simp only [Hand.sa, Hand.ss, Hand.sd, Hand.sn]; omega))))) (Nat.le_refl _)
  clear HG hB g_R g_G g_L g_H g_N zw z_R z1_R z2_R y0_R y1_R c_R_0 f_R_0 c_R_1 f_R_1 z_G z1_G z2_G y0_G y1_G c_G_0 f_G_0 c_G_1 f_G_1 z_L z1_L z2_L y0_L y1_L c_L_0 f_L_0 c_L_1 f_L_1 z_H z1_H z2_H y0_H y1_H c_H_0 f_H_0 c_H_1 f_H_1 z_N z1_N z2_N y0_N y1_N c_N_0 f_N_0 c_N_1 f_N_1
  clear hb6
  have g_R := h_R
  have g_G := h_G
  have g_L := h_L
  have g_H := h_H
  have g_N := h_N
  have hB := hB'
  clear hB' h_R h_G h_L h_H h_N
  obtain ⟨z_R, z1_R, z2_R, y0_R, y1_R⟩ := Hand.hz g_R
  obtain ⟨c_R_0, f_R_0, c_R_1, f_R_1⟩ := Hand.hc2 g_R
  obtain ⟨z_G, z1_G, z2_G, y0_G, y1_G⟩ := Hand.hz g_G
  obtain ⟨c_G_0, f_G_0, c_G_1, f_G_1⟩ := Hand.hc2 g_G
  obtain ⟨z_L, z1_L, z2_L, y0_L, y1_L⟩ := Hand.hz g_L
  obtain ⟨c_L_0, f_L_0, c_L_1, f_L_1⟩ := Hand.hc2 g_L
  obtain ⟨z_H, z1_H, z2_H, y0_H, y1_H⟩ := Hand.hz g_H
  obtain ⟨c_H_0, f_H_0, c_H_1, f_H_1⟩ := Hand.hc2 g_H
  obtain ⟨z_N, z1_N, z2_N, y0_N, y1_N⟩ := Hand.hz g_N
  obtain ⟨c_N_0, f_N_0, c_N_1, f_N_1⟩ := Hand.hc2 g_N
  have zw : w.heap.size ≤ w6.heap.size := hB.size
  have HG := Lib.hid (And.intro g_R (And.intro g_G (And.intro g_L (And.intro g_H (And.intro g_N (hB))))))
  clear g_R g_G g_L g_H g_N hB
  go_wp2_with fail
  with_reducible refine (F3.out _).mono ?_
  rintro e w7 ⟨rfl, hb7⟩
  obtain ⟨g_R, g_G, g_L, g_H, g_N, hB⟩ := HG.out
  have h_R : w7.heap[w.heap.size]? = some (.cells #[.int .i64 a, .int .i64 b] 24 (0, 0)) := by
    refine Hand.kb hb7 ?_; first | with_reducible exact g_R | (simp (disch := first | omega | (simp only [Hand.sa, Hand.ss, Hand.sd, Hand.sn]; first | done | omega)) only [Hand.q2, Hand.q1, Hand.q5, Hand.q6, Hand.q4, Hand.q3, g_R] <;> rfl)
  have h_G : w7.heap[w.heap.size + 1]? = some (.cells #[.int .i64 c, .int .i64 d] 24 (0, 0)) := by
    refine Hand.kb hb7 ?_; first | with_reducible exact g_G | (simp (disch := first | omega | (simp only [Hand.sa, Hand.ss, Hand.sd, Hand.sn]; first | done | omega)) only [Hand.q2, Hand.q1, Hand.q5, Hand.q6, Hand.q4, Hand.q3, g_G] <;> rfl)
  have h_L : w7.heap[w2.heap.size]? = some (.cells #[.int .i64 p1, .int .i64 q1] 24 (0, 0)) := by
    refine Hand.kb hb7 ?_; first | with_reducible exact g_L | (simp (disch := first | omega | (simp only [Hand.sa, Hand.ss, Hand.sd, Hand.sn]; first | done | omega)) only [Hand.q2, Hand.q1, Hand.q5, Hand.q6, Hand.q4, Hand.q3, g_L] <;> rfl)
  have h_H : w7.heap[w3.heap.size]? = some (.cells #[.int .i64 p3, .int .i64 q3] 24 (0, 0)) := by
    refine Hand.kb hb7 ?_; first | with_reducible exact g_H | (simp (disch := first | omega | (simp only [Hand.sa, Hand.ss, Hand.sd, Hand.sn]; first | done | omega)) only [Hand.q2, Hand.q1, Hand.q5, Hand.q6, Hand.q4, Hand.q3, g_H] <;> rfl)
  have h_N : w7.heap[w4.heap.size]? = some (.cells #[.int .i64 p1, .int .i64 q1] 24 (0, 0)) := by
    refine Hand.kb hb7 ?_; first | with_reducible exact g_N | (simp (disch := first | omega | (simp only [Hand.sa, Hand.ss, Hand.sd, Hand.sn]; first | done | omega)) only [Hand.q2, Hand.q1, Hand.q5, Hand.q6, Hand.q4, Hand.q3, g_N] <;> rfl)
  have hB' : Below w.heap.size w w7 := Hand.stepB hb7 (by repeat (with_reducible first | apply hB | apply Below.drew | apply pw_below_drewN | (apply Below.setCell; rotate_left; (dsimp only; omega)) | (apply Below.alloc; rotate_left; (first | omega | (simp only [Hand.sa, Hand.ss, Hand.sd, Hand.sn]; omega))))) (Nat.le_refl _)
  clear HG hB g_R g_G g_L g_H g_N zw z_R z1_R z2_R y0_R y1_R c_R_0 f_R_0 c_R_1 f_R_1 z_G z1_G z2_G y0_G y1_G c_G_0 f_G_0 c_G_1 f_G_1 z_L z1_L z2_L y0_L y1_L c_L_0 f_L_0 c_L_1 f_L_1 z_H z1_H z2_H y0_H y1_H c_H_0 f_H_0 c_H_1 f_H_1 z_N z1_N z2_N y0_N y1_N c_N_0 f_N_0 c_N_1 f_N_1
  clear hb7
  have g_R := h_R
  have g_G := h_G
  have g_L := h_L
  have g_H := h_H
  have g_N := h_N
  have hB := hB'
  clear hB' h_R h_G h_L h_H h_N
  obtain ⟨z_R, z1_R, z2_R, y0_R, y1_R⟩ := Hand.hz g_R
  obtain ⟨c_R_0, f_R_0, c_R_1, f_R_1⟩ := Hand.hc2 g_R
  obtain ⟨z_G, z1_G, z2_G, y0_G, y1_G⟩ := Hand.hz g_G
  obtain ⟨c_G_0, f_G_0, c_G_1, f_G_1⟩ := Hand.hc2 g_G
  obtain ⟨z_L, z1_L, z2_L, y0_L, y1_L⟩ := Hand.hz g_L
  obtain ⟨c_L_0, f_L_0, c_L_1, f_L_1⟩ := Hand.hc2 g_L
  obtain ⟨z_H, z1_H, z2_H, y0_H, y1_H⟩ := Hand.hz g_H
  obtain ⟨c_H_0, f_H_0, c_H_1, f_H_1⟩ := Hand.hc2 g_H
  obtain ⟨z_N, z1_N, z2_N, y0_N, y1_N⟩ := Hand.hz g_N
  obtain ⟨c_N_0, f_N_0, c_N_1, f_N_1⟩ := Hand.hc2 g_N
  have zw : w.heap.size ≤ w7.heap.size := hB.size
  have HG := Lib.hid (And.intro g_R (And.intro g_G (And.intro g_L (And.intro g_H (And.intro g_N (hB))))))
  clear g_R g_G g_L g_H g_N hB
  go_wp2_with fail
  with_reducible refine (C1.out _).mono ?_
  rintro e w8 ⟨rfl, hb8⟩
  obtain ⟨g_R, g_G, g_L, g_H, g_N, hB⟩ := HG.out
  have h_R : w8.heap[w.heap.size]? = some (.cells #[.int .i64 a, .int .i64 b] 24 (0, 0)) := by
    refine Hand.kb hb8 ?_; first | with_reducible exact g_R | (simp (disch := first | omega | (simp only [Hand.sa, Hand.ss, Hand.sd, Hand.sn]; first | done | omega)) only [Hand.q2, Hand.q1, Hand.q5, Hand.q6, Hand.q4, Hand.q3, g_R] <;> rfl)
  have h_G : w8.heap[w.heap.size + 1]? = some (.cells #[.int .i64 c, .int .i64 d] 24 (0, 0)) := by
    refine Hand.kb hb8 ?_; first | with_reducible exact g_G | (simp (disch := first | omega | (simp only [Hand.sa, Hand.ss, Hand.sd, Hand.sn]; first | done | omega)) only [Hand.q2, Hand.q1, Hand.q5, Hand.q6, Hand.q4, Hand.q3, g_G] <;> rfl)
  have h_L : w8.heap[w2.heap.size]? = some (.cells #[.int .i64 p1, .int .i64 q1] 24 (0, 0)) := by
    refine Hand.kb hb8 ?_; first | with_reducible exact g_L | (simp (disch := first | omega | (simp only [Hand.sa, Hand.ss, Hand.sd, Hand.sn]; first | done | omega)) only [Hand.q2, Hand.q1, Hand.q5, Hand.q6, Hand.q4, Hand.q3, g_L] <;> rfl)
  have h_H : w8.heap[w3.heap.size]? = some (.cells #[.int .i64 p3, .int .i64 q3] 24 (0, 0)) := by
    refine Hand.kb hb8 ?_; first | with_reducible exact g_H | (simp (disch := first | omega | (simp only [Hand.sa, Hand.ss, Hand.sd, Hand.sn]; first | done | omega)) only [Hand.q2, Hand.q1, Hand.q5, Hand.q6, Hand.q4, Hand.q3, g_H] <;> rfl)
  have h_N : w8.heap[w4.heap.size]? = some (.cells #[.int .i64 p1, .int .i64 q1] 24 (0, 0)) := by
    refine Hand.kb hb8 ?_; first | with_reducible exact g_N | (simp (disch := first | omega | (simp only [Hand.sa, Hand.ss, Hand.sd, Hand.sn]; first | done | omega)) only [Hand.q2, Hand.q1, Hand.q5, Hand.q6, Hand.q4, Hand.q3, g_N] <;> rfl)
  have hB' : Below w.heap.size w w8 := Hand.stepB hb8 (by repeat (with_reducible first | apply hB | apply Below.drew | apply pw_below_drewN | (apply Below.setCell; rotate_left; (dsimp only; omega)) | (apply Below.alloc; rotate_left; (first | omega | (simp only [Hand.sa, Hand.ss, Hand.sd, Hand.sn]; omega))))) (Nat.le_refl _)
  clear HG hB g_R g_G g_L g_H g_N zw z_R z1_R z2_R y0_R y1_R c_R_0 f_R_0 c_R_1 f_R_1 z_G z1_G z2_G y0_G y1_G c_G_0 f_G_0 c_G_1 f_G_1 z_L z1_L z2_L y0_L y1_L c_L_0 f_L_0 c_L_1 f_L_1 z_H z1_H z2_H y0_H y1_H c_H_0 f_H_0 c_H_1 f_H_1 z_N z1_N z2_N y0_N y1_N c_N_0 f_N_0 c_N_1 f_N_1
  clear hb8
  have g_R := h_R
  have g_G := h_G
  have g_L := h_L
  have g_H := h_H
  have g_N := h_N
  have hB := hB'
  clear hB' h_R h_G h_L h_H h_N
  obtain ⟨z_R, z1_R, z2_R, y0_R, y1_R⟩ := Hand.hz g_R
  obtain ⟨c_R_0, f_R_0, c_R_1, f_R_1⟩ := Hand.hc2 g_R
  obtain ⟨z_G, z1_G, z2_G, y0_G, y1_G⟩ := Hand.hz g_G
  obtain ⟨c_G_0, f_G_0, c_G_1, f_G_1⟩ := Hand.hc2 g_G
  obtain ⟨z_L, z1_L, z2_L, y0_L, y1_L⟩ := Hand.hz g_L
  obtain ⟨c_L_0, f_L_0, c_L_1, f_L_1⟩ := Hand.hc2 g_L
  obtain ⟨z_H, z1_H, z2_H, y0_H, y1_H⟩ := Hand.hz g_H
  obtain ⟨c_H_0, f_H_0, c_H_1, f_H_1⟩ := Hand.hc2 g_H
  obtain ⟨z_N, z1_N, z2_N, y0_N, y1_N⟩ := Hand.hz g_N
  obtain ⟨c_N_0, f_N_0, c_N_1, f_N_1⟩ := Hand.hc2 g_N
  have zw : w.heap.size ≤ w8.heap.size := hB.size
  have HG := Lib.hid (And.intro g_R (And.intro g_G (And.intro g_L (And.intro g_H (And.intro g_N (hB))))))
  clear g_R g_G g_L g_H g_N hB
  go_wp2_with fail
  with_reducible refine (C2.out _).mono ?_
  rintro e w9 ⟨rfl, hb9⟩
  obtain ⟨g_R, g_G, g_L, g_H, g_N, hB⟩ := HG.out
  have h_R : w9.heap[w.heap.size]? = some (.cells #[.int .i64 a, .int .i64 b] 24 (0, 0)) := by
    refine Hand.kb hb9 ?_; first | with_reducible exact g_R | (simp (disch := first | omega | (simp only [Hand.sa, Hand.ss, Hand.sd, Hand.sn]; first | done | omega)) only [Hand.q2, Hand.q1, Hand.q5, Hand.q6, Hand.q4, Hand.q3, g_R] <;> rfl)
  have h_G : w9.heap[w.heap.size + 1]? = some (.cells #[.int .i64 c, .int .i64 d] 24 (0, 0)) := by
    refine Hand.kb hb9 ?_; first | with_reducible exact g_G | (simp (disch := first | omega | (simp only [Hand.sa, Hand.ss, Hand.sd, Hand.sn]; first | done | omega)) only [Hand.q2, Hand.q1, Hand.q5, Hand.q6, Hand.q4, Hand.q3, g_G] <;> rfl)
  have h_L : w9.heap[w2.heap.size]? = some (.cells #[.int .i64 p1, .int .i64 q1] 24 (0, 0)) := by
    refine Hand.kb hb9 ?_; first | with_reducible exact g_L | (simp (disch := first | omega | (simp only [Hand.sa, Hand.ss, Hand.sd, Hand.sn]; first | done | omega)) only [Hand.q2, Hand.q1, Hand.q5, Hand.q6, Hand.q4, Hand.q3, g_L] <;> rfl)
  have h_H : w9.heap[w3.heap.size]? = some (.cells #[.int .i64 p3, .int .i64 q3] 24 (0, 0)) := by
    refine Hand.kb hb9 ?_; first | with_reducible exact g_H | (simp (disch := first | omega | (simp only [Hand.sa, Hand.ss, Hand.sd, Hand.sn]; first | done | omega)) only [Hand.q2, Hand.q1, Hand.q5, Hand.q6, Hand.q4, Hand.q3, g_H] <;> rfl)
  have h_N : w9.heap[w4.heap.size]? = some (.cells #[.int .i64 p1, .int .i64 q1] 24 (0, 0)) := by
    refine Hand.kb hb9 ?_; first | with_reducible exact g_N | (simp (disch := first | omega | (simp only [Hand.sa, Hand.ss, Hand.sd, Hand.sn]; first | done | omega)) only [Hand.q2, Hand.q1, Hand.q5, Hand.q6, Hand.q4, Hand.q3, g_N] <;> rfl)
  have hB' : Below w.heap.size w w9 := Hand.stepB hb9 (by repeat (with_reducible first | apply hB | apply Below.drew | apply pw_below_drewN | (apply Below.setCell; rotate_left; (dsimp only; omega)) | (apply Below.alloc; rotate_left; (first | omega | (simp only [Hand.sa, Hand.ss, Hand.sd, Hand.sn]; omega))))) (Nat.le_refl _)
  clear HG hB g_R g_G g_L g_H g_N zw z_R z1_R z2_R y0_R y1_R c_R_0 f_R_0 c_R_1 f_R_1 z_G z1_G z2_G y0_G y1_G c_G_0 f_G_0 c_G_1 f_G_1 z_L z1_L z2_L y0_L y1_L c_L_0 f_L_0 c_L_1 f_L_1 z_H z1_H z2_H y0_H y1_H c_H_0 f_H_0 c_H_1 f_H_1 z_N z1_N z2_N y0_N y1_N c_N_0 f_N_0 c_N_1 f_N_1
  clear hb9
  have g_R := h_R
  have g_G := h_G
  have g_L := h_L
  have g_H := h_H
  have g_N := h_N
  have hB := hB'
  clear hB' h_R h_G h_L h_H h_N
  obtain ⟨z_R, z1_R, z2_R, y0_R, y1_R⟩ := Hand.hz g_R
  obtain ⟨c_R_0, f_R_0, c_R_1, f_R_1⟩ := Hand.hc2 g_R
  obtain ⟨z_G, z1_G, z2_G, y0_G, y1_G⟩ := Hand.hz g_G
  obtain ⟨c_G_0, f_G_0, c_G_1, f_G_1⟩ := Hand.hc2 g_G
  obtain ⟨z_L, z1_L, z2_L, y0_L, y1_L⟩ := Hand.hz g_L
  obtain ⟨c_L_0, f_L_0, c_L_1, f_L_1⟩ := Hand.hc2 g_L
  obtain ⟨z_H, z1_H, z2_H, y0_H, y1_H⟩ := Hand.hz g_H
  obtain ⟨c_H_0, f_H_0, c_H_1, f_H_1⟩ := Hand.hc2 g_H
  obtain ⟨z_N, z1_N, z2_N, y0_N, y1_N⟩ := Hand.hz g_N
  obtain ⟨c_N_0, f_N_0, c_N_1, f_N_1⟩ := Hand.hc2 g_N
  have zw : w.heap.size ≤ w9.heap.size := hB.size
  have HG := Lib.hid (And.intro g_R (And.intro g_G (And.intro g_L (And.intro g_H (And.intro g_N (hB))))))
  clear g_R g_G g_L g_H g_N hB
  go_wp2_with fail
  with_reducible refine (D1.out _).mono ?_
  rintro e w10 ⟨rfl, hb10⟩
  obtain ⟨g_R, g_G, g_L, g_H, g_N, hB⟩ := HG.out
  have h_R : w10.heap[w.heap.size]? = some (.cells #[.int .i64 a, .int .i64 b] 24 (0, 0)) := by
    refine Hand.kb hb10 ?_; first | with_reducible exact g_R | (simp (disch := first | omega | (simp only [Hand.sa, Hand.ss, Hand.sd, Hand.sn]; first | done | omega)) only [Hand.q2, Hand.q1, Hand.q5, Hand.q6, Hand.q4, Hand.q3, g_R] <;> rfl)
  have h_G : w10.heap[w.heap.size + 1]? = some (.cells #[.int .i64 c, .int .i64 d] 24 (0, 0)) := by
    refine Hand.kb hb10 ?_; first | with_reducible exact g_G | (simp (disch := first | omega | (simp only [Hand.sa, Hand.ss, Hand.sd, Hand.sn]; first | done | omega)) only [Hand.q2, Hand.q1, Hand.q5, Hand.q6, Hand.q4, Hand.q3, g_G] <;> rfl)
  have h_L : w10.heap[w2.heap.size]? = some (.cells #[.int .i64 p1, .int .i64 q1] 24 (0, 0)) := by
    refine Hand.kb hb10 ?_; first | with_reducible exact g_L | (simp (disch := first | omega | (simp only [Hand.sa, Hand.ss, Hand.sd, Hand.sn]; first | done | omega)) only [Hand.q2, Hand.q1, Hand.q5, Hand.q6, Hand.q4, Hand.q3, g_L] <;> rfl)
  have h_H : w10.heap[w3.heap.size]? = some (.cells #[.int .i64 p3, .int .i64 q3] 24 (0, 0)) := by
    refine Hand.kb hb10 ?_; first | with_reducible exact g_H | (simp (disch := first | omega | (simp only [Hand.sa, Hand.ss, Hand.sd, Hand.sn]; first | done | omega)) only [Hand.q2, Hand.q1, Hand.q5, Hand.q6, Hand.q4, Hand.q3, g_H] <;> rfl)
  have h_N : w10.heap[w4.heap.size]? = some (.cells #[.int .i64 p1, .int .i64 q1] 24 (0, 0)) := by
    refine Hand.kb hb10 ?_; first | with_reducible exact g_N | (simp (disch := first | omega | (simp only [Hand.sa, Hand.ss, Hand.sd, Hand.sn]; first | done | omega)) only [Hand.q2, Hand.q1, Hand.q5, Hand.q6, Hand.q4, Hand.q3, g_N] <;> rfl)
  have hB' : Below w.heap.size w w10 := Hand.stepB hb10 (by repeat (with_reducible first | apply hB | apply Below.drew | apply pw_below_drewN | (apply Below.setCell; rotate_left; (dsimp only; omega)) | (apply Below.alloc; rotate_left; (first | omega | (simp only [Hand.sa, Hand.ss, Hand.sd, Hand.sn]; omega))))) (Nat.le_refl _)
  clear HG hB g_R g_G g_L g_H g_N zw z_R z1_R z2_R y0_R y1_R c_R_0 f_R_0 c_R_1 f_R_1 z_G z1_G z2_G y0_G y1_G c_G_0 f_G_0 c_G_1 f_G_1 z_L z1_L z2_L y0_L y1_L c_L_0 f_L_0 c_L_1 f_L_1 z_H z1_H z2_H y0_H y1_H c_H_0 f_H_0 c_H_1 f_H_1 z_N z1_N z2_N y0_N y1_N c_N_0 f_N_0 c_N_1 f_N_1
  clear hb10
  have g_R := h_R
  have g_G := h_G
  have g_L := h_L
  have g_H := h_H
  have g_N := h_N
  have hB := hB'
  clear hB' h_R h_G h_L h_H h_N
  obtain ⟨z_R, z1_R, z2_R, y0_R, y1_R⟩ := Hand.hz g_R
  obtain ⟨c_R_0, f_R_0, c_R_1, f_R_1⟩ := Hand.hc2 g_R
  obtain ⟨z_G, z1_G, z2_G, y0_G, y1_G⟩ := Hand.hz g_G
  obtain ⟨c_G_0, f_G_0, c_G_1, f_G_1⟩ := Hand.hc2 g_G
  obtain ⟨z_L, z1_L, z2_L, y0_L, y1_L⟩ := Hand.hz g_L
  obtain ⟨c_L_0, f_L_0, c_L_1, f_L_1⟩ := Hand.hc2 g_L
  obtain ⟨z_H, z1_H, z2_H, y0_H, y1_H⟩ := Hand.hz g_H
  obtain ⟨c_H_0, f_H_0, c_H_1, f_H_1⟩ := Hand.hc2 g_H
  obtain ⟨z_N, z1_N, z2_N, y0_N, y1_N⟩ := Hand.hz g_N
  obtain ⟨c_N_0, f_N_0, c_N_1, f_N_1⟩ := Hand.hc2 g_N
  have zw : w.heap.size ≤ w10.heap.size := hB.size
  have HG := Lib.hid (And.intro g_R (And.intro g_G (And.intro g_L (And.intro g_H (And.intro g_N (hB))))))
  clear g_R g_G g_L g_H g_N hB
  go_wp2_with fail
  go_quiet ((go_at_call 33; exact Calls.quiet_of_same (F0.out _)))
  go_wp2_with fail
  with_reducible refine (D2.out _).mono ?_
  rintro e w11 ⟨rfl, hb11⟩
  obtain ⟨g_R, g_G, g_L, g_H, g_N, hB⟩ := HG.out
  have h_R : w11.heap[w.heap.size]? = some (.cells #[.int .i64 a, .int .i64 b] 24 (0, 0)) := by
    refine Hand.kb hb11 ?_; first | with_reducible exact g_R | (simp (disch := first | omega | (simp only [Hand.sa, Hand.ss, Hand.sd, Hand.sn]; first | done | omega)) only [Hand.q2, Hand.q1, Hand.q5, Hand.q6, Hand.q4, Hand.q3, g_R] <;> rfl)
  have h_G : w11.heap[w.heap.size + 1]? = some (.cells #[.int .i64 c, .int .i64 d] 24 (0, 0)) := by
    refine Hand.kb hb11 ?_; first | with_reducible exact g_G | (simp (disch := first | omega | (simp only [Hand.sa, Hand.ss, Hand.sd, Hand.sn]; first | done | omega)) only [Hand.q2, Hand.q1, Hand.q5, Hand.q6, Hand.q4, Hand.q3, g_G] <;> rfl)
  have h_L : w11.heap[w2.heap.size]? = some (.cells #[.int .i64 p1, .int .i64 q1] 24 (0, 0)) := by
    refine Hand.kb hb11 ?_; first | with_reducible exact g_L | (simp (disch := first | omega | (simp only [Hand.sa, Hand.ss, Hand.sd, Hand.sn]; first | done | omega)) only [Hand.q2, Hand.q1, Hand.q5, Hand.q6, Hand.q4, Hand.q3, g_L] <;> rfl)
  have h_H : w11.heap[w3.heap.size]? = some (.cells #[.int .i64 p3, .int .i64 q3] 24 (0, 0)) := by
    refine Hand.kb hb11 ?_; first | with_reducible exact g_H | (simp (disch := first | omega | (simp only [Hand.sa, Hand.ss, Hand.sd, Hand.sn]; first | done | omega)) only [Hand.q2, Hand.q1, Hand.q5, Hand.q6, Hand.q4, Hand.q3, g_H] <;> rfl)
  have h_N : w11.heap[w4.heap.size]? = some (.cells #[.int .i64 p1, .int .i64 q1] 24 (0, 0)) := by
    refine Hand.kb hb11 ?_; first | with_reducible exact g_N | (simp (disch := first | omega | (simp only [Hand.sa, Hand.ss, Hand.sd, Hand.sn]; first | done | omega)) only [Hand.q2, Hand.q1, Hand.q5, Hand.q6, Hand.q4, Hand.q3, g_N] <;> rfl)
  have h_S : w11.heap[w10.heap.size]? = some (.cells #[.int .i64 c, .int .i64 d] 24 (0, 0)) := by
    refine Hand.kb hb11 ?_; simp (disch := first | omega | (simp only [Hand.sa, Hand.ss, Hand.sd, Hand.sn]; first | done | omega)) only [Hand.q2, Hand.q1, Hand.q5, Hand.q6, Hand.q4, Hand.q3] <;> rfl
  have hB' : Below w.heap.size w w11 := Hand.stepB hb11 (by repeat (with_reducible first | apply hB | apply Below.drew | apply pw_below_drewN | (apply Below.setCell; rotate_left; (dsimp only; omega)) | (apply Below.alloc; rotate_left; (first | omega | (simp only [Hand.sa, Hand.ss, Hand.sd, Hand.sn]; omega))))) (Nat.le_refl _)
  clear HG hB g_R g_G g_L g_H g_N zw z_R z1_R z2_R y0_R y1_R c_R_0 f_R_0 c_R_1 f_R_1 z_G z1_G z2_G y0_G y1_G c_G_0 f_G_0 c_G_1 f_G_1 z_L z1_L z2_L y0_L y1_L c_L_0 f_L_0 c_L_1 f_L_1 z_H z1_H z2_H y0_H y1_H c_H_0 f_H_0 c_H_1 f_H_1 z_N z1_N z2_N y0_N y1_N c_N_0 f_N_0 c_N_1 f_N_1
  clear hb11
  have g_R := h_R
  have g_G := h_G
  have g_L := h_L
  have g_H := h_H
  have g_N := h_N
  have g_S := h_S
  have hB := hB'
  clear hB' h_R h_G h_L h_H h_N h_S
  obtain ⟨z_R, z1_R, z2_R, y0_R, y1_R⟩ := Hand.hz g_R
  obtain ⟨c_R_0, f_R_0, c_R_1, f_R_1⟩ := Hand.hc2 g_R
  obtain ⟨z_G, z1_G, z2_G, y0_G, y1_G⟩ := Hand.hz g_G
  obtain ⟨c_G_0, f_G_0, c_G_1, f_G_1⟩ := Hand.hc2 g_G
  obtain ⟨z_L, z1_L, z2_L, y0_L, y1_L⟩ := Hand.hz g_L
  obtain ⟨c_L_0, f_L_0, c_L_1, f_L_1⟩ := Hand.hc2 g_L
  obtain ⟨z_H, z1_H, z2_H, y0_H, y1_H⟩ := Hand.hz g_H
  obtain ⟨c_H_0, f_H_0, c_H_1, f_H_1⟩ := Hand.hc2 g_H
  obtain ⟨z_N, z1_N, z2_N, y0_N, y1_N⟩ := Hand.hz g_N
  obtain ⟨c_N_0, f_N_0, c_N_1, f_N_1⟩ := Hand.hc2 g_N
  obtain ⟨z_S, z1_S, z2_S, y0_S, y1_S⟩ := Hand.hz g_S
  obtain ⟨c_S_0, f_S_0, c_S_1, f_S_1⟩ := Hand.hc2 g_S
  have zw : w.heap.size ≤ w11.heap.size := hB.size
  have HG := Lib.hid (And.intro g_R (And.intro g_G (And.intro g_L (And.intro g_H (And.intro g_N (And.intro g_S (hB)))))))
  clear g_R g_G g_L g_H g_N g_S hB
  go_wp2_with fail
  with_reducible refine (D3.out _).mono ?_
  rintro e w12 ⟨rfl, hb12⟩
  obtain ⟨g_R, g_G, g_L, g_H, g_N, g_S, hB⟩ := HG.out
  have h_R : w12.heap[w.heap.size]? = some (.cells #[.int .i64 a, .int .i64 b] 24 (0, 0)) := by
    refine Hand.kb hb12 ?_; first | with_reducible exact g_R | (simp (disch := first | omega | (simp only [Hand.sa, Hand.ss, Hand.sd, Hand.sn]; first | done | omega)) only [Hand.q2, Hand.q1, Hand.q5, Hand.q6, Hand.q4, Hand.q3, g_R] <;> rfl)
  have h_G : w12.heap[w.heap.size + 1]? = some (.cells #[.int .i64 c, .int .i64 d] 24 (0, 0)) := by
    refine Hand.kb hb12 ?_; first | with_reducible exact g_G | (simp (disch := first | omega | (simp only [Hand.sa, Hand.ss, Hand.sd, Hand.sn]; first | done | omega)) only [Hand.q2, Hand.q1, Hand.q5, Hand.q6, Hand.q4, Hand.q3, g_G] <;> rfl)
  have h_L : w12.heap[w2.heap.size]? = some (.cells #[.int .i64 p1, .int .i64 q1] 24 (0, 0)) := by
    refine Hand.kb hb12 ?_; first | with_reducible exact g_L | (simp (disch := first | omega | (simp only [Hand.sa, Hand.ss, Hand.sd, Hand.sn]; first | done | omega)) only [Hand.q2, Hand.q1, Hand.q5, Hand.q6, Hand.q4, Hand.q3, g_L] <;> rfl)
  have h_H : w12.heap[w3.heap.size]? = some (.cells #[.int .i64 p3, .int .i64 q3] 24 (0, 0)) := by
    refine Hand.kb hb12 ?_; first | with_reducible exact g_H | (simp (disch := first | omega | (simp only [Hand.sa, Hand.ss, Hand.sd, Hand.sn]; first | done | omega)) only [Hand.q2, Hand.q1, Hand.q5, Hand.q6, Hand.q4, Hand.q3, g_H] <;> rfl)
  have h_N : w12.heap[w4.heap.size]? = some (.cells #[.int .i64 p1, .int .i64 q1] 24 (0, 0)) := by
    refine Hand.kb hb12 ?_; first | with_reducible exact g_N | (simp (disch := first | omega | (simp only [Hand.sa, Hand.ss, Hand.sd, Hand.sn]; first | done | omega)) only [Hand.q2, Hand.q1, Hand.q5, Hand.q6, Hand.q4, Hand.q3, g_N] <;> rfl)
  have h_S : w12.heap[w10.heap.size]? = some (.cells #[.int .i64 c, .int .i64 d] 24 (0, 0)) := by
    refine Hand.kb hb12 ?_; first | with_reducible exact g_S | (simp (disch := first | omega | (simp only [Hand.sa, Hand.ss, Hand.sd, Hand.sn]; first | done | omega)) only [Hand.q2, Hand.q1, Hand.q5, Hand.q6, Hand.q4, Hand.q3, g_S] <;> rfl)
  have h_D : w12.heap[w11.heap.size]? = some (.cells #[.int .i64 x, .int .i64 y] 24 (0, 0)) := by
    refine Hand.kb hb12 ?_; simp (disch := first | omega | (simp only [Hand.sa, Hand.ss, Hand.sd, Hand.sn]; first | done | omega)) only [Hand.q2, Hand.q1, Hand.q5, Hand.q6, Hand.q4, Hand.q3] <;> rfl
  have hB' : Below w.heap.size w w12 := Hand.stepB hb12 (by repeat (with_reducible first | apply hB | apply Below.drew | apply pw_below_drewN | (apply Below.setCell; rotate_left; (dsimp only; omega)) | (apply Below.alloc; rotate_left; (first | omega | (simp only [Hand.sa, Hand.ss, Hand.sd, Hand.sn]; omega))))) (Nat.le_refl _)
  clear HG hB g_R g_G g_L g_H g_N g_S zw z_R z1_R z2_R y0_R y1_R c_R_0 f_R_0 c_R_1 f_R_1 z_G z1_G z2_G y0_G y1_G c_G_0 f_G_0 c_G_1 f_G_1 z_L z1_L z2_L y0_L y1_L c_L_0 f_L_0 c_L_1 f_L_1 z_H z1_H z2_H y0_H y1_H c_H_0 f_H_0 c_H_1 f_H_1 z_N z1_N z2_N y0_N y1_N c_N_0 f_N_0 c_N_1 f_N_1 z_S z1_S z2_S y0_S y1_S c_S_0 f_S_0 c_S_1 f_S_1
  clear hb12
  have g_R := h_R
  have g_G := h_G
  have g_L := h_L
  have g_H := h_H
  have g_N := h_N
  have g_S := h_S
  have g_D := h_D
  have hB := hB'
  clear hB' h_R h_G h_L h_H h_N h_S h_D
  obtain ⟨z_R, z1_R, z2_R, y0_R, y1_R⟩ := Hand.hz g_R
  obtain ⟨c_R_0, f_R_0, c_R_1, f_R_1⟩ := Hand.hc2 g_R
  obtain ⟨z_G, z1_G, z2_G, y0_G, y1_G⟩ := Hand.hz g_G
  obtain ⟨c_G_0, f_G_0, c_G_1, f_G_1⟩ := Hand.hc2 g_G
  obtain ⟨z_L, z1_L, z2_L, y0_L, y1_L⟩ := Hand.hz g_L
  obtain ⟨c_L_0, f_L_0, c_L_1, f_L_1⟩ := Hand.hc2 g_L
  obtain ⟨z_H, z1_H, z2_H, y0_H, y1_H⟩ := Hand.hz g_H
  obtain ⟨c_H_0, f_H_0, c_H_1, f_H_1⟩ := Hand.hc2 g_H
  obtain ⟨z_N, z1_N, z2_N, y0_N, y1_N⟩ := Hand.hz g_N
  obtain ⟨c_N_0, f_N_0, c_N_1, f_N_1⟩ := Hand.hc2 g_N
  obtain ⟨z_S, z1_S, z2_S, y0_S, y1_S⟩ := Hand.hz g_S
  obtain ⟨c_S_0, f_S_0, c_S_1, f_S_1⟩ := Hand.hc2 g_S
  obtain ⟨z_D, z1_D, z2_D, y0_D, y1_D⟩ := Hand.hz g_D
  obtain ⟨c_D_0, f_D_0, c_D_1, f_D_1⟩ := Hand.hc2 g_D
  have zw : w.heap.size ≤ w12.heap.size := hB.size
  have HG := Lib.hid (And.intro g_R (And.intro g_G (And.intro g_L (And.intro g_H (And.intro g_N (And.intro g_S (And.intro g_D (hB))))))))
  clear g_R g_G g_L g_H g_N g_S g_D hB
  go_wp2_with fail
  with_reducible refine (E1.out _).mono ?_
  rintro e w13 ⟨rfl, hb13⟩
  obtain ⟨g_R, g_G, g_L, g_H, g_N, g_S, g_D, hB⟩ := HG.out
  have h_R : w13.heap[w.heap.size]? = some (.cells #[.int .i64 a, .int .i64 b] 24 (0, 0)) := by
    refine Hand.kb hb13 ?_; first | with_reducible exact g_R | (simp (disch := first | omega | (simp only [Hand.sa, Hand.ss, Hand.sd, Hand.sn]; first | done | omega)) only [Hand.q2, Hand.q1, Hand.q5, Hand.q6, Hand.q4, Hand.q3, g_R] <;> rfl)
  have h_G : w13.heap[w.heap.size + 1]? = some (.cells #[.int .i64 c, .int .i64 d] 24 (0, 0)) := by
    refine Hand.kb hb13 ?_; first | with_reducible exact g_G | (simp (disch := first | omega | (simp only [Hand.sa, Hand.ss, Hand.sd, Hand.sn]; first | done | omega)) only [Hand.q2, Hand.q1, Hand.q5, Hand.q6, Hand.q4, Hand.q3, g_G] <;> rfl)
  have h_L : w13.heap[w2.heap.size]? = some (.cells #[.int .i64 p1, .int .i64 q1] 24 (0, 0)) := by
    refine Hand.kb hb13 ?_; first | with_reducible exact g_L | (simp (disch := first | omega | (simp only [Hand.sa, Hand.ss, Hand.sd, Hand.sn]; first | done | omega)) only [Hand.q2, Hand.q1, Hand.q5, Hand.q6, Hand.q4, Hand.q3, g_L] <;> rfl)
  have h_H : w13.heap[w3.heap.size]? = some (.cells #[.int .i64 p3, .int .i64 q3] 24 (0, 0)) := by
    refine Hand.kb hb13 ?_; first | with_reducible exact g_H | (simp (disch := first | omega | (simp only [Hand.sa, Hand.ss, Hand.sd, Hand.sn]; first | done | omega)) only [Hand.q2, Hand.q1, Hand.q5, Hand.q6, Hand.q4, Hand.q3, g_H] <;> rfl)
  have h_N : w13.heap[w4.heap.size]? = some (.cells #[.int .i64 p1, .int .i64 q1] 24 (0, 0)) := by
    refine Hand.kb hb13 ?_; first | with_reducible exact g_N | (simp (disch := first | omega | (simp only [Hand.sa, Hand.ss, Hand.sd, Hand.sn]; first | done | omega)) only [Hand.q2, Hand.q1, Hand.q5, Hand.q6, Hand.q4, Hand.q3, g_N] <;> rfl)
  have h_S : w13.heap[w10.heap.size]? = some (.cells #[.int .i64 c, .int .i64 d] 24 (0, 0)) := by
    refine Hand.kb hb13 ?_; first | with_reducible exact g_S | (simp (disch := first | omega | (simp only [Hand.sa, Hand.ss, Hand.sd, Hand.sn]; first | done | omega)) only [Hand.q2, Hand.q1, Hand.q5, Hand.q6, Hand.q4, Hand.q3, g_S] <;> rfl)
  have h_D : w13.heap[w11.heap.size]? = some (.cells #[.int .i64 x, .int .i64 y] 24 (0, 0)) := by
    refine Hand.kb hb13 ?_; first | with_reducible exact g_D | (simp (disch := first | omega | (simp only [Hand.sa, Hand.ss, Hand.sd, Hand.sn]; first | done | omega)) only [Hand.q2, Hand.q1, Hand.q5, Hand.q6, Hand.q4, Hand.q3, g_D] <;> rfl)
  have h_U : w13.heap[w12.heap.size]? = some (.cells #[.int .i64 x', .int .i64 y'] 24 (0, 0)) := by
    refine Hand.kb hb13 ?_; simp (disch := first | omega | (simp only [Hand.sa, Hand.ss, Hand.sd, Hand.sn]; first | done | omega)) only [Hand.q2, Hand.q1, Hand.q5, Hand.q6, Hand.q4, Hand.q3] <;> rfl
  have hB' : Below w.heap.size w w13 := Hand.stepB hb13 (by repeat (with_reducible first | apply hB | apply Below.drew | apply pw_below_drewN | (apply Below.setCell; rotate_left; (dsimp only; omega)) | (apply Below.alloc; rotate_left; (first | omega | (simp only [Hand.sa, Hand.ss, Hand.sd, Hand.sn]; omega))))) (Nat.le_refl _)
  clear HG hB g_R g_G g_L g_H g_N g_S g_D zw z_R z1_R z2_R y0_R y1_R c_R_0 f_R_0 c_R_1 f_R_1 z_G z1_G z2_G y0_G y1_G c_G_0 f_G_0 c_G_1 f_G_1 z_L z1_L z2_L y0_L y1_L c_L_0 f_L_0 c_L_1 f_L_1 z_H z1_H z2_H y0_H y1_H c_H_0 f_H_0 c_H_1 f_H_1 z_N z1_N z2_N y0_N y1_N c_N_0 f_N_0 c_N_1 f_N_1 z_S z1_S z2_S y0_S y1_S c_S_0 f_S_0 c_S_1 f_S_1 z_D z1_D z2_D y0_D y1_D c_D_0 f_D_0 c_D_1 f_D_1
  clear hb13
  have g_R := h_R
  have g_G := h_G
  have g_L := h_L
  have g_H := h_H
  have g_N := h_N
  have g_S := h_S
  have g_D := h_D
  have g_U := h_U
  have hB := hB'
  clear hB' h_R h_G h_L h_H h_N h_S h_D h_U
  obtain ⟨z_R, z1_R, z2_R, y0_R, y1_R⟩ := Hand.hz g_R
  obtain ⟨c_R_0, f_R_0, c_R_1, f_R_1⟩ := Hand.hc2 g_R
  obtain ⟨z_G, z1_G, z2_G, y0_G, y1_G⟩ := Hand.hz g_G
  obtain ⟨c_G_0, f_G_0, c_G_1, f_G_1⟩ := Hand.hc2 g_G
  obtain ⟨z_L, z1_L, z2_L, y0_L, y1_L⟩ := Hand.hz g_L
  obtain ⟨c_L_0, f_L_0, c_L_1, f_L_1⟩ := Hand.hc2 g_L
  obtain ⟨z_H, z1_H, z2_H, y0_H, y1_H⟩ := Hand.hz g_H
  obtain ⟨c_H_0, f_H_0, c_H_1, f_H_1⟩ := Hand.hc2 g_H
  obtain ⟨z_N, z1_N, z2_N, y0_N, y1_N⟩ := Hand.hz g_N
  obtain ⟨c_N_0, f_N_0, c_N_1, f_N_1⟩ := Hand.hc2 g_N
  obtain ⟨z_S, z1_S, z2_S, y0_S, y1_S⟩ := Hand.hz g_S
  obtain ⟨c_S_0, f_S_0, c_S_1, f_S_1⟩ := Hand.hc2 g_S
  obtain ⟨z_D, z1_D, z2_D, y0_D, y1_D⟩ := Hand.hz g_D
  obtain ⟨c_D_0, f_D_0, c_D_1, f_D_1⟩ := Hand.hc2 g_D
  obtain ⟨z_U, z1_U, z2_U, y0_U, y1_U⟩ := Hand.hz g_U
  obtain ⟨c_U_0, f_U_0, c_U_1, f_U_1⟩ := Hand.hc2 g_U
  have zw : w.heap.size ≤ w13.heap.size := hB.size
  have HG := Lib.hid (And.intro g_R (And.intro g_G (And.intro g_L (And.intro g_H (And.intro g_N (And.intro g_S (And.intro g_D (And.intro g_U (hB)))))))))
  clear g_R g_G g_L g_H g_N g_S g_D g_U hB
  go_wp2
  go_ret
  obtain ⟨g_R, g_G, g_L, g_H, g_N, g_S, g_D, g_U, hB⟩ := HG.out
  exact ⟨rfl, hB⟩
set_option maxHeartbeats 8000000 in
set_option maxRecDepth 100000 in
theorem near_lo2 (a b c d p1 q1 p3 q3 x y z x' y' z' : Int) (w : World)
    (K0 : RB 16 #[] true)
    (S1 : RT 42 #[.agg #[.int .i64 a, .int .i64 b], .agg #[.int .i64 c, .int .i64 d], .int .i64 1] p1 q1 0)
    (S3 : RT 42 #[.agg #[.int .i64 a, .int .i64 b], .agg #[.int .i64 c, .int .i64 d], .int .i64 3] p3 q3 0)
    (S2 : RT 42 #[.agg #[.int .i64 a, .int .i64 b], .agg #[.int .i64 c, .int .i64 d], .int .i64 2] p1 q1 0)
    (F1 : RB 33 #[.int .i64 0] true)
    (F2 : RB 33 #[.int .i64 0] true)
    (F3 : RB 33 #[.int .i64 0] true)
    (C1 : RI 32 #[.agg #[.int .i64 p1, .int .i64 q1], .agg #[.int .i64 a, .int .i64 b]] (-1))
    (C2 : RI 32 #[.agg #[.int .i64 a, .int .i64 b], .agg #[.int .i64 p3, .int .i64 q3]] (-1))
    (D1 : RT 24 #[.agg #[.int .i64 p3, .int .i64 q3], .agg #[.int .i64 p1, .int .i64 q1]] c d 0)
    (F0 : RQ 33 #[.int .i64 0] true)
    (D2 : RT 24 #[.agg #[.int .i64 a, .int .i64 b], .agg #[.int .i64 p1, .int .i64 q1]] x y z)
    (D3 : RT 24 #[.agg #[.int .i64 p3, .int .i64 q3], .agg #[.int .i64 a, .int .i64 b]] x' y' z')
    (h13 : (p1 == p3 && q1 == q3) = false)
    (h31 : (p3 == p1 && q3 == q1) = false)
    (h1r : (p1 == a && q1 == b) = false)
    (E1 : RB 33 #[.int .i64 z] true)
    (E2 : RB 33 #[.int .i64 z'] false) :
    Calls Tryd.prog 12 #[.agg #[.int .i64 a, .int .i64 b], .agg #[.int .i64 c, .int .i64 d]] w fun e w' => e = .returned (.bool true) ∧ Below w.heap.size w w' := by
  go_enter Tryd.func12, Tryd.ntmps12
  go_wp2_with fail
  with_reducible refine (K0.out _).mono ?_
  rintro e w1 ⟨rfl, hb1⟩
  have h_R : w1.heap[w.heap.size]? = some (.cells #[.int .i64 a, .int .i64 b] 24 (0, 0)) := by
    refine Hand.kb hb1 ?_; simp (disch := first | omega | (simp only [Hand.sa, Hand.ss, Hand.sd, Hand.sn]; first | done | omega)) only [Hand.q2, Hand.q1, Hand.q5, Hand.q6, Hand.q4, Hand.q3] <;> rfl
  have h_G : w1.heap[w.heap.size + 1]? = some (.cells #[.int .i64 c, .int .i64 d] 24 (0, 0)) := by
    refine Hand.kb hb1 ?_; simp (disch := first | omega | (simp only [Hand.sa, Hand.ss, Hand.sd, Hand.sn]; first | done | omega)) only [Hand.q2, Hand.q1, Hand.q5, Hand.q6, Hand.q4, Hand.q3] <;> rfl
  have hB' : Below w.heap.size w w1 := Hand.stepB hb1 (by repeat (with_reducible first | apply Below.refl _ _ | apply Below.drew | apply pw_below_drewN | (apply Below.setCell; rotate_left; (dsimp only; omega)) | (apply Below.alloc; rotate_left; (first | omega | (simp only [Hand.sa, Hand.ss, Hand.sd, Hand.sn]; omega))))) (Nat.le_refl _)
  clear hb1
  have g_R := h_R
  have g_G := h_G
  have hB := hB'
  clear hB' h_R h_G
  obtain ⟨z_R, z1_R, z2_R, y0_R, y1_R⟩ := Hand.hz g_R
  obtain ⟨c_R_0, f_R_0, c_R_1, f_R_1⟩ := Hand.hc2 g_R
  obtain ⟨z_G, z1_G, z2_G, y0_G, y1_G⟩ := Hand.hz g_G
  obtain ⟨c_G_0, f_G_0, c_G_1, f_G_1⟩ := Hand.hc2 g_G
  have zw : w.heap.size ≤ w1.heap.size := hB.size
  have HG := Lib.hid (And.intro g_R (And.intro g_G (hB)))
  clear g_R g_G hB
  go_wp2_with fail
  with_reducible refine (S1.out _).mono ?_
  rintro e w2 ⟨rfl, hb2⟩
  obtain ⟨g_R, g_G, hB⟩ := HG.out
  have h_R : w2.heap[w.heap.size]? = some (.cells #[.int .i64 a, .int .i64 b] 24 (0, 0)) := by
    refine Hand.kb hb2 ?_; first | with_reducible exact g_R | (simp (disch := first | omega | (simp only [Hand.sa, Hand.ss, Hand.sd, Hand.sn]; first | done | omega)) only [Hand.q2, Hand.q1, Hand.q5, Hand.q6, Hand.q4, Hand.q3, g_R] <;> rfl)
  have h_G : w2.heap[w.heap.size + 1]? = some (.cells #[.int .i64 c, .int .i64 d] 24 (0, 0)) := by
    refine Hand.kb hb2 ?_; first | with_reducible exact g_G | (simp (disch := first | omega | (simp only [Hand.sa, Hand.ss, Hand.sd, Hand.sn]; first | done | omega)) only [Hand.q2, Hand.q1, Hand.q5, Hand.q6, Hand.q4, Hand.q3, g_G] <;> rfl)
  have hB' : Below w.heap.size w w2 := Hand.stepB hb2 (by repeat (with_reducible first | apply hB | apply Below.drew | apply pw_below_drewN | (apply Below.setCell; rotate_left; (dsimp only; omega)) | (apply Below.alloc; rotate_left; (first | omega | (simp only [Hand.sa, Hand.ss, Hand.sd, Hand.sn]; omega))))) (Nat.le_refl _)
  clear HG hB g_R g_G zw z_R z1_R z2_R y0_R y1_R c_R_0 f_R_0 c_R_1 f_R_1 z_G z1_G z2_G y0_G y1_G c_G_0 f_G_0 c_G_1 f_G_1
  clear hb2
  have g_R := h_R
  have g_G := h_G
  have hB := hB'
  clear hB' h_R h_G
  obtain ⟨z_R, z1_R, z2_R, y0_R, y1_R⟩ := Hand.hz g_R
  obtain ⟨c_R_0, f_R_0, c_R_1, f_R_1⟩ := Hand.hc2 g_R
  obtain ⟨z_G, z1_G, z2_G, y0_G, y1_G⟩ := Hand.hz g_G
  obtain ⟨c_G_0, f_G_0, c_G_1, f_G_1⟩ := Hand.hc2 g_G
  have zw : w.heap.size ≤ w2.heap.size := hB.size
  have HG := Lib.hid (And.intro g_R (And.intro g_G (hB)))
  clear g_R g_G hB
  go_wp2_with fail
  with_reducible refine (S3.out _).mono ?_
  rintro e w3 ⟨rfl, hb3⟩
  obtain ⟨g_R, g_G, hB⟩ := HG.out
  have h_R : w3.heap[w.heap.size]? = some (.cells #[.int .i64 a, .int .i64 b] 24 (0, 0)) := by
    refine Hand.kb hb3 ?_; first | with_reducible exact g_R | (simp (disch := first | omega | (simp only [Hand.sa, Hand.ss, Hand.sd, Hand.sn]; first | done | omega)) only [Hand.q2, Hand.q1, Hand.q5, Hand.q6, Hand.q4, Hand.q3, g_R] <;> rfl)
  have h_G : w3.heap[w.heap.size + 1]? = some (.cells #[.int .i64 c, .int .i64 d] 24 (0, 0)) := by
    refine Hand.kb hb3 ?_; first | with_reducible exact g_G | (simp (disch := first | omega | (simp only [Hand.sa, Hand.ss, Hand.sd, Hand.sn]; first | done | omega)) only [Hand.q2, Hand.q1, Hand.q5, Hand.q6, Hand.q4, Hand.q3, g_G] <;> rfl)
  have h_L : w3.heap[w2.heap.size]? = some (.cells #[.int .i64 p1, .int .i64 q1] 24 (0, 0)) := by
    refine Hand.kb hb3 ?_; simp (disch := first | omega | (simp only [Hand.sa, Hand.ss, Hand.sd, Hand.sn]; first | done | omega)) only [Hand.q2, Hand.q1, Hand.q5, Hand.q6, Hand.q4, Hand.q3] <;> rfl
  have hB' : Below w.heap.size w w3 := Hand.stepB hb3 (by repeat (with_reducible first | apply hB | apply Below.drew | apply pw_below_drewN | (apply Below.setCell; rotate_left; (dsimp only; omega)) | (apply Below.alloc; rotate_left; (first | omega | (simp only [Hand.sa, Hand.ss, Hand.sd, Hand.sn]; omega))))) (Nat.le_refl _)
  clear HG hB g_R g_G zw z_R z1_R z2_R y0_R y1_R c_R_0 f_R_0 c_R_1 f_R_1 z_G z1_G z2_G y0_G y1_G c_G_0 f_G_0 c_G_1 f_G_1
  clear hb3
  have g_R := h_R
  have g_G := h_G
  have g_L := h_L
  have hB := hB'
  clear hB' h_R h_G h_L
  obtain ⟨z_R, z1_R, z2_R, y0_R, y1_R⟩ := Hand.hz g_R
  obtain ⟨c_R_0, f_R_0, c_R_1, f_R_1⟩ := Hand.hc2 g_R
  obtain ⟨z_G, z1_G, z2_G, y0_G, y1_G⟩ := Hand.hz g_G
  obtain ⟨c_G_0, f_G_0, c_G_1, f_G_1⟩ := Hand.hc2 g_G
  obtain ⟨z_L, z1_L, z2_L, y0_L, y1_L⟩ := Hand.hz g_L
  obtain ⟨c_L_0, f_L_0, c_L_1, f_L_1⟩ := Hand.hc2 g_L
  have zw : w.heap.size ≤ w3.heap.size := hB.size
  have HG := Lib.hid (And.intro g_R (And.intro g_G (And.intro g_L (hB))))
  clear g_R g_G g_L hB
  go_wp2_with fail
  with_reducible refine (S2.out _).mono ?_
  rintro e w4 ⟨rfl, hb4⟩
  obtain ⟨g_R, g_G, g_L, hB⟩ := HG.out
  have h_R : w4.heap[w.heap.size]? = some (.cells #[.int .i64 a, .int .i64 b] 24 (0, 0)) := by
    refine Hand.kb hb4 ?_; first | with_reducible exact g_R | (simp (disch := first | omega | (simp only [Hand.sa, Hand.ss, Hand.sd, Hand.sn]; first | done | omega)) only [Hand.q2, Hand.q1, Hand.q5, Hand.q6, Hand.q4, Hand.q3, g_R] <;> rfl)
  have h_G : w4.heap[w.heap.size + 1]? = some (.cells #[.int .i64 c, .int .i64 d] 24 (0, 0)) := by
    refine Hand.kb hb4 ?_; first | with_reducible exact g_G | (simp (disch := first | omega | (simp only [Hand.sa, Hand.ss, Hand.sd, Hand.sn]; first | done | omega)) only [Hand.q2, Hand.q1, Hand.q5, Hand.q6, Hand.q4, Hand.q3, g_G] <;> rfl)
  have h_L : w4.heap[w2.heap.size]? = some (.cells #[.int .i64 p1, .int .i64 q1] 24 (0, 0)) := by
    refine Hand.kb hb4 ?_; first | with_reducible exact g_L | (simp (disch := first | omega | (simp only [Hand.sa, Hand.ss, Hand.sd, Hand.sn]; first | done | omega)) only [Hand.q2, Hand.q1, Hand.q5, Hand.q6, Hand.q4, Hand.q3, g_L] <;> rfl)
  have h_H : w4.heap[w3.heap.size]? = some (.cells #[.int .i64 p3, .int .i64 q3] 24 (0, 0)) := by
    refine Hand.kb hb4 ?_; simp (disch := first | omega | (simp only [Hand.sa, Hand.ss, Hand.sd, Hand.sn]; first | done | omega)) only [Hand.q2, Hand.q1, Hand.q5, Hand.q6, Hand.q4, Hand.q3] <;> rfl
  have hB' : Below w.heap.size w w4 := Hand.stepB hb4 (by repeat (with_reducible first | apply hB | apply Below.drew | apply pw_below_drewN | (apply Below.setCell; rotate_left; (dsimp only; omega)) | (apply Below.alloc; rotate_left; (first | omega | (simp only [Hand.sa, Hand.ss, Hand.sd, Hand.sn]; omega))))) (Nat.le_refl _)
  clear HG hB g_R g_G g_L zw z_R z1_R z2_R y0_R y1_R c_R_0 f_R_0 c_R_1 f_R_1 z_G z1_G z2_G y0_G y1_G c_G_0 f_G_0 c_G_1 f_G_1 z_L z1_L z2_L y0_L y1_L c_L_0 f_L_0 c_L_1 f_L_1
  clear hb4
  have g_R := h_R
  have g_G := h_G
  have g_L := h_L
  have g_H := h_H
  have hB := hB'
  clear hB' h_R h_G h_L h_H
  obtain ⟨z_R, z1_R, z2_R, y0_R, y1_R⟩ := Hand.hz g_R
  obtain ⟨c_R_0, f_R_0, c_R_1, f_R_1⟩ := Hand.hc2 g_R
  obtain ⟨z_G, z1_G, z2_G, y0_G, y1_G⟩ := Hand.hz g_G
  obtain ⟨c_G_0, f_G_0, c_G_1, f_G_1⟩ := Hand.hc2 g_G
  obtain ⟨z_L, z1_L, z2_L, y0_L, y1_L⟩ := Hand.hz g_L
  obtain ⟨c_L_0, f_L_0, c_L_1, f_L_1⟩ := Hand.hc2 g_L
  obtain ⟨z_H, z1_H, z2_H, y0_H, y1_H⟩ := Hand.hz g_H
  obtain ⟨c_H_0, f_H_0, c_H_1, f_H_1⟩ := Hand.hc2 g_H
  have zw : w.heap.size ≤ w4.heap.size := hB.size
  have HG := Lib.hid (And.intro g_R (And.intro g_G (And.intro g_L (And.intro g_H (hB)))))
  clear g_R g_G g_L g_H hB
  go_wp2_with fail
  with_reducible refine (F1.out _).mono ?_
  rintro e w5 ⟨rfl, hb5⟩
  obtain ⟨g_R, g_G, g_L, g_H, hB⟩ := HG.out
  have h_R : w5.heap[w.heap.size]? = some (.cells #[.int .i64 a, .int .i64 b] 24 (0, 0)) := by
    refine Hand.kb hb5 ?_; first | with_reducible exact g_R | (simp (disch := first | omega | (simp only [Hand.sa, Hand.ss, Hand.sd, Hand.sn]; first | done | omega)) only [Hand.q2, Hand.q1, Hand.q5, Hand.q6, Hand.q4, Hand.q3, g_R] <;> rfl)
  have h_G : w5.heap[w.heap.size + 1]? = some (.cells #[.int .i64 c, .int .i64 d] 24 (0, 0)) := by
    refine Hand.kb hb5 ?_; first | with_reducible exact g_G | (simp (disch := first | omega | (simp only [Hand.sa, Hand.ss, Hand.sd, Hand.sn]; first | done | omega)) only [Hand.q2, Hand.q1, Hand.q5, Hand.q6, Hand.q4, Hand.q3, g_G] <;> rfl)
  have h_L : w5.heap[w2.heap.size]? = some (.cells #[.int .i64 p1, .int .i64 q1] 24 (0, 0)) := by
    refine Hand.kb hb5 ?_; first | with_reducible exact g_L | (simp (disch := first | omega | (simp only [Hand.sa, Hand.ss, Hand.sd, Hand.sn]; first | done | omega)) only [Hand.q2, Hand.q1, Hand.q5, Hand.q6, Hand.q4, Hand.q3, g_L] <;> rfl)
  have h_H : w5.heap[w3.heap.size]? = some (.cells #[.int .i64 p3, .int .i64 q3] 24 (0, 0)) := by
    refine Hand.kb hb5 ?_; first | with_reducible exact g_H | (simp (disch := first | omega | (simp only [Hand.sa, Hand.ss, Hand.sd, Hand.sn]; first | done | omega)) only [Hand.q2, Hand.q1, Hand.q5, Hand.q6, Hand.q4, Hand.q3, g_H] <;> rfl)
  have h_N : w5.heap[w4.heap.size]? = some (.cells #[.int .i64 p1, .int .i64 q1] 24 (0, 0)) := by
    refine Hand.kb hb5 ?_; simp (disch := first | omega | (simp only [Hand.sa, Hand.ss, Hand.sd, Hand.sn]; first | done | omega)) only [Hand.q2, Hand.q1, Hand.q5, Hand.q6, Hand.q4, Hand.q3] <;> rfl
  have hB' : Below w.heap.size w w5 := Hand.stepB hb5 (by repeat (with_reducible first | apply hB | apply Below.drew | apply pw_below_drewN | (apply Below.setCell; rotate_left; (dsimp only; omega)) | (apply Below.alloc; rotate_left; (first | omega | (simp only [Hand.sa, Hand.ss, Hand.sd, Hand.sn]; omega))))) (Nat.le_refl _)
  clear HG hB g_R g_G g_L g_H zw z_R z1_R z2_R y0_R y1_R c_R_0 f_R_0 c_R_1 f_R_1 z_G z1_G z2_G y0_G y1_G c_G_0 f_G_0 c_G_1 f_G_1 z_L z1_L z2_L y0_L y1_L c_L_0 f_L_0 c_L_1 f_L_1 z_H z1_H z2_H y0_H y1_H c_H_0 f_H_0 c_H_1 f_H_1
  clear hb5
  have g_R := h_R
  have g_G := h_G
  have g_L := h_L
  have g_H := h_H
  have g_N := h_N
  have hB := hB'
  clear hB' h_R h_G h_L h_H h_N
  obtain ⟨z_R, z1_R, z2_R, y0_R, y1_R⟩ := Hand.hz g_R
  obtain ⟨c_R_0, f_R_0, c_R_1, f_R_1⟩ := Hand.hc2 g_R
  obtain ⟨z_G, z1_G, z2_G, y0_G, y1_G⟩ := Hand.hz g_G
  obtain ⟨c_G_0, f_G_0, c_G_1, f_G_1⟩ := Hand.hc2 g_G
  obtain ⟨z_L, z1_L, z2_L, y0_L, y1_L⟩ := Hand.hz g_L
  obtain ⟨c_L_0, f_L_0, c_L_1, f_L_1⟩ := Hand.hc2 g_L
  obtain ⟨z_H, z1_H, z2_H, y0_H, y1_H⟩ := Hand.hz g_H
  obtain ⟨c_H_0, f_H_0, c_H_1, f_H_1⟩ := Hand.hc2 g_H
  obtain ⟨z_N, z1_N, z2_N, y0_N, y1_N⟩ := Hand.hz g_N
  obtain ⟨c_N_0, f_N_0, c_N_1, f_N_1⟩ := Hand.hc2 g_N
  have zw : w.heap.size ≤ w5.heap.size := hB.size
  have HG := Lib.hid (And.intro g_R (And.intro g_G (And.intro g_L (And.intro g_H (And.intro g_N (hB))))))
  clear g_R g_G g_L g_H g_N hB
  go_wp2_with fail
  with_reducible refine (F2.out _).mono ?_
  rintro e w6 ⟨rfl, hb6⟩
  obtain ⟨g_R, g_G, g_L, g_H, g_N, hB⟩ := HG.out
  have h_R : w6.heap[w.heap.size]? = some (.cells #[.int .i64 a, .int .i64 b] 24 (0, 0)) := by
    refine Hand.kb hb6 ?_; first | with_reducible exact g_R | (simp (disch := first | omega | (simp only [Hand.sa, Hand.ss, Hand.sd, Hand.sn]; first | done | omega)) only [Hand.q2, Hand.q1, Hand.q5, Hand.q6, Hand.q4, Hand.q3, g_R] <;> rfl)
  have h_G : w6.heap[w.heap.size + 1]? = some (.cells #[.int .i64 c, .int .i64 d] 24 (0, 0)) := by
    refine Hand.kb hb6 ?_; first | with_reducible exact g_G | (simp (disch := first | omega | (simp only [Hand.sa, Hand.ss, Hand.sd, Hand.sn]; first | done | omega)) only [Hand.q2, Hand.q1, Hand.q5, Hand.q6, Hand.q4, Hand.q3, g_G] <;> rfl)
  have h_L : w6.heap[w2.heap.size]? = some (.cells #[.int .i64 p1, .int .i64 q1] 24 (0, 0)) := by
    refine Hand.kb hb6 ?_; first | with_reducible exact g_L | (simp (disch := first | omega | (simp only [Hand.sa, Hand.ss, Hand.sd, Hand.sn]; first | done | omega)) only [Hand.q2, Hand.q1, Hand.q5, Hand.q6, Hand.q4, Hand.q3, g_L] <;> rfl)
  have h_H : w6.heap[w3.heap.size]? = some (.cells #[.int .i64 p3, .int .i64 q3] 24 (0, 0)) := by
    refine Hand.kb hb6 ?_; first | with_reducible exact g_H | (simp (disch := first | omega | (simp only [Hand.sa, Hand.ss, Hand.sd, Hand.sn]; first | done | omega)) only [Hand.q2, Hand.q1, Hand.q5, Hand.q6, Hand.q4, Hand.q3, g_H] <;> rfl)
  have h_N : w6.heap[w4.heap.size]? = some (.cells #[.int .i64 p1, .int .i64 q1] 24 (0, 0)) := by
    refine Hand.kb hb6 ?_; first | with_reducible exact g_N | (simp (disch := first | omega | (simp only [Hand.sa, Hand.ss, Hand.sd, Hand.sn]; first | done | omega)) only [Hand.q2, Hand.q1, Hand.q5, Hand.q6, Hand.q4, Hand.q3, g_N] <;> rfl)
  have hB' : Below w.heap.size w w6 := Hand.stepB hb6 (by repeat (with_reducible first | apply hB | apply Below.drew | apply pw_below_drewN | (apply Below.setCell; rotate_left; (dsimp only; omega)) | (apply Below.alloc; rotate_left; (first | omega | (simp only [Hand.sa, Hand.ss, Hand.sd, Hand.sn]; omega))))) (Nat.le_refl _)
  clear HG hB g_R g_G g_L g_H g_N zw z_R z1_R z2_R y0_R y1_R c_R_0 f_R_0 c_R_1 f_R_1 z_G z1_G z2_G y0_G y1_G c_G_0 f_G_0 c_G_1 f_G_1 z_L z1_L z2_L y0_L y1_L c_L_0 f_L_0 c_L_1 f_L_1 z_H z1_H z2_H y0_H y1_H c_H_0 f_H_0 c_H_1 f_H_1 z_N z1_N z2_N y0_N y1_N c_N_0 f_N_0 c_N_1 f_N_1
  clear hb6
  have g_R := h_R
  have g_G := h_G
  have g_L := h_L
  have g_H := h_H
  have g_N := h_N
  have hB := hB'
  clear hB' h_R h_G h_L h_H h_N
  obtain ⟨z_R, z1_R, z2_R, y0_R, y1_R⟩ := Hand.hz g_R
  obtain ⟨c_R_0, f_R_0, c_R_1, f_R_1⟩ := Hand.hc2 g_R
  obtain ⟨z_G, z1_G, z2_G, y0_G, y1_G⟩ := Hand.hz g_G
  obtain ⟨c_G_0, f_G_0, c_G_1, f_G_1⟩ := Hand.hc2 g_G
  obtain ⟨z_L, z1_L, z2_L, y0_L, y1_L⟩ := Hand.hz g_L
  obtain ⟨c_L_0, f_L_0, c_L_1, f_L_1⟩ := Hand.hc2 g_L
  obtain ⟨z_H, z1_H, z2_H, y0_H, y1_H⟩ := Hand.hz g_H
  obtain ⟨c_H_0, f_H_0, c_H_1, f_H_1⟩ := Hand.hc2 g_H
  obtain ⟨z_N, z1_N, z2_N, y0_N, y1_N⟩ := Hand.hz g_N
  obtain ⟨c_N_0, f_N_0, c_N_1, f_N_1⟩ := Hand.hc2 g_N
  have zw : w.heap.size ≤ w6.heap.size := hB.size
  have HG := Lib.hid (And.intro g_R (And.intro g_G (And.intro g_L (And.intro g_H (And.intro g_N (hB))))))
  clear g_R g_G g_L g_H g_N hB
  go_wp2_with fail
  with_reducible refine (F3.out _).mono ?_
  rintro e w7 ⟨rfl, hb7⟩
  obtain ⟨g_R, g_G, g_L, g_H, g_N, hB⟩ := HG.out
  have h_R : w7.heap[w.heap.size]? = some (.cells #[.int .i64 a, .int .i64 b] 24 (0, 0)) := by
    refine Hand.kb hb7 ?_; first | with_reducible exact g_R | (simp (disch := first | omega | (simp only [Hand.sa, Hand.ss, Hand.sd, Hand.sn]; first | done | omega)) only [Hand.q2, Hand.q1, Hand.q5, Hand.q6, Hand.q4, Hand.q3, g_R] <;> rfl)
  have h_G : w7.heap[w.heap.size + 1]? = some (.cells #[.int .i64 c, .int .i64 d] 24 (0, 0)) := by
    refine Hand.kb hb7 ?_; first | with_reducible exact g_G | (simp (disch := first | omega | (simp only [Hand.sa, Hand.ss, Hand.sd, Hand.sn]; first | done | omega)) only [Hand.q2, Hand.q1, Hand.q5, Hand.q6, Hand.q4, Hand.q3, g_G] <;> rfl)
  have h_L : w7.heap[w2.heap.size]? = some (.cells #[.int .i64 p1, .int .i64 q1] 24 (0, 0)) := by
    refine Hand.kb hb7 ?_; first | with_reducible exact g_L | (simp (disch := first | omega | (simp only [Hand.sa, Hand.ss, Hand.sd, Hand.sn]; first | done | omega)) only [Hand.q2, Hand.q1, Hand.q5, Hand.q6, Hand.q4, Hand.q3, g_L] <;> rfl)
  have h_H : w7.heap[w3.heap.size]? = some (.cells #[.int .i64 p3, .int .i64 q3] 24 (0, 0)) := by
    refine Hand.kb hb7 ?_; first | with_reducible exact g_H | (simp (disch := first | omega | (simp only [Hand.sa, Hand.ss, Hand.sd, Hand.sn]; first | done | omega)) only [Hand.q2, Hand.q1, Hand.q5, Hand.q6, Hand.q4, Hand.q3, g_H] <;> rfl)
  have h_N : w7.heap[w4.heap.size]? = some (.cells #[.int .i64 p1, .int .i64 q1] 24 (0, 0)) := by
    refine Hand.kb hb7 ?_; first | with_reducible exact g_N | (simp (disch := first | omega | (simp only [Hand.sa, Hand.ss, Hand.sd, Hand.sn]; first | done | omega)) only [Hand.q2, Hand.q1, Hand.q5, Hand.q6, Hand.q4, Hand.q3, g_N] <;> rfl)
  have hB' : Below w.heap.size w w7 := Hand.stepB hb7 (by repeat (with_reducible first | apply hB | apply Below.drew | apply pw_below_drewN | (apply Below.setCell; rotate_left; (dsimp only; omega)) | (apply Below.alloc; rotate_left; (first | omega | (simp only [Hand.sa, Hand.ss, Hand.sd, Hand.sn]; omega))))) (Nat.le_refl _)
  clear HG hB g_R g_G g_L g_H g_N zw z_R z1_R z2_R y0_R y1_R c_R_0 f_R_0 c_R_1 f_R_1 z_G z1_G z2_G y0_G y1_G c_G_0 f_G_0 c_G_1 f_G_1 z_L z1_L z2_L y0_L y1_L c_L_0 f_L_0 c_L_1 f_L_1 z_H z1_H z2_H y0_H y1_H c_H_0 f_H_0 c_H_1 f_H_1 z_N z1_N z2_N y0_N y1_N c_N_0 f_N_0 c_N_1 f_N_1
  clear hb7
  have g_R := h_R
  have g_G := h_G
  have g_L := h_L
  have g_H := h_H
  have g_N := h_N
  have hB := hB'
  clear hB' h_R h_G h_L h_H h_N
  obtain ⟨z_R, z1_R, z2_R, y0_R, y1_R⟩ := Hand.hz g_R
  obtain ⟨c_R_0, f_R_0, c_R_1, f_R_1⟩ := Hand.hc2 g_R
  obtain ⟨z_G, z1_G, z2_G, y0_G, y1_G⟩ := Hand.hz g_G
  obtain ⟨c_G_0, f_G_0, c_G_1, f_G_1⟩ := Hand.hc2 g_G
  obtain ⟨z_L, z1_L, z2_L, y0_L, y1_L⟩ := Hand.hz g_L
  obtain ⟨c_L_0, f_L_0, c_L_1, f_L_1⟩ := Hand.hc2 g_L
  obtain ⟨z_H, z1_H, z2_H, y0_H, y1_H⟩ := Hand.hz g_H
  obtain ⟨c_H_0, f_H_0, c_H_1, f_H_1⟩ := Hand.hc2 g_H
  obtain ⟨z_N, z1_N, z2_N, y0_N, y1_N⟩ := Hand.hz g_N
  obtain ⟨c_N_0, f_N_0, c_N_1, f_N_1⟩ := Hand.hc2 g_N
  have zw : w.heap.size ≤ w7.heap.size := hB.size
  have HG := Lib.hid (And.intro g_R (And.intro g_G (And.intro g_L (And.intro g_H (And.intro g_N (hB))))))
  clear g_R g_G g_L g_H g_N hB
  go_wp2_with fail
  with_reducible refine (C1.out _).mono ?_
  rintro e w8 ⟨rfl, hb8⟩
  obtain ⟨g_R, g_G, g_L, g_H, g_N, hB⟩ := HG.out
  have h_R : w8.heap[w.heap.size]? = some (.cells #[.int .i64 a, .int .i64 b] 24 (0, 0)) := by
    refine Hand.kb hb8 ?_; first | with_reducible exact g_R | (simp (disch := first | omega | (simp only [Hand.sa, Hand.ss, Hand.sd, Hand.sn]; first | done | omega)) only [Hand.q2, Hand.q1, Hand.q5, Hand.q6, Hand.q4, Hand.q3, g_R] <;> rfl)
  have h_G : w8.heap[w.heap.size + 1]? = some (.cells #[.int .i64 c, .int .i64 d] 24 (0, 0)) := by
    refine Hand.kb hb8 ?_; first | with_reducible exact g_G | (simp (disch := first | omega | (simp only [Hand.sa, Hand.ss, Hand.sd, Hand.sn]; first | done | omega)) only [Hand.q2, Hand.q1, Hand.q5, Hand.q6, Hand.q4, Hand.q3, g_G] <;> rfl)
  have h_L : w8.heap[w2.heap.size]? = some (.cells #[.int .i64 p1, .int .i64 q1] 24 (0, 0)) := by
    refine Hand.kb hb8 ?_; first | with_reducible exact g_L | (simp (disch := first | omega | (simp only [Hand.sa, Hand.ss, Hand.sd, Hand.sn]; first | done | omega)) only [Hand.q2, Hand.q1, Hand.q5, Hand.q6, Hand.q4, Hand.q3, g_L] <;> rfl)
  have h_H : w8.heap[w3.heap.size]? = some (.cells #[.int .i64 p3, .int .i64 q3] 24 (0, 0)) := by
    refine Hand.kb hb8 ?_; first | with_reducible exact g_H | (simp (disch := first | omega | (simp only [Hand.sa, Hand.ss, Hand.sd, Hand.sn]; first | done | omega)) only [Hand.q2, Hand.q1, Hand.q5, Hand.q6, Hand.q4, Hand.q3, g_H] <;> rfl)
  have h_N : w8.heap[w4.heap.size]? = some (.cells #[.int .i64 p1, .int .i64 q1] 24 (0, 0)) := by
    refine Hand.kb hb8 ?_; first | with_reducible exact g_N | (simp (disch := first | omega | (simp only [Hand.sa, Hand.ss, Hand.sd, Hand.sn]; first | done | omega)) only [Hand.q2, Hand.q1, Hand.q5, Hand.q6, Hand.q4, Hand.q3, g_N] <;> rfl)
  have hB' : Below w.heap.size w w8 := Hand.stepB hb8 (by repeat (with_reducible first | apply hB | apply Below.drew | apply pw_below_drewN | (apply Below.setCell; rotate_left; (dsimp only; omega)) | (apply Below.alloc; rotate_left; (first | omega | (simp only [Hand.sa, Hand.ss, Hand.sd, Hand.sn]; omega))))) (Nat.le_refl _)
  clear HG hB g_R g_G g_L g_H g_N zw z_R z1_R z2_R y0_R y1_R c_R_0 f_R_0 c_R_1 f_R_1 z_G z1_G z2_G y0_G y1_G c_G_0 f_G_0 c_G_1 f_G_1 z_L z1_L z2_L y0_L y1_L c_L_0 f_L_0 c_L_1 f_L_1 z_H z1_H z2_H y0_H y1_H c_H_0 f_H_0 c_H_1 f_H_1 z_N z1_N z2_N y0_N y1_N c_N_0 f_N_0 c_N_1 f_N_1
  clear hb8
  have g_R := h_R
  have g_G := h_G
  have g_L := h_L
  have g_H := h_H
  have g_N := h_N
  have hB := hB'
  clear hB' h_R h_G h_L h_H h_N
  obtain ⟨z_R, z1_R, z2_R, y0_R, y1_R⟩ := Hand.hz g_R
  obtain ⟨c_R_0, f_R_0, c_R_1, f_R_1⟩ := Hand.hc2 g_R
  obtain ⟨z_G, z1_G, z2_G, y0_G, y1_G⟩ := Hand.hz g_G
  obtain ⟨c_G_0, f_G_0, c_G_1, f_G_1⟩ := Hand.hc2 g_G
  obtain ⟨z_L, z1_L, z2_L, y0_L, y1_L⟩ := Hand.hz g_L
  obtain ⟨c_L_0, f_L_0, c_L_1, f_L_1⟩ := Hand.hc2 g_L
  obtain ⟨z_H, z1_H, z2_H, y0_H, y1_H⟩ := Hand.hz g_H
  obtain ⟨c_H_0, f_H_0, c_H_1, f_H_1⟩ := Hand.hc2 g_H
  obtain ⟨z_N, z1_N, z2_N, y0_N, y1_N⟩ := Hand.hz g_N
  obtain ⟨c_N_0, f_N_0, c_N_1, f_N_1⟩ := Hand.hc2 g_N
  have zw : w.heap.size ≤ w8.heap.size := hB.size
  have HG := Lib.hid (And.intro g_R (And.intro g_G (And.intro g_L (And.intro g_H (And.intro g_N (hB))))))
  clear g_R g_G g_L g_H g_N hB
  go_wp2_with fail
  with_reducible refine (C2.out _).mono ?_
  rintro e w9 ⟨rfl, hb9⟩
  obtain ⟨g_R, g_G, g_L, g_H, g_N, hB⟩ := HG.out
  have h_R : w9.heap[w.heap.size]? = some (.cells #[.int .i64 a, .int .i64 b] 24 (0, 0)) := by
    refine Hand.kb hb9 ?_; first | with_reducible exact g_R | (simp (disch := first | omega | (simp only [Hand.sa, Hand.ss, Hand.sd, Hand.sn]; first | done | omega)) only [Hand.q2, Hand.q1, Hand.q5, Hand.q6, Hand.q4, Hand.q3, g_R] <;> rfl)
  have h_G : w9.heap[w.heap.size + 1]? = some (.cells #[.int .i64 c, .int .i64 d] 24 (0, 0)) := by
    refine Hand.kb hb9 ?_; first | with_reducible exact g_G | (simp (disch := first | omega | (simp only [Hand.sa, Hand.ss, Hand.sd, Hand.sn]; first | done | omega)) only [Hand.q2, Hand.q1, Hand.q5, Hand.q6, Hand.q4, Hand.q3, g_G] <;> rfl)
  have h_L : w9.heap[w2.heap.size]? = some (.cells #[.int .i64 p1, .int .i64 q1] 24 (0, 0)) := by
    refine Hand.kb hb9 ?_; first | with_reducible exact g_L | (simp (disch := first | omega | (simp only [Hand.sa, Hand.ss, Hand.sd, Hand.sn]; first | done | omega)) only [Hand.q2, Hand.q1, Hand.q5, Hand.q6, Hand.q4, Hand.q3, g_L] <;> rfl)
  have h_H : w9.heap[w3.heap.size]? = some (.cells #[.int .i64 p3, .int .i64 q3] 24 (0, 0)) := by
    refine Hand.kb hb9 ?_; first | with_reducible exact g_H | (simp (disch := first | omega | (simp only [Hand.sa, Hand.ss, Hand.sd, Hand.sn]; first | done | omega)) only [Hand.q2, Hand.q1, Hand.q5, Hand.q6, Hand.q4, Hand.q3, g_H] <;> rfl)
  have h_N : w9.heap[w4.heap.size]? = some (.cells #[.int .i64 p1, .int .i64 q1] 24 (0, 0)) := by
    refine Hand.kb hb9 ?_; first | with_reducible exact g_N | (simp (disch := first | omega | (simp only [Hand.sa, Hand.ss, Hand.sd, Hand.sn]; first | done | omega)) only [Hand.q2, Hand.q1, Hand.q5, Hand.q6, Hand.q4, Hand.q3, g_N] <;> rfl)
  have hB' : Below w.heap.size w w9 := Hand.stepB hb9 (by repeat (with_reducible first | apply hB | apply Below.drew | apply pw_below_drewN | (apply Below.setCell; rotate_left; (dsimp only; omega)) | (apply Below.alloc; rotate_left; (first | omega | (simp only [Hand.sa, Hand.ss, Hand.sd, Hand.sn]; omega))))) (Nat.le_refl _)
  clear HG hB g_R g_G g_L g_H g_N zw z_R z1_R z2_R y0_R y1_R c_R_0 f_R_0 c_R_1 f_R_1 z_G z1_G z2_G y0_G y1_G c_G_0 f_G_0 c_G_1 f_G_1 z_L z1_L z2_L y0_L y1_L c_L_0 f_L_0 c_L_1 f_L_1 z_H z1_H z2_H y0_H y1_H c_H_0 f_H_0 c_H_1 f_H_1 z_N z1_N z2_N y0_N y1_N c_N_0 f_N_0 c_N_1 f_N_1
  clear hb9
  have g_R := h_R
  have g_G := h_G
  have g_L := h_L
  have g_H := h_H
  have g_N := h_N
  have hB := hB'
  clear hB' h_R h_G h_L h_H h_N
  obtain ⟨z_R, z1_R, z2_R, y0_R, y1_R⟩ := Hand.hz g_R
  obtain ⟨c_R_0, f_R_0, c_R_1, f_R_1⟩ := Hand.hc2 g_R
  obtain ⟨z_G, z1_G, z2_G, y0_G, y1_G⟩ := Hand.hz g_G
  obtain ⟨c_G_0, f_G_0, c_G_1, f_G_1⟩ := Hand.hc2 g_G
  obtain ⟨z_L, z1_L, z2_L, y0_L, y1_L⟩ := Hand.hz g_L
  obtain ⟨c_L_0, f_L_0, c_L_1, f_L_1⟩ := Hand.hc2 g_L
  obtain ⟨z_H, z1_H, z2_H, y0_H, y1_H⟩ := Hand.hz g_H
  obtain ⟨c_H_0, f_H_0, c_H_1, f_H_1⟩ := Hand.hc2 g_H
  obtain ⟨z_N, z1_N, z2_N, y0_N, y1_N⟩ := Hand.hz g_N
  obtain ⟨c_N_0, f_N_0, c_N_1, f_N_1⟩ := Hand.hc2 g_N
  have zw : w.heap.size ≤ w9.heap.size := hB.size
  have HG := Lib.hid (And.intro g_R (And.intro g_G (And.intro g_L (And.intro g_H (And.intro g_N (hB))))))
  clear g_R g_G g_L g_H g_N hB
  go_wp2_with fail
  with_reducible refine (D1.out _).mono ?_
  rintro e w10 ⟨rfl, hb10⟩
  obtain ⟨g_R, g_G, g_L, g_H, g_N, hB⟩ := HG.out
  have h_R : w10.heap[w.heap.size]? = some (.cells #[.int .i64 a, .int .i64 b] 24 (0, 0)) := by
    refine Hand.kb hb10 ?_; first | with_reducible exact g_R | (simp (disch := first | omega | (simp only [Hand.sa, Hand.ss, Hand.sd, Hand.sn]; first | done | omega)) only [Hand.q2, Hand.q1, Hand.q5, Hand.q6, Hand.q4, Hand.q3, g_R] <;> rfl)
  have h_G : w10.heap[w.heap.size + 1]? = some (.cells #[.int .i64 c, .int .i64 d] 24 (0, 0)) := by
    refine Hand.kb hb10 ?_; first | with_reducible exact g_G | (simp (disch := first | omega | (simp only [Hand.sa, Hand.ss, Hand.sd, Hand.sn]; first | done | omega)) only [Hand.q2, Hand.q1, Hand.q5, Hand.q6, Hand.q4, Hand.q3, g_G] <;> rfl)
  have h_L : w10.heap[w2.heap.size]? = some (.cells #[.int .i64 p1, .int .i64 q1] 24 (0, 0)) := by
    refine Hand.kb hb10 ?_; first | with_reducible exact g_L | (simp (disch := first | omega | (simp only [Hand.sa, Hand.ss, Hand.sd, Hand.sn]; first | done | omega)) only [Hand.q2, Hand.q1, Hand.q5, Hand.q6, Hand.q4, Hand.q3, g_L] <;> rfl)
  have h_H : w10.heap[w3.heap.size]? = some (.cells #[.int .i64 p3, .int .i64 q3] 24 (0, 0)) := by
    refine Hand.kb hb10 ?_; first | with_reducible exact g_H | (simp (disch := first | omega | (simp only [Hand.sa, Hand.ss, Hand.sd, Hand.sn]; first | done | omega)) only [Hand.q2, Hand.q1, Hand.q5, Hand.q6, Hand.q4, Hand.q3, g_H] <;> rfl)
  have h_N : w10.heap[w4.heap.size]? = some (.cells #[.int .i64 p1, .int .i64 q1] 24 (0, 0)) := by
    refine Hand.kb hb10 ?_; first | with_reducible exact g_N | (simp (disch := first | omega | (simp only [Hand.sa, Hand.ss, Hand.sd, Hand.sn]; first | done | omega)) only [Hand.q2, Hand.q1, Hand.q5, Hand.q6, Hand.q4, Hand.q3, g_N] <;> rfl)
  have hB' : Below w.heap.size w w10 := Hand.stepB hb10 (by repeat (with_reducible first | apply hB | apply Below.drew | apply pw_below_drewN | (apply Below.setCell; rotate_left; (dsimp only; omega)) | (apply Below.alloc; rotate_left; (first | omega | (simp only [Hand.sa, Hand.ss, Hand.sd, Hand.sn]; omega))))) (Nat.le_refl _)
  clear HG hB g_R g_G g_L g_H g_N zw z_R z1_R z2_R y0_R y1_R c_R_0 f_R_0 c_R_1 f_R_1 z_G z1_G z2_G y0_G y1_G c_G_0 f_G_0 c_G_1 f_G_1 z_L z1_L z2_L y0_L y1_L c_L_0 f_L_0 c_L_1 f_L_1 z_H z1_H z2_H y0_H y1_H c_H_0 f_H_0 c_H_1 f_H_1 z_N z1_N z2_N y0_N y1_N c_N_0 f_N_0 c_N_1 f_N_1
  clear hb10
  have g_R := h_R
  have g_G := h_G
  have g_L := h_L
  have g_H := h_H
  have g_N := h_N
  have hB := hB'
  clear hB' h_R h_G h_L h_H h_N
  obtain ⟨z_R, z1_R, z2_R, y0_R, y1_R⟩ := Hand.hz g_R
  obtain ⟨c_R_0, f_R_0, c_R_1, f_R_1⟩ := Hand.hc2 g_R
  obtain ⟨z_G, z1_G, z2_G, y0_G, y1_G⟩ := Hand.hz g_G
  obtain ⟨c_G_0, f_G_0, c_G_1, f_G_1⟩ := Hand.hc2 g_G
  obtain ⟨z_L, z1_L, z2_L, y0_L, y1_L⟩ := Hand.hz g_L
  obtain ⟨c_L_0, f_L_0, c_L_1, f_L_1⟩ := Hand.hc2 g_L
  obtain ⟨z_H, z1_H, z2_H, y0_H, y1_H⟩ := Hand.hz g_H
  obtain ⟨c_H_0, f_H_0, c_H_1, f_H_1⟩ := Hand.hc2 g_H
  obtain ⟨z_N, z1_N, z2_N, y0_N, y1_N⟩ := Hand.hz g_N
  obtain ⟨c_N_0, f_N_0, c_N_1, f_N_1⟩ := Hand.hc2 g_N
  have zw : w.heap.size ≤ w10.heap.size := hB.size
  have HG := Lib.hid (And.intro g_R (And.intro g_G (And.intro g_L (And.intro g_H (And.intro g_N (hB))))))
  clear g_R g_G g_L g_H g_N hB
  go_wp2_with fail
  go_quiet ((go_at_call 33; exact Calls.quiet_of_same (F0.out _)))
  go_wp2_with fail
  with_reducible refine (D2.out _).mono ?_
  rintro e w11 ⟨rfl, hb11⟩
  obtain ⟨g_R, g_G, g_L, g_H, g_N, hB⟩ := HG.out
  have h_R : w11.heap[w.heap.size]? = some (.cells #[.int .i64 a, .int .i64 b] 24 (0, 0)) := by
    refine Hand.kb hb11 ?_; first | with_reducible exact g_R | (simp (disch := first | omega | (simp only [Hand.sa, Hand.ss, Hand.sd, Hand.sn]; first | done | omega)) only [Hand.q2, Hand.q1, Hand.q5, Hand.q6, Hand.q4, Hand.q3, g_R] <;> rfl)
  have h_G : w11.heap[w.heap.size + 1]? = some (.cells #[.int .i64 c, .int .i64 d] 24 (0, 0)) := by
    refine Hand.kb hb11 ?_; first | with_reducible exact g_G | (simp (disch := first | omega | (simp only [Hand.sa, Hand.ss, Hand.sd, Hand.sn]; first | done | omega)) only [Hand.q2, Hand.q1, Hand.q5, Hand.q6, Hand.q4, Hand.q3, g_G] <;> rfl)
  have h_L : w11.heap[w2.heap.size]? = some (.cells #[.int .i64 p1, .int .i64 q1] 24 (0, 0)) := by
    refine Hand.kb hb11 ?_; first | with_reducible exact g_L | (simp (disch := first | omega | (simp only [Hand.sa, Hand.ss, Hand.sd, Hand.sn]; first | done | omega)) only [Hand.q2, Hand.q1, Hand.q5, Hand.q6, Hand.q4, Hand.q3, g_L] <;> rfl)
  have h_H : w11.heap[w3.heap.size]? = some (.cells #[.int .i64 p3, .int .i64 q3] 24 (0, 0)) := by
    refine Hand.kb hb11 ?_; first | with_reducible exact g_H | (simp (disch := first | omega | (simp only [Hand.sa, Hand.ss, Hand.sd, Hand.sn]; first | done | omega)) only [Hand.q2, Hand.q1, Hand.q5, Hand.q6, Hand.q4, Hand.q3, g_H] <;> rfl)
  have h_N : w11.heap[w4.heap.size]? = some (.cells #[.int .i64 p1, .int .i64 q1] 24 (0, 0)) := by
    refine Hand.kb hb11 ?_; first | with_reducible exact g_N | (simp (disch := first | omega | (simp only [Hand.sa, Hand.ss, Hand.sd, Hand.sn]; first | done | omega)) only [Hand.q2, Hand.q1, Hand.q5, Hand.q6, Hand.q4, Hand.q3, g_N] <;> rfl)
  have h_S : w11.heap[w10.heap.size]? = some (.cells #[.int .i64 c, .int .i64 d] 24 (0, 0)) := by
    refine Hand.kb hb11 ?_; simp (disch := first | omega | (simp only [Hand.sa, Hand.ss, Hand.sd, Hand.sn]; first | done | omega)) only [Hand.q2, Hand.q1, Hand.q5, Hand.q6, Hand.q4, Hand.q3] <;> rfl
  have hB' : Below w.heap.size w w11 := Hand.stepB hb11 (by repeat (with_reducible first | apply hB | apply Below.drew | apply pw_below_drewN | (apply Below.setCell; rotate_left; (dsimp only; omega)) | (apply Below.alloc; rotate_left; (first | omega | (simp only [Hand.sa, Hand.ss, Hand.sd, Hand.sn]; omega))))) (Nat.le_refl _)
  clear HG hB g_R g_G g_L g_H g_N zw z_R z1_R z2_R y0_R y1_R c_R_0 f_R_0 c_R_1 f_R_1 z_G z1_G z2_G y0_G y1_G c_G_0 f_G_0 c_G_1 f_G_1 z_L z1_L z2_L y0_L y1_L c_L_0 f_L_0 c_L_1 f_L_1 z_H z1_H z2_H y0_H y1_H c_H_0 f_H_0 c_H_1 f_H_1 z_N z1_N z2_N y0_N y1_N c_N_0 f_N_0 c_N_1 f_N_1
  clear hb11
  have g_R := h_R
  have g_G := h_G
  have g_L := h_L
  have g_H := h_H
  have g_N := h_N
  have g_S := h_S
  have hB := hB'
  clear hB' h_R h_G h_L h_H h_N h_S
  obtain ⟨z_R, z1_R, z2_R, y0_R, y1_R⟩ := Hand.hz g_R
  obtain ⟨c_R_0, f_R_0, c_R_1, f_R_1⟩ := Hand.hc2 g_R
  obtain ⟨z_G, z1_G, z2_G, y0_G, y1_G⟩ := Hand.hz g_G
  obtain ⟨c_G_0, f_G_0, c_G_1, f_G_1⟩ := Hand.hc2 g_G
  obtain ⟨z_L, z1_L, z2_L, y0_L, y1_L⟩ := Hand.hz g_L
  obtain ⟨c_L_0, f_L_0, c_L_1, f_L_1⟩ := Hand.hc2 g_L
  obtain ⟨z_H, z1_H, z2_H, y0_H, y1_H⟩ := Hand.hz g_H
  obtain ⟨c_H_0, f_H_0, c_H_1, f_H_1⟩ := Hand.hc2 g_H
  obtain ⟨z_N, z1_N, z2_N, y0_N, y1_N⟩ := Hand.hz g_N
  obtain ⟨c_N_0, f_N_0, c_N_1, f_N_1⟩ := Hand.hc2 g_N
  obtain ⟨z_S, z1_S, z2_S, y0_S, y1_S⟩ := Hand.hz g_S
  obtain ⟨c_S_0, f_S_0, c_S_1, f_S_1⟩ := Hand.hc2 g_S
  have zw : w.heap.size ≤ w11.heap.size := hB.size
  have HG := Lib.hid (And.intro g_R (And.intro g_G (And.intro g_L (And.intro g_H (And.intro g_N (And.intro g_S (hB)))))))
  clear g_R g_G g_L g_H g_N g_S hB
  go_wp2_with fail
  with_reducible refine (D3.out _).mono ?_
  rintro e w12 ⟨rfl, hb12⟩
  obtain ⟨g_R, g_G, g_L, g_H, g_N, g_S, hB⟩ := HG.out
  have h_R : w12.heap[w.heap.size]? = some (.cells #[.int .i64 a, .int .i64 b] 24 (0, 0)) := by
    refine Hand.kb hb12 ?_; first | with_reducible exact g_R | (simp (disch := first | omega | (simp only [Hand.sa, Hand.ss, Hand.sd, Hand.sn]; first | done | omega)) only [Hand.q2, Hand.q1, Hand.q5, Hand.q6, Hand.q4, Hand.q3, g_R] <;> rfl)
  have h_G : w12.heap[w.heap.size + 1]? = some (.cells #[.int .i64 c, .int .i64 d] 24 (0, 0)) := by
    refine Hand.kb hb12 ?_; first | with_reducible exact g_G | (simp (disch := first | omega | (simp only [Hand.sa, Hand.ss, Hand.sd, Hand.sn]; first | done | omega)) only [Hand.q2, Hand.q1, Hand.q5, Hand.q6, Hand.q4, Hand.q3, g_G] <;> rfl)
  have h_L : w12.heap[w2.heap.size]? = some (.cells #[.int .i64 p1, .int .i64 q1] 24 (0, 0)) := by
    refine Hand.kb hb12 ?_; first | with_reducible exact g_L | (simp (disch := first | omega | (simp only [Hand.sa, Hand.ss, Hand.sd, Hand.sn]; first | done | omega)) only [Hand.q2, Hand.q1, Hand.q5, Hand.q6, Hand.q4, Hand.q3, g_L] <;> rfl)
  have h_H : w12.heap[w3.heap.size]? = some (.cells #[.int .i64 p3, .int .i64 q3] 24 (0, 0)) := by
    refine Hand.kb hb12 ?_; first | with_reducible exact g_H | (simp (disch := first | omega | (simp only [Hand.sa, Hand.ss, Hand.sd, Hand.sn]; first | done | omega)) only [Hand.q2, Hand.q1, Hand.q5, Hand.q6, Hand.q4, Hand.q3, g_H] <;> rfl)
  have h_N : w12.heap[w4.heap.size]? = some (.cells #[.int .i64 p1, .int .i64 q1] 24 (0, 0)) := by
    refine Hand.kb hb12 ?_; first | with_reducible exact g_N | (simp (disch := first | omega | (simp only [Hand.sa, Hand.ss, Hand.sd, Hand.sn]; first | done | omega)) only [Hand.q2, Hand.q1, Hand.q5, Hand.q6, Hand.q4, Hand.q3, g_N] <;> rfl)
  have h_S : w12.heap[w10.heap.size]? = some (.cells #[.int .i64 c, .int .i64 d] 24 (0, 0)) := by
    refine Hand.kb hb12 ?_; first | with_reducible exact g_S | (simp (disch := first | omega | (simp only [Hand.sa, Hand.ss, Hand.sd, Hand.sn]; first | done | omega)) only [Hand.q2, Hand.q1, Hand.q5, Hand.q6, Hand.q4, Hand.q3, g_S] <;> rfl)
  have h_D : w12.heap[w11.heap.size]? = some (.cells #[.int .i64 x, .int .i64 y] 24 (0, 0)) := by
    refine Hand.kb hb12 ?_; simp (disch := first | omega | (simp only [Hand.sa, Hand.ss, Hand.sd, Hand.sn]; first | done | omega)) only [Hand.q2, Hand.q1, Hand.q5, Hand.q6, Hand.q4, Hand.q3] <;> rfl
  have hB' : Below w.heap.size w w12 := Hand.stepB hb12 (by repeat (with_reducible first | apply hB | apply Below.drew | apply pw_below_drewN | (apply Below.setCell; rotate_left; (dsimp only; omega)) | (apply Below.alloc; rotate_left; (first | omega | (simp only [Hand.sa, Hand.ss, Hand.sd, Hand.sn]; omega))))) (Nat.le_refl _)
  clear HG hB g_R g_G g_L g_H g_N g_S zw z_R z1_R z2_R y0_R y1_R c_R_0 f_R_0 c_R_1 f_R_1 z_G z1_G z2_G y0_G y1_G c_G_0 f_G_0 c_G_1 f_G_1 z_L z1_L z2_L y0_L y1_L c_L_0 f_L_0 c_L_1 f_L_1 z_H z1_H z2_H y0_H y1_H c_H_0 f_H_0 c_H_1 f_H_1 z_N z1_N z2_N y0_N y1_N c_N_0 f_N_0 c_N_1 f_N_1 z_S z1_S z2_S y0_S y1_S c_S_0 f_S_0 c_S_1 f_S_1
  clear hb12
  have g_R := h_R
  have g_G := h_G
  have g_L := h_L
  have g_H := h_H
  have g_N := h_N
  have g_S := h_S
  have g_D := h_D
  have hB := hB'
  clear hB' h_R h_G h_L h_H h_N h_S h_D
  obtain ⟨z_R, z1_R, z2_R, y0_R, y1_R⟩ := Hand.hz g_R
  obtain ⟨c_R_0, f_R_0, c_R_1, f_R_1⟩ := Hand.hc2 g_R
  obtain ⟨z_G, z1_G, z2_G, y0_G, y1_G⟩ := Hand.hz g_G
  obtain ⟨c_G_0, f_G_0, c_G_1, f_G_1⟩ := Hand.hc2 g_G
  obtain ⟨z_L, z1_L, z2_L, y0_L, y1_L⟩ := Hand.hz g_L
  obtain ⟨c_L_0, f_L_0, c_L_1, f_L_1⟩ := Hand.hc2 g_L
  obtain ⟨z_H, z1_H, z2_H, y0_H, y1_H⟩ := Hand.hz g_H
  obtain ⟨c_H_0, f_H_0, c_H_1, f_H_1⟩ := Hand.hc2 g_H
  obtain ⟨z_N, z1_N, z2_N, y0_N, y1_N⟩ := Hand.hz g_N
  obtain ⟨c_N_0, f_N_0, c_N_1, f_N_1⟩ := Hand.hc2 g_N
  obtain ⟨z_S, z1_S, z2_S, y0_S, y1_S⟩ := Hand.hz g_S
  obtain ⟨c_S_0, f_S_0, c_S_1, f_S_1⟩ := Hand.hc2 g_S
  obtain ⟨z_D, z1_D, z2_D, y0_D, y1_D⟩ := Hand.hz g_D
  obtain ⟨c_D_0, f_D_0, c_D_1, f_D_1⟩ := Hand.hc2 g_D
  have zw : w.heap.size ≤ w12.heap.size := hB.size
  have HG := Lib.hid (And.intro g_R (And.intro g_G (And.intro g_L (And.intro g_H (And.intro g_N (And.intro g_S (And.intro g_D (hB))))))))
  clear g_R g_G g_L g_H g_N g_S g_D hB
  go_wp2_with fail
  with_reducible refine (E1.out _).mono ?_
  rintro e w13 ⟨rfl, hb13⟩
  obtain ⟨g_R, g_G, g_L, g_H, g_N, g_S, g_D, hB⟩ := HG.out
  have h_R : w13.heap[w.heap.size]? = some (.cells #[.int .i64 a, .int .i64 b] 24 (0, 0)) := by
    refine Hand.kb hb13 ?_; first | with_reducible exact g_R | (simp (disch := first | omega | (simp only [Hand.sa, Hand.ss, Hand.sd, Hand.sn]; first | done | omega)) only [Hand.q2, Hand.q1, Hand.q5, Hand.q6, Hand.q4, Hand.q3, g_R] <;> rfl)
  have h_G : w13.heap[w.heap.size + 1]? = some (.cells #[.int .i64 c, .int .i64 d] 24 (0, 0)) := by
    refine Hand.kb hb13 ?_; first | with_reducible exact g_G | (simp (disch := first | omega | (simp only [Hand.sa, Hand.ss, Hand.sd, Hand.sn]; first | done | omega)) only [Hand.q2, Hand.q1, Hand.q5, Hand.q6, Hand.q4, Hand.q3, g_G] <;> rfl)
  have h_L : w13.heap[w2.heap.size]? = some (.cells #[.int .i64 p1, .int .i64 q1] 24 (0, 0)) := by
    refine Hand.kb hb13 ?_; first | with_reducible exact g_L | (simp (disch := first | omega | (simp only [Hand.sa, Hand.ss, Hand.sd, Hand.sn]; first | done | omega)) only [Hand.q2, Hand.q1, Hand.q5, Hand.q6, Hand.q4, Hand.q3, g_L] <;> rfl)
  have h_H : w13.heap[w3.heap.size]? = some (.cells #[.int .i64 p3, .int .i64 q3] 24 (0, 0)) := by
    refine Hand.kb hb13 ?_; first | with_reducible exact g_H | (simp (disch := first | omega | (simp only [Hand.sa, Hand.ss, Hand.sd, Hand.sn]; first | done | omega)) only [Hand.q2, Hand.q1, Hand.q5, Hand.q6, Hand.q4, Hand.q3, g_H] <;> rfl)
  have h_N : w13.heap[w4.heap.size]? = some (.cells #[.int .i64 p1, .int .i64 q1] 24 (0, 0)) := by
    refine Hand.kb hb13 ?_; first | with_reducible exact g_N | (simp (disch := first | omega | (simp only [Hand.sa, Hand.ss, Hand.sd, Hand.sn]; first | done | omega)) only [Hand.q2, Hand.q1, Hand.q5, Hand.q6, Hand.q4, Hand.q3, g_N] <;> rfl)
  have h_S : w13.heap[w10.heap.size]? = some (.cells #[.int .i64 c, .int .i64 d] 24 (0, 0)) := by
    refine Hand.kb hb13 ?_; first | with_reducible exact g_S | (simp (disch := first | omega | (simp only [Hand.sa, Hand.ss, Hand.sd, Hand.sn]; first | done | omega)) only [Hand.q2, Hand.q1, Hand.q5, Hand.q6, Hand.q4, Hand.q3, g_S] <;> rfl)
  have h_D : w13.heap[w11.heap.size]? = some (.cells #[.int .i64 x, .int .i64 y] 24 (0, 0)) := by
    refine Hand.kb hb13 ?_; first | with_reducible exact g_D | (simp (disch := first | omega | (simp only [Hand.sa, Hand.ss, Hand.sd, Hand.sn]; first | done | omega)) only [Hand.q2, Hand.q1, Hand.q5, Hand.q6, Hand.q4, Hand.q3, g_D] <;> rfl)
  have h_U : w13.heap[w12.heap.size]? = some (.cells #[.int .i64 x', .int .i64 y'] 24 (0, 0)) := by
    refine Hand.kb hb13 ?_; simp (disch := first | omega | (simp only [Hand.sa, Hand.ss, Hand.sd, Hand.sn]; first | done | omega)) only [Hand.q2, Hand.q1, Hand.q5, Hand.q6, Hand.q4, Hand.q3] <;> rfl
  have hB' : Below w.heap.size w w13 := Hand.stepB hb13 (by repeat (with_reducible first | apply hB | apply Below.drew | apply pw_below_drewN | (apply Below.setCell; rotate_left; (dsimp only; omega)) | (apply Below.alloc; rotate_left; (first | omega | (simp only [Hand.sa, Hand.ss, Hand.sd, Hand.sn]; omega))))) (Nat.le_refl _)
  clear HG hB g_R g_G g_L g_H g_N g_S g_D zw z_R z1_R z2_R y0_R y1_R c_R_0 f_R_0 c_R_1 f_R_1 z_G z1_G z2_G y0_G y1_G c_G_0 f_G_0 c_G_1 f_G_1 z_L z1_L z2_L y0_L y1_L c_L_0 f_L_0 c_L_1 f_L_1 z_H z1_H z2_H y0_H y1_H c_H_0 f_H_0 c_H_1 f_H_1 z_N z1_N z2_N y0_N y1_N c_N_0 f_N_0 c_N_1 f_N_1 z_S z1_S z2_S y0_S y1_S c_S_0 f_S_0 c_S_1 f_S_1 z_D z1_D z2_D y0_D y1_D c_D_0 f_D_0 c_D_1 f_D_1
  clear hb13
  have g_R := h_R
  have g_G := h_G
  have g_L := h_L
  have g_H := h_H
  have g_N := h_N
  have g_S := h_S
  have g_D := h_D
  have g_U := h_U
  have hB := hB'
  clear hB' h_R h_G h_L h_H h_N h_S h_D h_U
  obtain ⟨z_R, z1_R, z2_R, y0_R, y1_R⟩ := Hand.hz g_R
  obtain ⟨c_R_0, f_R_0, c_R_1, f_R_1⟩ := Hand.hc2 g_R
  obtain ⟨z_G, z1_G, z2_G, y0_G, y1_G⟩ := Hand.hz g_G
  obtain ⟨c_G_0, f_G_0, c_G_1, f_G_1⟩ := Hand.hc2 g_G
  obtain ⟨z_L, z1_L, z2_L, y0_L, y1_L⟩ := Hand.hz g_L
  obtain ⟨c_L_0, f_L_0, c_L_1, f_L_1⟩ := Hand.hc2 g_L
  obtain ⟨z_H, z1_H, z2_H, y0_H, y1_H⟩ := Hand.hz g_H
  obtain ⟨c_H_0, f_H_0, c_H_1, f_H_1⟩ := Hand.hc2 g_H
  obtain ⟨z_N, z1_N, z2_N, y0_N, y1_N⟩ := Hand.hz g_N
  obtain ⟨c_N_0, f_N_0, c_N_1, f_N_1⟩ := Hand.hc2 g_N
  obtain ⟨z_S, z1_S, z2_S, y0_S, y1_S⟩ := Hand.hz g_S
  obtain ⟨c_S_0, f_S_0, c_S_1, f_S_1⟩ := Hand.hc2 g_S
  obtain ⟨z_D, z1_D, z2_D, y0_D, y1_D⟩ := Hand.hz g_D
  obtain ⟨c_D_0, f_D_0, c_D_1, f_D_1⟩ := Hand.hc2 g_D
  obtain ⟨z_U, z1_U, z2_U, y0_U, y1_U⟩ := Hand.hz g_U
  obtain ⟨c_U_0, f_U_0, c_U_1, f_U_1⟩ := Hand.hc2 g_U
  have zw : w.heap.size ≤ w13.heap.size := hB.size
  have HG := Lib.hid (And.intro g_R (And.intro g_G (And.intro g_L (And.intro g_H (And.intro g_N (And.intro g_S (And.intro g_D (And.intro g_U (hB)))))))))
  clear g_R g_G g_L g_H g_N g_S g_D g_U hB
  go_wp2_with fail
  with_reducible refine (E2.out _).mono ?_
  rintro e w14 ⟨rfl, hb14⟩
  obtain ⟨g_R, g_G, g_L, g_H, g_N, g_S, g_D, g_U, hB⟩ := HG.out
  have h_R : w14.heap[w.heap.size]? = some (.cells #[.int .i64 a, .int .i64 b] 24 (0, 0)) := by
    refine Hand.kb hb14 ?_; first | with_reducible exact g_R | (simp (disch := first | omega | (simp only [Hand.sa, Hand.ss, Hand.sd, Hand.sn]; first | done | omega)) only [Hand.q2, Hand.q1, Hand.q5, Hand.q6, Hand.q4, Hand.q3, g_R] <;> rfl)
  have h_G : w14.heap[w.heap.size + 1]? = some (.cells #[.int .i64 c, .int .i64 d] 24 (0, 0)) := by
    refine Hand.kb hb14 ?_; first | with_reducible exact g_G | (simp (disch := first | omega | (simp only [Hand.sa, Hand.ss, Hand.sd, Hand.sn]; first | done | omega)) only [Hand.q2, Hand.q1, Hand.q5, Hand.q6, Hand.q4, Hand.q3, g_G] <;> rfl)
  have h_L : w14.heap[w2.heap.size]? = some (.cells #[.int .i64 p1, .int .i64 q1] 24 (0, 0)) := by
    refine Hand.kb hb14 ?_; first | with_reducible exact g_L | (simp (disch := first | omega | (simp only [Hand.sa, Hand.ss, Hand.sd, Hand.sn]; first | done | omega)) only [Hand.q2, Hand.q1, Hand.q5, Hand.q6, Hand.q4, Hand.q3, g_L] <;> rfl)
  have h_H : w14.heap[w3.heap.size]? = some (.cells #[.int .i64 p3, .int .i64 q3] 24 (0, 0)) := by
    refine Hand.kb hb14 ?_; first | with_reducible exact g_H | (simp (disch := first | omega | (simp only [Hand.sa, Hand.ss, Hand.sd, Hand.sn]; first | done | omega)) only [Hand.q2, Hand.q1, Hand.q5, Hand.q6, Hand.q4, Hand.q3, g_H] <;> rfl)
  have h_N : w14.heap[w4.heap.size]? = some (.cells #[.int .i64 p1, .int .i64 q1] 24 (0, 0)) := by
    refine Hand.kb hb14 ?_; first | with_reducible exact g_N | (simp (disch := first | omega | (simp only [Hand.sa, Hand.ss, Hand.sd, Hand.sn]; first | done | omega)) only [Hand.q2, Hand.q1, Hand.q5, Hand.q6, Hand.q4, Hand.q3, g_N] <;> rfl)
  have h_S : w14.heap[w10.heap.size]? = some (.cells #[.int .i64 c, .int .i64 d] 24 (0, 0)) := by
    refine Hand.kb hb14 ?_; first | with_reducible exact g_S | (simp (disch := first | omega | (simp only [Hand.sa, Hand.ss, Hand.sd, Hand.sn]; first | done | omega)) only [Hand.q2, Hand.q1, Hand.q5, Hand.q6, Hand.q4, Hand.q3, g_S] <;> rfl)
  have h_D : w14.heap[w11.heap.size]? = some (.cells #[.int .i64 x, .int .i64 y] 24 (0, 0)) := by
    refine Hand.kb hb14 ?_; first | with_reducible exact g_D | (simp (disch := first | omega | (simp only [Hand.sa, Hand.ss, Hand.sd, Hand.sn]; first | done | omega)) only [Hand.q2, Hand.q1, Hand.q5, Hand.q6, Hand.q4, Hand.q3, g_D] <;> rfl)
  have h_U : w14.heap[w12.heap.size]? = some (.cells #[.int .i64 x', .int .i64 y'] 24 (0, 0)) := by
    refine Hand.kb hb14 ?_; first | with_reducible exact g_U | (simp (disch := first | omega | (simp only [Hand.sa, Hand.ss, Hand.sd, Hand.sn]; first | done | omega)) only [Hand.q2, Hand.q1, Hand.q5, Hand.q6, Hand.q4, Hand.q3, g_U] <;> rfl)
  have hB' : Below w.heap.size w w14 := Hand.stepB hb14 (by repeat (with_reducible first | apply hB | apply Below.drew | apply pw_below_drewN | (apply Below.setCell; rotate_left; (dsimp only; omega)) | (apply Below.alloc; rotate_left; (first | omega | (simp only [Hand.sa, Hand.ss, Hand.sd, Hand.sn]; omega))))) (Nat.le_refl _)
  clear HG hB g_R g_G g_L g_H g_N g_S g_D g_U zw z_R z1_R z2_R y0_R y1_R c_R_0 f_R_0 c_R_1 f_R_1 z_G z1_G z2_G y0_G y1_G c_G_0 f_G_0 c_G_1 f_G_1 z_L z1_L z2_L y0_L y1_L c_L_0 f_L_0 c_L_1 f_L_1 z_H z1_H z2_H y0_H y1_H c_H_0 f_H_0 c_H_1 f_H_1 z_N z1_N z2_N y0_N y1_N c_N_0 f_N_0 c_N_1 f_N_1 z_S z1_S z2_S y0_S y1_S c_S_0 f_S_0 c_S_1 f_S_1 z_D z1_D z2_D y0_D y1_D c_D_0 f_D_0 c_D_1 f_D_1 z_U z1_U z2_U y0_U y1_U c_U_0 f_U_0 c_U_1 f_U_1
  clear hb14
  have g_R := h_R
  have g_G := h_G
  have g_L := h_L
  have g_H := h_H
  have g_N := h_N
  have g_S := h_S
  have g_D := h_D
  have g_U := h_U
  have hB := hB'
  clear hB' h_R h_G h_L h_H h_N h_S h_D h_U
  obtain ⟨z_R, z1_R, z2_R, y0_R, y1_R⟩ := Hand.hz g_R
  obtain ⟨c_R_0, f_R_0, c_R_1, f_R_1⟩ := Hand.hc2 g_R
  obtain ⟨z_G, z1_G, z2_G, y0_G, y1_G⟩ := Hand.hz g_G
  obtain ⟨c_G_0, f_G_0, c_G_1, f_G_1⟩ := Hand.hc2 g_G
  obtain ⟨z_L, z1_L, z2_L, y0_L, y1_L⟩ := Hand.hz g_L
  obtain ⟨c_L_0, f_L_0, c_L_1, f_L_1⟩ := Hand.hc2 g_L
  obtain ⟨z_H, z1_H, z2_H, y0_H, y1_H⟩ := Hand.hz g_H
  obtain ⟨c_H_0, f_H_0, c_H_1, f_H_1⟩ := Hand.hc2 g_H
  obtain ⟨z_N, z1_N, z2_N, y0_N, y1_N⟩ := Hand.hz g_N
  obtain ⟨c_N_0, f_N_0, c_N_1, f_N_1⟩ := Hand.hc2 g_N
  obtain ⟨z_S, z1_S, z2_S, y0_S, y1_S⟩ := Hand.hz g_S
  obtain ⟨c_S_0, f_S_0, c_S_1, f_S_1⟩ := Hand.hc2 g_S
  obtain ⟨z_D, z1_D, z2_D, y0_D, y1_D⟩ := Hand.hz g_D
  obtain ⟨c_D_0, f_D_0, c_D_1, f_D_1⟩ := Hand.hc2 g_D
  obtain ⟨z_U, z1_U, z2_U, y0_U, y1_U⟩ := Hand.hz g_U
  obtain ⟨c_U_0, f_U_0, c_U_1, f_U_1⟩ := Hand.hc2 g_U
  have zw : w.heap.size ≤ w14.heap.size := hB.size
  have HG := Lib.hid (And.intro g_R (And.intro g_G (And.intro g_L (And.intro g_H (And.intro g_N (And.intro g_S (And.intro g_D (And.intro g_U (hB)))))))))
  clear g_R g_G g_L g_H g_N g_S g_D g_U hB
  go_wp2
  go_ret
  obtain ⟨g_R, g_G, g_L, g_H, g_N, g_S, g_D, g_U, hB⟩ := HG.out
  exact ⟨rfl, hB⟩
set_option maxHeartbeats 8000000 in
set_option maxRecDepth 100000 in
theorem near_lo3l (a b c d p1 q1 p3 q3 x y z x' y' z' : Int) (w : World)
    (K0 : RB 16 #[] true)
    (S1 : RT 42 #[.agg #[.int .i64 a, .int .i64 b], .agg #[.int .i64 c, .int .i64 d], .int .i64 1] p1 q1 0)
    (S3 : RT 42 #[.agg #[.int .i64 a, .int .i64 b], .agg #[.int .i64 c, .int .i64 d], .int .i64 3] p3 q3 0)
    (S2 : RT 42 #[.agg #[.int .i64 a, .int .i64 b], .agg #[.int .i64 c, .int .i64 d], .int .i64 2] p1 q1 0)
    (F1 : RB 33 #[.int .i64 0] true)
    (F2 : RB 33 #[.int .i64 0] true)
    (F3 : RB 33 #[.int .i64 0] true)
    (C1 : RI 32 #[.agg #[.int .i64 p1, .int .i64 q1], .agg #[.int .i64 a, .int .i64 b]] (-1))
    (C2 : RI 32 #[.agg #[.int .i64 a, .int .i64 b], .agg #[.int .i64 p3, .int .i64 q3]] (-1))
    (D1 : RT 24 #[.agg #[.int .i64 p3, .int .i64 q3], .agg #[.int .i64 p1, .int .i64 q1]] c d 0)
    (F0 : RQ 33 #[.int .i64 0] true)
    (D2 : RT 24 #[.agg #[.int .i64 a, .int .i64 b], .agg #[.int .i64 p1, .int .i64 q1]] x y z)
    (D3 : RT 24 #[.agg #[.int .i64 p3, .int .i64 q3], .agg #[.int .i64 a, .int .i64 b]] x' y' z')
    (h13 : (p1 == p3 && q1 == q3) = false)
    (h31 : (p3 == p1 && q3 == q1) = false)
    (h1r : (p1 == a && q1 == b) = false)
    (E1 : RB 33 #[.int .i64 z] true)
    (E2 : RB 33 #[.int .i64 z'] true)
    (C3 : RI 32 #[.agg #[.int .i64 x, .int .i64 y], .agg #[.int .i64 x', .int .i64 y']] (-1)) :
    Calls Tryd.prog 12 #[.agg #[.int .i64 a, .int .i64 b], .agg #[.int .i64 c, .int .i64 d]] w fun e w' => e = .returned (.bool true) ∧ Below w.heap.size w w' := by
  go_enter Tryd.func12, Tryd.ntmps12
  go_wp2_with fail
  with_reducible refine (K0.out _).mono ?_
  rintro e w1 ⟨rfl, hb1⟩
  have h_R : w1.heap[w.heap.size]? = some (.cells #[.int .i64 a, .int .i64 b] 24 (0, 0)) := by
    refine Hand.kb hb1 ?_; simp (disch := first | omega | (simp only [Hand.sa, Hand.ss, Hand.sd, Hand.sn]; first | done | omega)) only [Hand.q2, Hand.q1, Hand.q5, Hand.q6, Hand.q4, Hand.q3] <;> rfl
  have h_G : w1.heap[w.heap.size + 1]? = some (.cells #[.int .i64 c, .int .i64 d] 24 (0, 0)) := by
    refine Hand.kb hb1 ?_; simp (disch := first | omega | (simp only [Hand.sa, Hand.ss, Hand.sd, Hand.sn]; first | done | omega)) only [Hand.q2, Hand.q1, Hand.q5, Hand.q6, Hand.q4, Hand.q3] <;> rfl
  have hB' : Below w.heap.size w w1 := Hand.stepB hb1 (by repeat (with_reducible first | apply Below.refl _ _ | apply Below.drew | apply pw_below_drewN | (apply Below.setCell; rotate_left; (dsimp only; omega)) | (apply Below.alloc; rotate_left; (first | omega | (simp only [Hand.sa, Hand.ss, Hand.sd, Hand.sn]; omega))))) (Nat.le_refl _)
  clear hb1
  have g_R := h_R
  have g_G := h_G
  have hB := hB'
  clear hB' h_R h_G
  obtain ⟨z_R, z1_R, z2_R, y0_R, y1_R⟩ := Hand.hz g_R
  obtain ⟨c_R_0, f_R_0, c_R_1, f_R_1⟩ := Hand.hc2 g_R
  obtain ⟨z_G, z1_G, z2_G, y0_G, y1_G⟩ := Hand.hz g_G
  obtain ⟨c_G_0, f_G_0, c_G_1, f_G_1⟩ := Hand.hc2 g_G
  have zw : w.heap.size ≤ w1.heap.size := hB.size
  have HG := Lib.hid (And.intro g_R (And.intro g_G (hB)))
  clear g_R g_G hB
  go_wp2_with fail
  with_reducible refine (S1.out _).mono ?_
  rintro e w2 ⟨rfl, hb2⟩
  obtain ⟨g_R, g_G, hB⟩ := HG.out
  have h_R : w2.heap[w.heap.size]? = some (.cells #[.int .i64 a, .int .i64 b] 24 (0, 0)) := by
    refine Hand.kb hb2 ?_; first | with_reducible exact g_R | (simp (disch := first | omega | (simp only [Hand.sa, Hand.ss, Hand.sd, Hand.sn]; first | done | omega)) only [Hand.q2, Hand.q1, Hand.q5, Hand.q6, Hand.q4, Hand.q3, g_R] <;> rfl)
  have h_G : w2.heap[w.heap.size + 1]? = some (.cells #[.int .i64 c, .int .i64 d] 24 (0, 0)) := by
    refine Hand.kb hb2 ?_; first | with_reducible exact g_G | (simp (disch := first | omega | (simp only [Hand.sa, Hand.ss, Hand.sd, Hand.sn]; first | done | omega)) only [Hand.q2, Hand.q1, Hand.q5, Hand.q6, Hand.q4, Hand.q3, g_G] <;> rfl)
  have hB' : Below w.heap.size w w2 := Hand.stepB hb2 (by repeat (with_reducible first | apply hB | apply Below.drew | apply pw_below_drewN | (apply Below.setCell; rotate_left; (dsimp only; omega)) | (apply Below.alloc; rotate_left; (first | omega | (simp only [Hand.sa, Hand.ss, Hand.sd, Hand.sn]; omega))))) (Nat.le_refl _)
  clear HG hB g_R g_G zw z_R z1_R z2_R y0_R y1_R c_R_0 f_R_0 c_R_1 f_R_1 z_G z1_G z2_G y0_G y1_G c_G_0 f_G_0 c_G_1 f_G_1
  clear hb2
  have g_R := h_R
  have g_G := h_G
  have hB := hB'
  clear hB' h_R h_G
  obtain ⟨z_R, z1_R, z2_R, y0_R, y1_R⟩ := Hand.hz g_R
  obtain ⟨c_R_0, f_R_0, c_R_1, f_R_1⟩ := Hand.hc2 g_R
  obtain ⟨z_G, z1_G, z2_G, y0_G, y1_G⟩ := Hand.hz g_G
  obtain ⟨c_G_0, f_G_0, c_G_1, f_G_1⟩ := Hand.hc2 g_G
  have zw : w.heap.size ≤ w2.heap.size := hB.size
  have HG := Lib.hid (And.intro g_R (And.intro g_G (hB)))
  clear g_R g_G hB
  go_wp2_with fail
  with_reducible refine (S3.out _).mono ?_
  rintro e w3 ⟨rfl, hb3⟩
  obtain ⟨g_R, g_G, hB⟩ := HG.out
  have h_R : w3.heap[w.heap.size]? = some (.cells #[.int .i64 a, .int .i64 b] 24 (0, 0)) := by
    refine Hand.kb hb3 ?_; first | with_reducible exact g_R | (simp (disch := first | omega | (simp only [Hand.sa, Hand.ss, Hand.sd, Hand.sn]; first | done | omega)) only [Hand.q2, Hand.q1, Hand.q5, Hand.q6, Hand.q4, Hand.q3, g_R] <;> rfl)
  have h_G : w3.heap[w.heap.size + 1]? = some (.cells #[.int .i64 c, .int .i64 d] 24 (0, 0)) := by
    refine Hand.kb hb3 ?_; first | with_reducible exact g_G | (simp (disch := first | omega | (simp only [Hand.sa, Hand.ss, Hand.sd, Hand.sn]; first | done | omega)) only [Hand.q2, Hand.q1, Hand.q5, Hand.q6, Hand.q4, Hand.q3, g_G] <;> rfl)
  have h_L : w3.heap[w2.heap.size]? = some (.cells #[.int .i64 p1, .int .i64 q1] 24 (0, 0)) := by
    refine Hand.kb hb3 ?_; simp (disch := first | omega | (simp only [Hand.sa, Hand.ss, Hand.sd, Hand.sn]; first | done | omega)) only [Hand.q2, Hand.q1, Hand.q5, Hand.q6, Hand.q4, Hand.q3] <;> rfl
  have hB' : Below w.heap.size w w3 := Hand.stepB hb3 (by repeat (with_reducible first | apply hB | apply Below.drew | apply pw_below_drewN | (apply Below.setCell; rotate_left; (dsimp only; omega)) | (apply Below.alloc; rotate_left; (first | omega | (simp only [Hand.sa, Hand.ss, Hand.sd, Hand.sn]; omega))))) (Nat.le_refl _)
  clear HG hB g_R g_G zw z_R z1_R z2_R y0_R y1_R c_R_0 f_R_0 c_R_1 f_R_1 z_G z1_G z2_G y0_G y1_G c_G_0 f_G_0 c_G_1 f_G_1
  clear hb3
  have g_R := h_R
  have g_G := h_G
  have g_L := h_L
  have hB := hB'
  clear hB' h_R h_G h_L
  obtain ⟨z_R, z1_R, z2_R, y0_R, y1_R⟩ := Hand.hz g_R
  obtain ⟨c_R_0, f_R_0, c_R_1, f_R_1⟩ := Hand.hc2 g_R
  obtain ⟨z_G, z1_G, z2_G, y0_G, y1_G⟩ := Hand.hz g_G
  obtain ⟨c_G_0, f_G_0, c_G_1, f_G_1⟩ := Hand.hc2 g_G
  obtain ⟨z_L, z1_L, z2_L, y0_L, y1_L⟩ := Hand.hz g_L
  obtain ⟨c_L_0, f_L_0, c_L_1, f_L_1⟩ := Hand.hc2 g_L
  have zw : w.heap.size ≤ w3.heap.size := hB.size
  have HG := Lib.hid (And.intro g_R (And.intro g_G (And.intro g_L (hB))))
  clear g_R g_G g_L hB
  go_wp2_with fail
  with_reducible refine (S2.out _).mono ?_
  rintro e w4 ⟨rfl, hb4⟩
  obtain ⟨g_R, g_G, g_L, hB⟩ := HG.out
  have h_R : w4.heap[w.heap.size]? = some (.cells #[.int .i64 a, .int .i64 b] 24 (0, 0)) := by
    refine Hand.kb hb4 ?_; first | with_reducible exact g_R | (simp (disch := first | omega | (simp only [Hand.sa, Hand.ss, Hand.sd, Hand.sn]; first | done | omega)) only [Hand.q2, Hand.q1, Hand.q5, Hand.q6, Hand.q4, Hand.q3, g_R] <;> rfl)
  have h_G : w4.heap[w.heap.size + 1]? = some (.cells #[.int .i64 c, .int .i64 d] 24 (0, 0)) := by
    refine Hand.kb hb4 ?_; first | with_reducible exact g_G | (simp (disch := first | omega | (simp only [Hand.sa, Hand.ss, Hand.sd, Hand.sn]; first | done | omega)) only [Hand.q2, Hand.q1, Hand.q5, Hand.q6, Hand.q4, Hand.q3, g_G] <;> rfl)
  have h_L : w4.heap[w2.heap.size]? = some (.cells #[.int .i64 p1, .int .i64 q1] 24 (0, 0)) := by
    refine Hand.kb hb4 ?_; first | with_reducible exact g_L | (simp (disch := first | omega | (simp only [Hand.sa, Hand.ss, Hand.sd, Hand.sn]; first | done | omega)) only [Hand.q2, Hand.q1, Hand.q5, Hand.q6, Hand.q4, Hand.q3, g_L] <;> rfl)
  have h_H : w4.heap[w3.heap.size]? = some (.cells #[.int .i64 p3, .int .i64 q3] 24 (0, 0)) := by
    refine Hand.kb hb4 ?_; simp (disch := first | omega | (simp only [Hand.sa, Hand.ss, Hand.sd, Hand.sn]; first | done | omega)) only [Hand.q2, Hand.q1, Hand.q5, Hand.q6, Hand.q4, Hand.q3] <;> rfl
  have hB' : Below w.heap.size w w4 := Hand.stepB hb4 (by repeat (with_reducible first | apply hB | apply Below.drew | apply pw_below_drewN | (apply Below.setCell; rotate_left; (dsimp only; omega)) | (apply Below.alloc; rotate_left; (first | omega | (simp only [Hand.sa, Hand.ss, Hand.sd, Hand.sn]; omega))))) (Nat.le_refl _)
  clear HG hB g_R g_G g_L zw z_R z1_R z2_R y0_R y1_R c_R_0 f_R_0 c_R_1 f_R_1 z_G z1_G z2_G y0_G y1_G c_G_0 f_G_0 c_G_1 f_G_1 z_L z1_L z2_L y0_L y1_L c_L_0 f_L_0 c_L_1 f_L_1
  clear hb4
  have g_R := h_R
  have g_G := h_G
  have g_L := h_L
  have g_H := h_H
  have hB := hB'
  clear hB' h_R h_G h_L h_H
  obtain ⟨z_R, z1_R, z2_R, y0_R, y1_R⟩ := Hand.hz g_R
  obtain ⟨c_R_0, f_R_0, c_R_1, f_R_1⟩ := Hand.hc2 g_R
  obtain ⟨z_G, z1_G, z2_G, y0_G, y1_G⟩ := Hand.hz g_G
  obtain ⟨c_G_0, f_G_0, c_G_1, f_G_1⟩ := Hand.hc2 g_G
  obtain ⟨z_L, z1_L, z2_L, y0_L, y1_L⟩ := Hand.hz g_L
  obtain ⟨c_L_0, f_L_0, c_L_1, f_L_1⟩ := Hand.hc2 g_L
  obtain ⟨z_H, z1_H, z2_H, y0_H, y1_H⟩ := Hand.hz g_H
  obtain ⟨c_H_0, f_H_0, c_H_1, f_H_1⟩ := Hand.hc2 g_H
  have zw : w.heap.size ≤ w4.heap.size := hB.size
  have HG := Lib.hid (And.intro g_R (And.intro g_G (And.intro g_L (And.intro g_H (hB)))))
  clear g_R g_G g_L g_H hB
  go_wp2_with fail
  with_reducible refine (F1.out _).mono ?_
  rintro e w5 ⟨rfl, hb5⟩
  obtain ⟨g_R, g_G, g_L, g_H, hB⟩ := HG.out
  have h_R : w5.heap[w.heap.size]? = some (.cells #[.int .i64 a, .int .i64 b] 24 (0, 0)) := by
    refine Hand.kb hb5 ?_; first | with_reducible exact g_R | (simp (disch := first | omega | (simp only [Hand.sa, Hand.ss, Hand.sd, Hand.sn]; first | done | omega)) only [Hand.q2, Hand.q1, Hand.q5, Hand.q6, Hand.q4, Hand.q3, g_R] <;> rfl)
  have h_G : w5.heap[w.heap.size + 1]? = some (.cells #[.int .i64 c, .int .i64 d] 24 (0, 0)) := by
    refine Hand.kb hb5 ?_; first | with_reducible exact g_G | (simp (disch := first | omega | (simp only [Hand.sa, Hand.ss, Hand.sd, Hand.sn]; first | done | omega)) only [Hand.q2, Hand.q1, Hand.q5, Hand.q6, Hand.q4, Hand.q3, g_G] <;> rfl)
  have h_L : w5.heap[w2.heap.size]? = some (.cells #[.int .i64 p1, .int .i64 q1] 24 (0, 0)) := by
    refine Hand.kb hb5 ?_; first | with_reducible exact g_L | (simp (disch := first | omega | (simp only [Hand.sa, Hand.ss, Hand.sd, Hand.sn]; first | done | omega)) only [Hand.q2, Hand.q1, Hand.q5, Hand.q6, Hand.q4, Hand.q3, g_L] <;> rfl)
  have h_H : w5.heap[w3.heap.size]? = some (.cells #[.int .i64 p3, .int .i64 q3] 24 (0, 0)) := by
    refine Hand.kb hb5 ?_; first | with_reducible exact g_H | (simp (disch := first | omega | (simp only [Hand.sa, Hand.ss, Hand.sd, Hand.sn]; first | done | omega)) only [Hand.q2, Hand.q1, Hand.q5, Hand.q6, Hand.q4, Hand.q3, g_H] <;> rfl)
  have h_N : w5.heap[w4.heap.size]? = some (.cells #[.int .i64 p1, .int .i64 q1] 24 (0, 0)) := by
    refine Hand.kb hb5 ?_; simp (disch := first | omega | (simp only [Hand.sa, Hand.ss, Hand.sd, Hand.sn]; first | done | omega)) only [Hand.q2, Hand.q1, Hand.q5, Hand.q6, Hand.q4, Hand.q3] <;> rfl
  have hB' : Below w.heap.size w w5 := Hand.stepB hb5 (by repeat (with_reducible first | apply hB | apply Below.drew | apply pw_below_drewN | (apply Below.setCell; rotate_left; (dsimp only; omega)) | (apply Below.alloc; rotate_left; (first | omega | (simp only [Hand.sa, Hand.ss, Hand.sd, Hand.sn]; omega))))) (Nat.le_refl _)
  clear HG hB g_R g_G g_L g_H zw z_R z1_R z2_R y0_R y1_R c_R_0 f_R_0 c_R_1 f_R_1 z_G z1_G z2_G y0_G y1_G c_G_0 f_G_0 c_G_1 f_G_1 z_L z1_L z2_L y0_L y1_L c_L_0 f_L_0 c_L_1 f_L_1 z_H z1_H z2_H y0_H y1_H c_H_0 f_H_0 c_H_1 f_H_1
  clear hb5
  have g_R := h_R
  have g_G := h_G
  have g_L := h_L
  have g_H := h_H
  have g_N := h_N
  have hB := hB'
  clear hB' h_R h_G h_L h_H h_N
  obtain ⟨z_R, z1_R, z2_R, y0_R, y1_R⟩ := Hand.hz g_R
  obtain ⟨c_R_0, f_R_0, c_R_1, f_R_1⟩ := Hand.hc2 g_R
  obtain ⟨z_G, z1_G, z2_G, y0_G, y1_G⟩ := Hand.hz g_G
  obtain ⟨c_G_0, f_G_0, c_G_1, f_G_1⟩ := Hand.hc2 g_G
  obtain ⟨z_L, z1_L, z2_L, y0_L, y1_L⟩ := Hand.hz g_L
  obtain ⟨c_L_0, f_L_0, c_L_1, f_L_1⟩ := Hand.hc2 g_L
  obtain ⟨z_H, z1_H, z2_H, y0_H, y1_H⟩ := Hand.hz g_H
  obtain ⟨c_H_0, f_H_0, c_H_1, f_H_1⟩ := Hand.hc2 g_H
  obtain ⟨z_N, z1_N, z2_N, y0_N, y1_N⟩ := Hand.hz g_N
  obtain ⟨c_N_0, f_N_0, c_N_1, f_N_1⟩ := Hand.hc2 g_N
  have zw : w.heap.size ≤ w5.heap.size := hB.size
  have HG := Lib.hid (And.intro g_R (And.intro g_G (And.intro g_L (And.intro g_H (And.intro g_N (hB))))))
  clear g_R g_G g_L g_H g_N hB
  go_wp2_with fail
  with_reducible refine (F2.out _).mono ?_
  rintro e w6 ⟨rfl, hb6⟩
  obtain ⟨g_R, g_G, g_L, g_H, g_N, hB⟩ := HG.out
  have h_R : w6.heap[w.heap.size]? = some (.cells #[.int .i64 a, .int .i64 b] 24 (0, 0)) := by
    refine Hand.kb hb6 ?_; first | with_reducible exact g_R | (simp (disch := first | omega | (simp only [Hand.sa, Hand.ss, Hand.sd, Hand.sn]; first | done | omega)) only [Hand.q2, Hand.q1, Hand.q5, Hand.q6, Hand.q4, Hand.q3, g_R] <;> rfl)
  have h_G : w6.heap[w.heap.size + 1]? = some (.cells #[.int .i64 c, .int .i64 d] 24 (0, 0)) := by
    refine Hand.kb hb6 ?_; first | with_reducible exact g_G | (simp (disch := first | omega | (simp only [Hand.sa, Hand.ss, Hand.sd, Hand.sn]; first | done | omega)) only [Hand.q2, Hand.q1, Hand.q5, Hand.q6, Hand.q4, Hand.q3, g_G] <;> rfl)
  have h_L : w6.heap[w2.heap.size]? = some (.cells #[.int .i64 p1, .int .i64 q1] 24 (0, 0)) := by
    refine Hand.kb hb6 ?_; first | with_reducible exact g_L | (simp (disch := first | omega | (simp only [Hand.sa, Hand.ss, Hand.sd, Hand.sn]; first | done | omega)) only [Hand.q2, Hand.q1, Hand.q5, Hand.q6, Hand.q4, Hand.q3, g_L] <;> rfl)
  have h_H : w6.heap[w3.heap.size]? = some (.cells #[.int .i64 p3, .int .i64 q3] 24 (0, 0)) := by
    refine Hand.kb hb6 ?_; first | with_reducible exact g_H | (simp (disch := first | omega | (simp only [Hand.sa, Hand.ss, Hand.sd, Hand.sn]; first | done | omega)) only [Hand.q2, Hand.q1, Hand.q5, Hand.q6, Hand.q4, Hand.q3, g_H] <;> rfl)
  have h_N : w6.heap[w4.heap.size]? = some (.cells #[.int .i64 p1, .int .i64 q1] 24 (0, 0)) := by
    refine Hand.kb hb6 ?_; first | with_reducible exact g_N | (simp (disch := first | omega | (simp only [Hand.sa, Hand.ss, Hand.sd, Hand.sn]; first | done | omega)) only [Hand.q2, Hand.q1, Hand.q5, Hand.q6, Hand.q4, Hand.q3, g_N] <;> rfl)
  have hB' : Below w.heap.size w w6 := Hand.stepB hb6 (by repeat (with_reducible first | apply hB | apply Below.drew | apply pw_below_drewN | (apply Below.setCell; rotate_left; (dsimp only; omega)) | (apply Below.alloc; rotate_left; (first | omega | (simp only [Hand.sa, Hand.ss, Hand.sd, Hand.sn]; omega))))) (Nat.le_refl _)
  clear HG hB g_R g_G g_L g_H g_N zw z_R z1_R z2_R y0_R y1_R c_R_0 f_R_0 c_R_1 f_R_1 z_G z1_G z2_G y0_G y1_G c_G_0 f_G_0 c_G_1 f_G_1 z_L z1_L z2_L y0_L y1_L c_L_0 f_L_0 c_L_1 f_L_1 z_H z1_H z2_H y0_H y1_H c_H_0 f_H_0 c_H_1 f_H_1 z_N z1_N z2_N y0_N y1_N c_N_0 f_N_0 c_N_1 f_N_1
  clear hb6
  have g_R := h_R
  have g_G := h_G
  have g_L := h_L
  have g_H := h_H
  have g_N := h_N
  have hB := hB'
  clear hB' h_R h_G h_L h_H h_N
  obtain ⟨z_R, z1_R, z2_R, y0_R, y1_R⟩ := Hand.hz g_R
  obtain ⟨c_R_0, f_R_0, c_R_1, f_R_1⟩ := Hand.hc2 g_R
  obtain ⟨z_G, z1_G, z2_G, y0_G, y1_G⟩ := Hand.hz g_G
  obtain ⟨c_G_0, f_G_0, c_G_1, f_G_1⟩ := Hand.hc2 g_G
  obtain ⟨z_L, z1_L, z2_L, y0_L, y1_L⟩ := Hand.hz g_L
  obtain ⟨c_L_0, f_L_0, c_L_1, f_L_1⟩ := Hand.hc2 g_L
  obtain ⟨z_H, z1_H, z2_H, y0_H, y1_H⟩ := Hand.hz g_H
  obtain ⟨c_H_0, f_H_0, c_H_1, f_H_1⟩ := Hand.hc2 g_H
  obtain ⟨z_N, z1_N, z2_N, y0_N, y1_N⟩ := Hand.hz g_N
  obtain ⟨c_N_0, f_N_0, c_N_1, f_N_1⟩ := Hand.hc2 g_N
  have zw : w.heap.size ≤ w6.heap.size := hB.size
  have HG := Lib.hid (And.intro g_R (And.intro g_G (And.intro g_L (And.intro g_H (And.intro g_N (hB))))))
  clear g_R g_G g_L g_H g_N hB
  go_wp2_with fail
  with_reducible refine (F3.out _).mono ?_
  rintro e w7 ⟨rfl, hb7⟩
  obtain ⟨g_R, g_G, g_L, g_H, g_N, hB⟩ := HG.out
  have h_R : w7.heap[w.heap.size]? = some (.cells #[.int .i64 a, .int .i64 b] 24 (0, 0)) := by
    refine Hand.kb hb7 ?_; first | with_reducible exact g_R | (simp (disch := first | omega | (simp only [Hand.sa, Hand.ss, Hand.sd, Hand.sn]; first | done | omega)) only [Hand.q2, Hand.q1, Hand.q5, Hand.q6, Hand.q4, Hand.q3, g_R] <;> rfl)
  have h_G : w7.heap[w.heap.size + 1]? = some (.cells #[.int .i64 c, .int .i64 d] 24 (0, 0)) := by
    refine Hand.kb hb7 ?_; first | with_reducible exact g_G | (simp (disch := first | omega | (simp only [Hand.sa, Hand.ss, Hand.sd, Hand.sn]; first | done | omega)) only [Hand.q2, Hand.q1, Hand.q5, Hand.q6, Hand.q4, Hand.q3, g_G] <;> rfl)
  have h_L : w7.heap[w2.heap.size]? = some (.cells #[.int .i64 p1, .int .i64 q1] 24 (0, 0)) := by
    refine Hand.kb hb7 ?_; first | with_reducible exact g_L | (simp (disch := first | omega | (simp only [Hand.sa, Hand.ss, Hand.sd, Hand.sn]; first | done | omega)) only [Hand.q2, Hand.q1, Hand.q5, Hand.q6, Hand.q4, Hand.q3, g_L] <;> rfl)
  have h_H : w7.heap[w3.heap.size]? = some (.cells #[.int .i64 p3, .int .i64 q3] 24 (0, 0)) := by
    refine Hand.kb hb7 ?_; first | with_reducible exact g_H | (simp (disch := first | omega | (simp only [Hand.sa, Hand.ss, Hand.sd, Hand.sn]; first | done | omega)) only [Hand.q2, Hand.q1, Hand.q5, Hand.q6, Hand.q4, Hand.q3, g_H] <;> rfl)
  have h_N : w7.heap[w4.heap.size]? = some (.cells #[.int .i64 p1, .int .i64 q1] 24 (0, 0)) := by
    refine Hand.kb hb7 ?_; first | with_reducible exact g_N | (simp (disch := first | omega | (simp only [Hand.sa, Hand.ss, Hand.sd, Hand.sn]; first | done | omega)) only [Hand.q2, Hand.q1, Hand.q5, Hand.q6, Hand.q4, Hand.q3, g_N] <;> rfl)
  have hB' : Below w.heap.size w w7 := Hand.stepB hb7 (by repeat (with_reducible first | apply hB | apply Below.drew | apply pw_below_drewN | (apply Below.setCell; rotate_left; (dsimp only; omega)) | (apply Below.alloc; rotate_left; (first | omega | (simp only [Hand.sa, Hand.ss, Hand.sd, Hand.sn]; omega))))) (Nat.le_refl _)
  clear HG hB g_R g_G g_L g_H g_N zw z_R z1_R z2_R y0_R y1_R c_R_0 f_R_0 c_R_1 f_R_1 z_G z1_G z2_G y0_G y1_G c_G_0 f_G_0 c_G_1 f_G_1 z_L z1_L z2_L y0_L y1_L c_L_0 f_L_0 c_L_1 f_L_1 z_H z1_H z2_H y0_H y1_H c_H_0 f_H_0 c_H_1 f_H_1 z_N z1_N z2_N y0_N y1_N c_N_0 f_N_0 c_N_1 f_N_1
  clear hb7
  have g_R := h_R
  have g_G := h_G
  have g_L := h_L
  have g_H := h_H
  have g_N := h_N
  have hB := hB'
  clear hB' h_R h_G h_L h_H h_N
  obtain ⟨z_R, z1_R, z2_R, y0_R, y1_R⟩ := Hand.hz g_R
  obtain ⟨c_R_0, f_R_0, c_R_1, f_R_1⟩ := Hand.hc2 g_R
  obtain ⟨z_G, z1_G, z2_G, y0_G, y1_G⟩ := Hand.hz g_G
  obtain ⟨c_G_0, f_G_0, c_G_1, f_G_1⟩ := Hand.hc2 g_G
  obtain ⟨z_L, z1_L, z2_L, y0_L, y1_L⟩ := Hand.hz g_L
  obtain ⟨c_L_0, f_L_0, c_L_1, f_L_1⟩ := Hand.hc2 g_L
  obtain ⟨z_H, z1_H, z2_H, y0_H, y1_H⟩ := Hand.hz g_H
  obtain ⟨c_H_0, f_H_0, c_H_1, f_H_1⟩ := Hand.hc2 g_H
  obtain ⟨z_N, z1_N, z2_N, y0_N, y1_N⟩ := Hand.hz g_N
  obtain ⟨c_N_0, f_N_0, c_N_1, f_N_1⟩ := Hand.hc2 g_N
  have zw : w.heap.size ≤ w7.heap.size := hB.size
  have HG := Lib.hid (And.intro g_R (And.intro g_G (And.intro g_L (And.intro g_H (And.intro g_N (hB))))))
  clear g_R g_G g_L g_H g_N hB
  go_wp2_with fail
  with_reducible refine (C1.out _).mono ?_
  rintro e w8 ⟨rfl, hb8⟩
  obtain ⟨g_R, g_G, g_L, g_H, g_N, hB⟩ := HG.out
  have h_R : w8.heap[w.heap.size]? = some (.cells #[.int .i64 a, .int .i64 b] 24 (0, 0)) := by
    refine Hand.kb hb8 ?_; first | with_reducible exact g_R | (simp (disch := first | omega | (simp only [Hand.sa, Hand.ss, Hand.sd, Hand.sn]; first | done | omega)) only [Hand.q2, Hand.q1, Hand.q5, Hand.q6, Hand.q4, Hand.q3, g_R] <;> rfl)
  have h_G : w8.heap[w.heap.size + 1]? = some (.cells #[.int .i64 c, .int .i64 d] 24 (0, 0)) := by
    refine Hand.kb hb8 ?_; first | with_reducible exact g_G | (simp (disch := first | omega | (simp only [Hand.sa, Hand.ss, Hand.sd, Hand.sn]; first | done | omega)) only [Hand.q2, Hand.q1, Hand.q5, Hand.q6, Hand.q4, Hand.q3, g_G] <;> rfl)
  have h_L : w8.heap[w2.heap.size]? = some (.cells #[.int .i64 p1, .int .i64 q1] 24 (0, 0)) := by
    refine Hand.kb hb8 ?_; first | with_reducible exact g_L | (simp (disch := first | omega | (simp only [Hand.sa, Hand.ss, Hand.sd, Hand.sn]; first | done | omega)) only [Hand.q2, Hand.q1, Hand.q5, Hand.q6, Hand.q4, Hand.q3, g_L] <;> rfl)
  have h_H : w8.heap[w3.heap.size]? = some (.cells #[.int .i64 p3, .int .i64 q3] 24 (0, 0)) := by
    refine Hand.kb hb8 ?_; first | with_reducible exact g_H | (simp (disch := first | omega | (simp only [Hand.sa, Hand.ss, Hand.sd, Hand.sn]; first | done | omega)) only [Hand.q2, Hand.q1, Hand.q5, Hand.q6, Hand.q4, Hand.q3, g_H] <;> rfl)
  have h_N : w8.heap[w4.heap.size]? = some (.cells #[.int .i64 p1, .int .i64 q1] 24 (0, 0)) := by
    refine Hand.kb hb8 ?_; first | with_reducible exact g_N | (simp (disch := first | omega | (simp only [Hand.sa, Hand.ss, Hand.sd, Hand.sn]; first | done | omega)) only [Hand.q2, Hand.q1, Hand.q5, Hand.q6, Hand.q4, Hand.q3, g_N] <;> rfl)
  have hB' : Below w.heap.size w w8 := Hand.stepB hb8 (by repeat (with_reducible first | apply hB | apply Below.drew | apply pw_below_drewN | (apply Below.setCell; rotate_left; (dsimp only; omega)) | (apply Below.alloc; rotate_left; (first | omega | (simp only [Hand.sa, Hand.ss, Hand.sd, Hand.sn]; omega))))) (Nat.le_refl _)
  clear HG hB g_R g_G g_L g_H g_N zw z_R z1_R z2_R y0_R y1_R c_R_0 f_R_0 c_R_1 f_R_1 z_G z1_G z2_G y0_G y1_G c_G_0 f_G_0 c_G_1 f_G_1 z_L z1_L z2_L y0_L y1_L c_L_0 f_L_0 c_L_1 f_L_1 z_H z1_H z2_H y0_H y1_H c_H_0 f_H_0 c_H_1 f_H_1 z_N z1_N z2_N y0_N y1_N c_N_0 f_N_0 c_N_1 f_N_1
  clear hb8
  have g_R := h_R
  have g_G := h_G
  have g_L := h_L
  have g_H := h_H
  have g_N := h_N
  have hB := hB'
  clear hB' h_R h_G h_L h_H h_N
  obtain ⟨z_R, z1_R, z2_R, y0_R, y1_R⟩ := Hand.hz g_R
  obtain ⟨c_R_0, f_R_0, c_R_1, f_R_1⟩ := Hand.hc2 g_R
  obtain ⟨z_G, z1_G, z2_G, y0_G, y1_G⟩ := Hand.hz g_G
  obtain ⟨c_G_0, f_G_0, c_G_1, f_G_1⟩ := Hand.hc2 g_G
  obtain ⟨z_L, z1_L, z2_L, y0_L, y1_L⟩ := Hand.hz g_L
  obtain ⟨c_L_0, f_L_0, c_L_1, f_L_1⟩ := Hand.hc2 g_L
  obtain ⟨z_H, z1_H, z2_H, y0_H, y1_H⟩ := Hand.hz g_H
  obtain ⟨c_H_0, f_H_0, c_H_1, f_H_1⟩ := Hand.hc2 g_H
  obtain ⟨z_N, z1_N, z2_N, y0_N, y1_N⟩ := Hand.hz g_N
  obtain ⟨c_N_0, f_N_0, c_N_1, f_N_1⟩ := Hand.hc2 g_N
  have zw : w.heap.size ≤ w8.heap.size := hB.size
  have HG := Lib.hid (And.intro g_R (And.intro g_G (And.intro g_L (And.intro g_H (And.intro g_N (hB))))))
  clear g_R g_G g_L g_H g_N hB
  go_wp2_with fail
  with_reducible refine (C2.out _).mono ?_
  rintro e w9 ⟨rfl, hb9⟩
  obtain ⟨g_R, g_G, g_L, g_H, g_N, hB⟩ := HG.out
  have h_R : w9.heap[w.heap.size]? = some (.cells #[.int .i64 a, .int .i64 b] 24 (0, 0)) := by
    refine Hand.kb hb9 ?_; first | with_reducible exact g_R | (simp (disch := first | omega | (simp only [Hand.sa, Hand.ss, Hand.sd, Hand.sn]; first | done | omega)) only [Hand.q2, Hand.q1, Hand.q5, Hand.q6, Hand.q4, Hand.q3, g_R] <;> rfl)
  have h_G : w9.heap[w.heap.size + 1]? = some (.cells #[.int .i64 c, .int .i64 d] 24 (0, 0)) := by
    refine Hand.kb hb9 ?_; first | with_reducible exact g_G | (simp (disch := first | omega | (simp only [Hand.sa, Hand.ss, Hand.sd, Hand.sn]; first | done | omega)) only [Hand.q2, Hand.q1, Hand.q5, Hand.q6, Hand.q4, Hand.q3, g_G] <;> rfl)
  have h_L : w9.heap[w2.heap.size]? = some (.cells #[.int .i64 p1, .int .i64 q1] 24 (0, 0)) := by
    refine Hand.kb hb9 ?_; first | with_reducible exact g_L | (simp (disch := first | omega | (simp only [Hand.sa, Hand.ss, Hand.sd, Hand.sn]; first | done | omega)) only [Hand.q2, Hand.q1, Hand.q5, Hand.q6, Hand.q4, Hand.q3, g_L] <;> rfl)
  have h_H : w9.heap[w3.heap.size]? = some (.cells #[.int .i64 p3, .int .i64 q3] 24 (0, 0)) := by
    refine Hand.kb hb9 ?_; first | with_reducible exact g_H | (simp (disch := first | omega | (simp only [Hand.sa, Hand.ss, Hand.sd, Hand.sn]; first | done | omega)) only [Hand.q2, Hand.q1, Hand.q5, Hand.q6, Hand.q4, Hand.q3, g_H] <;> rfl)
  have h_N : w9.heap[w4.heap.size]? = some (.cells #[.int .i64 p1, .int .i64 q1] 24 (0, 0)) := by
    refine Hand.kb hb9 ?_; first | with_reducible exact g_N | (simp (disch := first | omega | (simp only [Hand.sa, Hand.ss, Hand.sd, Hand.sn]; first | done | omega)) only [Hand.q2, Hand.q1, Hand.q5, Hand.q6, Hand.q4, Hand.q3, g_N] <;> rfl)
  have hB' : Below w.heap.size w w9 := Hand.stepB hb9 (by repeat (with_reducible first | apply hB | apply Below.drew | apply pw_below_drewN | (apply Below.setCell; rotate_left; (dsimp only; omega)) | (apply Below.alloc; rotate_left; (first | omega | (simp only [Hand.sa, Hand.ss, Hand.sd, Hand.sn]; omega))))) (Nat.le_refl _)
  clear HG hB g_R g_G g_L g_H g_N zw z_R z1_R z2_R y0_R y1_R c_R_0 f_R_0 c_R_1 f_R_1 z_G z1_G z2_G y0_G y1_G c_G_0 f_G_0 c_G_1 f_G_1 z_L z1_L z2_L y0_L y1_L c_L_0 f_L_0 c_L_1 f_L_1 z_H z1_H z2_H y0_H y1_H c_H_0 f_H_0 c_H_1 f_H_1 z_N z1_N z2_N y0_N y1_N c_N_0 f_N_0 c_N_1 f_N_1
  clear hb9
  have g_R := h_R
  have g_G := h_G
  have g_L := h_L
  have g_H := h_H
  have g_N := h_N
  have hB := hB'
  clear hB' h_R h_G h_L h_H h_N
  obtain ⟨z_R, z1_R, z2_R, y0_R, y1_R⟩ := Hand.hz g_R
  obtain ⟨c_R_0, f_R_0, c_R_1, f_R_1⟩ := Hand.hc2 g_R
  obtain ⟨z_G, z1_G, z2_G, y0_G, y1_G⟩ := Hand.hz g_G
  obtain ⟨c_G_0, f_G_0, c_G_1, f_G_1⟩ := Hand.hc2 g_G
  obtain ⟨z_L, z1_L, z2_L, y0_L, y1_L⟩ := Hand.hz g_L
  obtain ⟨c_L_0, f_L_0, c_L_1, f_L_1⟩ := Hand.hc2 g_L
  obtain ⟨z_H, z1_H, z2_H, y0_H, y1_H⟩ := Hand.hz g_H
  obtain ⟨c_H_0, f_H_0, c_H_1, f_H_1⟩ := Hand.hc2 g_H
  obtain ⟨z_N, z1_N, z2_N, y0_N, y1_N⟩ := Hand.hz g_N
  obtain ⟨c_N_0, f_N_0, c_N_1, f_N_1⟩ := Hand.hc2 g_N
  have zw : w.heap.size ≤ w9.heap.size := hB.size
  have HG := Lib.hid (And.intro g_R (And.intro g_G (And.intro g_L (And.intro g_H (And.intro g_N (hB))))))
  clear g_R g_G g_L g_H g_N hB
  go_wp2_with fail
  with_reducible refine (D1.out _).mono ?_
  rintro e w10 ⟨rfl, hb10⟩
  obtain ⟨g_R, g_G, g_L, g_H, g_N, hB⟩ := HG.out
  have h_R : w10.heap[w.heap.size]? = some (.cells #[.int .i64 a, .int .i64 b] 24 (0, 0)) := by
    refine Hand.kb hb10 ?_; first | with_reducible exact g_R | (simp (disch := first | omega | (simp only [Hand.sa, Hand.ss, Hand.sd, Hand.sn]; first | done | omega)) only [Hand.q2, Hand.q1, Hand.q5, Hand.q6, Hand.q4, Hand.q3, g_R] <;> rfl)
  have h_G : w10.heap[w.heap.size + 1]? = some (.cells #[.int .i64 c, .int .i64 d] 24 (0, 0)) := by
    refine Hand.kb hb10 ?_; first | with_reducible exact g_G | (simp (disch := first | omega | (simp only [Hand.sa, Hand.ss, Hand.sd, Hand.sn]; first | done | omega)) only [Hand.q2, Hand.q1, Hand.q5, Hand.q6, Hand.q4, Hand.q3, g_G] <;> rfl)
  have h_L : w10.heap[w2.heap.size]? = some (.cells #[.int .i64 p1, .int .i64 q1] 24 (0, 0)) := by
    refine Hand.kb hb10 ?_; first | with_reducible exact g_L | (simp (disch := first | omega | (simp only [Hand.sa, Hand.ss, Hand.sd, Hand.sn]; first | done | omega)) only [Hand.q2, Hand.q1, Hand.q5, Hand.q6, Hand.q4, Hand.q3, g_L] <;> rfl)
  have h_H : w10.heap[w3.heap.size]? = some (.cells #[.int .i64 p3, .int .i64 q3] 24 (0, 0)) := by
    refine Hand.kb hb10 ?_; first | with_reducible exact g_H | (simp (disch := first | omega | (simp only [Hand.sa, Hand.ss, Hand.sd, Hand.sn]; first | done | omega)) only [Hand.q2, Hand.q1, Hand.q5, Hand.q6, Hand.q4, Hand.q3, g_H] <;> rfl)
  have h_N : w10.heap[w4.heap.size]? = some (.cells #[.int .i64 p1, .int .i64 q1] 24 (0, 0)) := by
    refine Hand.kb hb10 ?_; first | with_reducible exact g_N | (simp (disch := first | omega | (simp only [Hand.sa, Hand.ss, Hand.sd, Hand.sn]; first | done | omega)) only [Hand.q2, Hand.q1, Hand.q5, Hand.q6, Hand.q4, Hand.q3, g_N] <;> rfl)
  have hB' : Below w.heap.size w w10 := Hand.stepB hb10 (by repeat (with_reducible first | apply hB | apply Below.drew | apply pw_below_drewN | (apply Below.setCell; rotate_left; (dsimp only; omega)) | (apply Below.alloc; rotate_left; (first | omega | (simp only [Hand.sa, Hand.ss, Hand.sd, Hand.sn]; omega))))) (Nat.le_refl _)
  clear HG hB g_R g_G g_L g_H g_N zw z_R z1_R z2_R y0_R y1_R c_R_0 f_R_0 c_R_1 f_R_1 z_G z1_G z2_G y0_G y1_G c_G_0 f_G_0 c_G_1 f_G_1 z_L z1_L z2_L y0_L y1_L c_L_0 f_L_0 c_L_1 f_L_1 z_H z1_H z2_H y0_H y1_H c_H_0 f_H_0 c_H_1 f_H_1 z_N z1_N z2_N y0_N y1_N c_N_0 f_N_0 c_N_1 f_N_1
  clear hb10
  have g_R := h_R
  have g_G := h_G
  have g_L := h_L
  have g_H := h_H
  have g_N := h_N
  have hB := hB'
  clear hB' h_R h_G h_L h_H h_N
  obtain ⟨z_R, z1_R, z2_R, y0_R, y1_R⟩ := Hand.hz g_R
  obtain ⟨c_R_0, f_R_0, c_R_1, f_R_1⟩ := Hand.hc2 g_R
  obtain ⟨z_G, z1_G, z2_G, y0_G, y1_G⟩ := Hand.hz g_G
  obtain ⟨c_G_0, f_G_0, c_G_1, f_G_1⟩ := Hand.hc2 g_G
  obtain ⟨z_L, z1_L, z2_L, y0_L, y1_L⟩ := Hand.hz g_L
  obtain ⟨c_L_0, f_L_0, c_L_1, f_L_1⟩ := Hand.hc2 g_L
  obtain ⟨z_H, z1_H, z2_H, y0_H, y1_H⟩ := Hand.hz g_H
  obtain ⟨c_H_0, f_H_0, c_H_1, f_H_1⟩ := Hand.hc2 g_H
  obtain ⟨z_N, z1_N, z2_N, y0_N, y1_N⟩ := Hand.hz g_N
  obtain ⟨c_N_0, f_N_0, c_N_1, f_N_1⟩ := Hand.hc2 g_N
  have zw : w.heap.size ≤ w10.heap.size := hB.size
  have HG := Lib.hid (And.intro g_R (And.intro g_G (And.intro g_L (And.intro g_H (And.intro g_N (hB))))))
  clear g_R g_G g_L g_H g_N hB
  go_wp2_with fail
  go_quiet ((go_at_call 33; exact Calls.quiet_of_same (F0.out _)))
  go_wp2_with fail
  with_reducible refine (D2.out _).mono ?_
  rintro e w11 ⟨rfl, hb11⟩
  obtain ⟨g_R, g_G, g_L, g_H, g_N, hB⟩ := HG.out
  have h_R : w11.heap[w.heap.size]? = some (.cells #[.int .i64 a, .int .i64 b] 24 (0, 0)) := by
    refine Hand.kb hb11 ?_; first | with_reducible exact g_R | (simp (disch := first | omega | (simp only [Hand.sa, Hand.ss, Hand.sd, Hand.sn]; first | done | omega)) only [Hand.q2, Hand.q1, Hand.q5, Hand.q6, Hand.q4, Hand.q3, g_R] <;> rfl)
  have h_G : w11.heap[w.heap.size + 1]? = some (.cells #[.int .i64 c, .int .i64 d] 24 (0, 0)) := by
    refine Hand.kb hb11 ?_; first | with_reducible exact g_G | (simp (disch := first | omega | (simp only [Hand.sa, Hand.ss, Hand.sd, Hand.sn]; first | done | omega)) only [Hand.q2, Hand.q1, Hand.q5, Hand.q6, Hand.q4, Hand.q3, g_G] <;> rfl)
  have h_L : w11.heap[w2.heap.size]? = some (.cells #[.int .i64 p1, .int .i64 q1] 24 (0, 0)) := by
    refine Hand.kb hb11 ?_; first | with_reducible exact g_L | (simp (disch := first | omega | (simp only [Hand.sa, Hand.ss, Hand.sd, Hand.sn]; first | done | omega)) only [Hand.q2, Hand.q1, Hand.q5, Hand.q6, Hand.q4, Hand.q3, g_L] <;> rfl)
  have h_H : w11.heap[w3.heap.size]? = some (.cells #[.int .i64 p3, .int .i64 q3] 24 (0, 0)) := by
    refine Hand.kb hb11 ?_; first | with_reducible exact g_H | (simp (disch := first | omega | (simp only [Hand.sa, Hand.ss, Hand.sd, Hand.sn]; first | done | omega)) only [Hand.q2, Hand.q1, Hand.q5, Hand.q6, Hand.q4, Hand.q3, g_H] <;> rfl)
  have h_N : w11.heap[w4.heap.size]? = some (.cells #[.int .i64 p1, .int .i64 q1] 24 (0, 0)) := by
    refine Hand.kb hb11 ?_; first | with_reducible exact g_N | (simp (disch := first | omega | (simp only [Hand.sa, Hand.ss, Hand.sd, Hand.sn]; first | done | omega)) only [Hand.q2, Hand.q1, Hand.q5, Hand.q6, Hand.q4, Hand.q3, g_N] <;> rfl)
  have h_S : w11.heap[w10.heap.size]? = some (.cells #[.int .i64 c, .int .i64 d] 24 (0, 0)) := by
    refine Hand.kb hb11 ?_; simp (disch := first | omega | (simp only [Hand.sa, Hand.ss, Hand.sd, Hand.sn]; first | done | omega)) only [Hand.q2, Hand.q1, Hand.q5, Hand.q6, Hand.q4, Hand.q3] <;> rfl
  have hB' : Below w.heap.size w w11 := Hand.stepB hb11 (by repeat (with_reducible first | apply hB | apply Below.drew | apply pw_below_drewN | (apply Below.setCell; rotate_left; (dsimp only; omega)) | (apply Below.alloc; rotate_left; (first | omega | (simp only [Hand.sa, Hand.ss, Hand.sd, Hand.sn]; omega))))) (Nat.le_refl _)
  clear HG hB g_R g_G g_L g_H g_N zw z_R z1_R z2_R y0_R y1_R c_R_0 f_R_0 c_R_1 f_R_1 z_G z1_G z2_G y0_G y1_G c_G_0 f_G_0 c_G_1 f_G_1 z_L z1_L z2_L y0_L y1_L c_L_0 f_L_0 c_L_1 f_L_1 z_H z1_H z2_H y0_H y1_H c_H_0 f_H_0 c_H_1 f_H_1 z_N z1_N z2_N y0_N y1_N c_N_0 f_N_0 c_N_1 f_N_1
  clear hb11
  have g_R := h_R
  have g_G := h_G
  have g_L := h_L
  have g_H := h_H
  have g_N := h_N
  have g_S := h_S
  have hB := hB'
  clear hB' h_R h_G h_L h_H h_N h_S
  obtain ⟨z_R, z1_R, z2_R, y0_R, y1_R⟩ := Hand.hz g_R
  obtain ⟨c_R_0, f_R_0, c_R_1, f_R_1⟩ := Hand.hc2 g_R
  obtain ⟨z_G, z1_G, z2_G, y0_G, y1_G⟩ := Hand.hz g_G
  obtain ⟨c_G_0, f_G_0, c_G_1, f_G_1⟩ := Hand.hc2 g_G
  obtain ⟨z_L, z1_L, z2_L, y0_L, y1_L⟩ := Hand.hz g_L
  obtain ⟨c_L_0, f_L_0, c_L_1, f_L_1⟩ := Hand.hc2 g_L
  obtain ⟨z_H, z1_H, z2_H, y0_H, y1_H⟩ := Hand.hz g_H
  obtain ⟨c_H_0, f_H_0, c_H_1, f_H_1⟩ := Hand.hc2 g_H
  obtain ⟨z_N, z1_N, z2_N, y0_N, y1_N⟩ := Hand.hz g_N
  obtain ⟨c_N_0, f_N_0, c_N_1, f_N_1⟩ := Hand.hc2 g_N
  obtain ⟨z_S, z1_S, z2_S, y0_S, y1_S⟩ := Hand.hz g_S
  obtain ⟨c_S_0, f_S_0, c_S_1, f_S_1⟩ := Hand.hc2 g_S
  have zw : w.heap.size ≤ w11.heap.size := hB.size
  have HG := Lib.hid (And.intro g_R (And.intro g_G (And.intro g_L (And.intro g_H (And.intro g_N (And.intro g_S (hB)))))))
  clear g_R g_G g_L g_H g_N g_S hB
  go_wp2_with fail
  with_reducible refine (D3.out _).mono ?_
  rintro e w12 ⟨rfl, hb12⟩
  obtain ⟨g_R, g_G, g_L, g_H, g_N, g_S, hB⟩ := HG.out
  have h_R : w12.heap[w.heap.size]? = some (.cells #[.int .i64 a, .int .i64 b] 24 (0, 0)) := by
    refine Hand.kb hb12 ?_; first | with_reducible exact g_R | (simp (disch := first | omega | (simp only [Hand.sa, Hand.ss, Hand.sd, Hand.sn]; first | done | omega)) only [Hand.q2, Hand.q1, Hand.q5, Hand.q6, Hand.q4, Hand.q3, g_R] <;> rfl)
  have h_G : w12.heap[w.heap.size + 1]? = some (.cells #[.int .i64 c, .int .i64 d] 24 (0, 0)) := by
    refine Hand.kb hb12 ?_; first | with_reducible exact g_G | (simp (disch := first | omega | (simp only [Hand.sa, Hand.ss, Hand.sd, Hand.sn]; first | done | omega)) only [Hand.q2, Hand.q1, Hand.q5, Hand.q6, Hand.q4, Hand.q3, g_G] <;> rfl)
  have h_L : w12.heap[w2.heap.size]? = some (.cells #[.int .i64 p1, .int .i64 q1] 24 (0, 0)) := by
    refine Hand.kb hb12 ?_; first | with_reducible exact g_L | (simp (disch := first | omega | (simp only [Hand.sa, Hand.ss, Hand.sd, Hand.sn]; first | done | omega)) only [Hand.q2, Hand.q1, Hand.q5, Hand.q6, Hand.q4, Hand.q3, g_L] <;> rfl)
  have h_H : w12.heap[w3.heap.size]? = some (.cells #[.int .i64 p3, .int .i64 q3] 24 (0, 0)) := by
    refine Hand.kb hb12 ?_; first | with_reducible exact g_H | (simp (disch := first | omega | (simp only [Hand.sa, Hand.ss, Hand.sd, Hand.sn]; first | done | omega)) only [Hand.q2, Hand.q1, Hand.q5, Hand.q6, Hand.q4, Hand.q3, g_H] <;> rfl)
  have h_N : w12.heap[w4.heap.size]? = some (.cells #[.int .i64 p1, .int .i64 q1] 24 (0, 0)) := by
    refine Hand.kb hb12 ?_; first | with_reducible exact g_N | (simp (disch := first | omega | (simp only [Hand.sa, Hand.ss, Hand.sd, Hand.sn]; first | done | omega)) only [Hand.q2, Hand.q1, Hand.q5, Hand.q6, Hand.q4, Hand.q3, g_N] <;> rfl)
  have h_S : w12.heap[w10.heap.size]? = some (.cells #[.int .i64 c, .int .i64 d] 24 (0, 0)) := by
    refine Hand.kb hb12 ?_; first | with_reducible exact g_S | (simp (disch := first | omega | (simp only [Hand.sa, Hand.ss, Hand.sd, Hand.sn]; first | done | omega)) only [Hand.q2, Hand.q1, Hand.q5, Hand.q6, Hand.q4, Hand.q3, g_S] <;> rfl)
  have h_D : w12.heap[w11.heap.size]? = some (.cells #[.int .i64 x, .int .i64 y] 24 (0, 0)) := by
    refine Hand.kb hb12 ?_; simp (disch := first | omega | (simp only [Hand.sa, Hand.ss, Hand.sd, Hand.sn]; first | done | omega)) only [Hand.q2, Hand.q1, Hand.q5, Hand.q6, Hand.q4, Hand.q3] <;> rfl
  have hB' : Below w.heap.size w w12 := Hand.stepB hb12 (by repeat (with_reducible first | apply hB | apply Below.drew | apply pw_below_drewN | (apply Below.setCell; rotate_left; (dsimp only; omega)) | (apply Below.alloc; rotate_left; (first | omega | (simp only [Hand.sa, Hand.ss, Hand.sd, Hand.sn]; omega))))) (Nat.le_refl _)
  clear HG hB g_R g_G g_L g_H g_N g_S zw z_R z1_R z2_R y0_R y1_R c_R_0 f_R_0 c_R_1 f_R_1 z_G z1_G z2_G y0_G y1_G c_G_0 f_G_0 c_G_1 f_G_1 z_L z1_L z2_L y0_L y1_L c_L_0 f_L_0 c_L_1 f_L_1 z_H z1_H z2_H y0_H y1_H c_H_0 f_H_0 c_H_1 f_H_1 z_N z1_N z2_N y0_N y1_N c_N_0 f_N_0 c_N_1 f_N_1 z_S z1_S z2_S y0_S y1_S c_S_0 f_S_0 c_S_1 f_S_1
  clear hb12
  have g_R := h_R
  have g_G := h_G
  have g_L := h_L
  have g_H := h_H
  have g_N := h_N
  have g_S := h_S
  have g_D := h_D
  have hB := hB'
  clear hB' h_R h_G h_L h_H h_N h_S h_D
  obtain ⟨z_R, z1_R, z2_R, y0_R, y1_R⟩ := Hand.hz g_R
  obtain ⟨c_R_0, f_R_0, c_R_1, f_R_1⟩ := Hand.hc2 g_R
  obtain ⟨z_G, z1_G, z2_G, y0_G, y1_G⟩ := Hand.hz g_G
  obtain ⟨c_G_0, f_G_0, c_G_1, f_G_1⟩ := Hand.hc2 g_G
  obtain ⟨z_L, z1_L, z2_L, y0_L, y1_L⟩ := Hand.hz g_L
  obtain ⟨c_L_0, f_L_0, c_L_1, f_L_1⟩ := Hand.hc2 g_L
  obtain ⟨z_H, z1_H, z2_H, y0_H, y1_H⟩ := Hand.hz g_H
  obtain ⟨c_H_0, f_H_0, c_H_1, f_H_1⟩ := Hand.hc2 g_H
  obtain ⟨z_N, z1_N, z2_N, y0_N, y1_N⟩ := Hand.hz g_N
  obtain ⟨c_N_0, f_N_0, c_N_1, f_N_1⟩ := Hand.hc2 g_N
  obtain ⟨z_S, z1_S, z2_S, y0_S, y1_S⟩ := Hand.hz g_S
  obtain ⟨c_S_0, f_S_0, c_S_1, f_S_1⟩ := Hand.hc2 g_S
  obtain ⟨z_D, z1_D, z2_D, y0_D, y1_D⟩ := Hand.hz g_D
  obtain ⟨c_D_0, f_D_0, c_D_1, f_D_1⟩ := Hand.hc2 g_D
  have zw : w.heap.size ≤ w12.heap.size := hB.size
  have HG := Lib.hid (And.intro g_R (And.intro g_G (And.intro g_L (And.intro g_H (And.intro g_N (And.intro g_S (And.intro g_D (hB))))))))
  clear g_R g_G g_L g_H g_N g_S g_D hB
  go_wp2_with fail
  with_reducible refine (E1.out _).mono ?_
  rintro e w13 ⟨rfl, hb13⟩
  obtain ⟨g_R, g_G, g_L, g_H, g_N, g_S, g_D, hB⟩ := HG.out
  have h_R : w13.heap[w.heap.size]? = some (.cells #[.int .i64 a, .int .i64 b] 24 (0, 0)) := by
    refine Hand.kb hb13 ?_; first | with_reducible exact g_R | (simp (disch := first | omega | (simp only [Hand.sa, Hand.ss, Hand.sd, Hand.sn]; first | done | omega)) only [Hand.q2, Hand.q1, Hand.q5, Hand.q6, Hand.q4, Hand.q3, g_R] <;> rfl)
  have h_G : w13.heap[w.heap.size + 1]? = some (.cells #[.int .i64 c, .int .i64 d] 24 (0, 0)) := by
    refine Hand.kb hb13 ?_; first | with_reducible exact g_G | (simp (disch := first | omega | (simp only [Hand.sa, Hand.ss, Hand.sd, Hand.sn]; first | done | omega)) only [Hand.q2, Hand.q1, Hand.q5, Hand.q6, Hand.q4, Hand.q3, g_G] <;> rfl)
  have h_L : w13.heap[w2.heap.size]? = some (.cells #[.int .i64 p1, .int .i64 q1] 24 (0, 0)) := by
    refine Hand.kb hb13 ?_; first | with_reducible exact g_L | (simp (disch := first | omega | (simp only [Hand.sa, Hand.ss, Hand.sd, Hand.sn]; first | done | omega)) only [Hand.q2, Hand.q1, Hand.q5, Hand.q6, Hand.q4, Hand.q3, g_L] <;> rfl)
  have h_H : w13.heap[w3.heap.size]? = some (.cells #[.int .i64 p3, .int .i64 q3] 24 (0, 0)) := by
    refine Hand.kb hb13 ?_; first | with_reducible exact g_H | (simp (disch := first | omega | (simp only [Hand.sa, Hand.ss, Hand.sd, Hand.sn]; first | done | omega)) only [Hand.q2, Hand.q1, Hand.q5, Hand.q6, Hand.q4, Hand.q3, g_H] <;> rfl)
  have h_N : w13.heap[w4.heap.size]? = some (.cells #[.int .i64 p1, .int .i64 q1] 24 (0, 0)) := by
    refine Hand.kb hb13 ?_; first | with_reducible exact g_N | (simp (disch := first | omega | (simp only [Hand.sa, Hand.ss, Hand.sd, Hand.sn]; first | done | omega)) only [Hand.q2, Hand.q1, Hand.q5, Hand.q6, Hand.q4, Hand.q3, g_N] <;> rfl)
  have h_S : w13.heap[w10.heap.size]? = some (.cells #[.int .i64 c, .int .i64 d] 24 (0, 0)) := by
    refine Hand.kb hb13 ?_; first | with_reducible exact g_S | (simp (disch := first | omega | (simp only [Hand.sa, Hand.ss, Hand.sd, Hand.sn]; first | done | omega)) only [Hand.q2, Hand.q1, Hand.q5, Hand.q6, Hand.q4, Hand.q3, g_S] <;> rfl)
  have h_D : w13.heap[w11.heap.size]? = some (.cells #[.int .i64 x, .int .i64 y] 24 (0, 0)) := by
    refine Hand.kb hb13 ?_; first | with_reducible exact g_D | (simp (disch := first | omega | (simp only [Hand.sa, Hand.ss, Hand.sd, Hand.sn]; first | done | omega)) only [Hand.q2, Hand.q1, Hand.q5, Hand.q6, Hand.q4, Hand.q3, g_D] <;> rfl)
  have h_U : w13.heap[w12.heap.size]? = some (.cells #[.int .i64 x', .int .i64 y'] 24 (0, 0)) := by
    refine Hand.kb hb13 ?_; simp (disch := first | omega | (simp only [Hand.sa, Hand.ss, Hand.sd, Hand.sn]; first | done | omega)) only [Hand.q2, Hand.q1, Hand.q5, Hand.q6, Hand.q4, Hand.q3] <;> rfl
  have hB' : Below w.heap.size w w13 := Hand.stepB hb13 (by repeat (with_reducible first | apply hB | apply Below.drew | apply pw_below_drewN | (apply Below.setCell; rotate_left; (dsimp only; omega)) | (apply Below.alloc; rotate_left; (first | omega | (simp only [Hand.sa, Hand.ss, Hand.sd, Hand.sn]; omega))))) (Nat.le_refl _)
  clear HG hB g_R g_G g_L g_H g_N g_S g_D zw z_R z1_R z2_R y0_R y1_R c_R_0 f_R_0 c_R_1 f_R_1 z_G z1_G z2_G y0_G y1_G c_G_0 f_G_0 c_G_1 f_G_1 z_L z1_L z2_L y0_L y1_L c_L_0 f_L_0 c_L_1 f_L_1 z_H z1_H z2_H y0_H y1_H c_H_0 f_H_0 c_H_1 f_H_1 z_N z1_N z2_N y0_N y1_N c_N_0 f_N_0 c_N_1 f_N_1 z_S z1_S z2_S y0_S y1_S c_S_0 f_S_0 c_S_1 f_S_1 z_D z1_D z2_D y0_D y1_D c_D_0 f_D_0 c_D_1 f_D_1
  clear hb13
  have g_R := h_R
  have g_G := h_G
  have g_L := h_L
  have g_H := h_H
  have g_N := h_N
  have g_S := h_S
  have g_D := h_D
  have g_U := h_U
  have hB := hB'
  clear hB' h_R h_G h_L h_H h_N h_S h_D h_U
  obtain ⟨z_R, z1_R, z2_R, y0_R, y1_R⟩ := Hand.hz g_R
  obtain ⟨c_R_0, f_R_0, c_R_1, f_R_1⟩ := Hand.hc2 g_R
  obtain ⟨z_G, z1_G, z2_G, y0_G, y1_G⟩ := Hand.hz g_G
  obtain ⟨c_G_0, f_G_0, c_G_1, f_G_1⟩ := Hand.hc2 g_G
  obtain ⟨z_L, z1_L, z2_L, y0_L, y1_L⟩ := Hand.hz g_L
  obtain ⟨c_L_0, f_L_0, c_L_1, f_L_1⟩ := Hand.hc2 g_L
  obtain ⟨z_H, z1_H, z2_H, y0_H, y1_H⟩ := Hand.hz g_H
  obtain ⟨c_H_0, f_H_0, c_H_1, f_H_1⟩ := Hand.hc2 g_H
  obtain ⟨z_N, z1_N, z2_N, y0_N, y1_N⟩ := Hand.hz g_N
  obtain ⟨c_N_0, f_N_0, c_N_1, f_N_1⟩ := Hand.hc2 g_N
  obtain ⟨z_S, z1_S, z2_S, y0_S, y1_S⟩ := Hand.hz g_S
  obtain ⟨c_S_0, f_S_0, c_S_1, f_S_1⟩ := Hand.hc2 g_S
  obtain ⟨z_D, z1_D, z2_D, y0_D, y1_D⟩ := Hand.hz g_D
  obtain ⟨c_D_0, f_D_0, c_D_1, f_D_1⟩ := Hand.hc2 g_D
  obtain ⟨z_U, z1_U, z2_U, y0_U, y1_U⟩ := Hand.hz g_U
  obtain ⟨c_U_0, f_U_0, c_U_1, f_U_1⟩ := Hand.hc2 g_U
  have zw : w.heap.size ≤ w13.heap.size := hB.size
  have HG := Lib.hid (And.intro g_R (And.intro g_G (And.intro g_L (And.intro g_H (And.intro g_N (And.intro g_S (And.intro g_D (And.intro g_U (hB)))))))))
  clear g_R g_G g_L g_H g_N g_S g_D g_U hB
  go_wp2_with fail
  with_reducible refine (E2.out _).mono ?_
  rintro e w14 ⟨rfl, hb14⟩
  obtain ⟨g_R, g_G, g_L, g_H, g_N, g_S, g_D, g_U, hB⟩ := HG.out
  have h_R : w14.heap[w.heap.size]? = some (.cells #[.int .i64 a, .int .i64 b] 24 (0, 0)) := by
    refine Hand.kb hb14 ?_; first | with_reducible exact g_R | (simp (disch := first | omega | (simp only [Hand.sa, Hand.ss, Hand.sd, Hand.sn]; first | done | omega)) only [Hand.q2, Hand.q1, Hand.q5, Hand.q6, Hand.q4, Hand.q3, g_R] <;> rfl)
  have h_G : w14.heap[w.heap.size + 1]? = some (.cells #[.int .i64 c, .int .i64 d] 24 (0, 0)) := by
    refine Hand.kb hb14 ?_; first | with_reducible exact g_G | (simp (disch := first | omega | (simp only [Hand.sa, Hand.ss, Hand.sd, Hand.sn]; first | done | omega)) only [Hand.q2, Hand.q1, Hand.q5, Hand.q6, Hand.q4, Hand.q3, g_G] <;> rfl)
  have h_L : w14.heap[w2.heap.size]? = some (.cells #[.int .i64 p1, .int .i64 q1] 24 (0, 0)) := by
    refine Hand.kb hb14 ?_; first | with_reducible exact g_L | (simp (disch := first | omega | (simp only [Hand.sa, Hand.ss, Hand.sd, Hand.sn]; first | done | omega)) only [Hand.q2, Hand.q1, Hand.q5, Hand.q6, Hand.q4, Hand.q3, g_L] <;> rfl)
  have h_H : w14.heap[w3.heap.size]? = some (.cells #[.int .i64 p3, .int .i64 q3] 24 (0, 0)) := by
    refine Hand.kb hb14 ?_; first | with_reducible exact g_H | (simp (disch := first | omega | (simp only [Hand.sa, Hand.ss, Hand.sd, Hand.sn]; first | done | omega)) only [Hand.q2, Hand.q1, Hand.q5, Hand.q6, Hand.q4, Hand.q3, g_H] <;> rfl)
  have h_N : w14.heap[w4.heap.size]? = some (.cells #[.int .i64 p1, .int .i64 q1] 24 (0, 0)) := by
    refine Hand.kb hb14 ?_; first | with_reducible exact g_N | (simp (disch := first | omega | (simp only [Hand.sa, Hand.ss, Hand.sd, Hand.sn]; first | done | omega)) only [Hand.q2, Hand.q1, Hand.q5, Hand.q6, Hand.q4, Hand.q3, g_N] <;> rfl)
  have h_S : w14.heap[w10.heap.size]? = some (.cells #[.int .i64 c, .int .i64 d] 24 (0, 0)) := by
    refine Hand.kb hb14 ?_; first | with_reducible exact g_S | (simp (disch := first | omega | (simp only [Hand.sa, Hand.ss, Hand.sd, Hand.sn]; first | done | omega)) only [Hand.q2, Hand.q1, Hand.q5, Hand.q6, Hand.q4, Hand.q3, g_S] <;> rfl)
  have h_D : w14.heap[w11.heap.size]? = some (.cells #[.int .i64 x, .int .i64 y] 24 (0, 0)) := by
    refine Hand.kb hb14 ?_; first | with_reducible exact g_D | (simp (disch := first | omega | (simp only [Hand.sa, Hand.ss, Hand.sd, Hand.sn]; first | done | omega)) only [Hand.q2, Hand.q1, Hand.q5, Hand.q6, Hand.q4, Hand.q3, g_D] <;> rfl)
  have h_U : w14.heap[w12.heap.size]? = some (.cells #[.int .i64 x', .int .i64 y'] 24 (0, 0)) := by
    refine Hand.kb hb14 ?_; first | with_reducible exact g_U | (simp (disch := first | omega | (simp only [Hand.sa, Hand.ss, Hand.sd, Hand.sn]; first | done | omega)) only [Hand.q2, Hand.q1, Hand.q5, Hand.q6, Hand.q4, Hand.q3, g_U] <;> rfl)
  have hB' : Below w.heap.size w w14 := Hand.stepB hb14 (by repeat (with_reducible first | apply hB | apply Below.drew | apply pw_below_drewN | (apply Below.setCell; rotate_left; (dsimp only; omega)) | (apply Below.alloc; rotate_left; (first | omega | (simp only [Hand.sa, Hand.ss, Hand.sd, Hand.sn]; omega))))) (Nat.le_refl _)
  clear HG hB g_R g_G g_L g_H g_N g_S g_D g_U zw z_R z1_R z2_R y0_R y1_R c_R_0 f_R_0 c_R_1 f_R_1 z_G z1_G z2_G y0_G y1_G c_G_0 f_G_0 c_G_1 f_G_1 z_L z1_L z2_L y0_L y1_L c_L_0 f_L_0 c_L_1 f_L_1 z_H z1_H z2_H y0_H y1_H c_H_0 f_H_0 c_H_1 f_H_1 z_N z1_N z2_N y0_N y1_N c_N_0 f_N_0 c_N_1 f_N_1 z_S z1_S z2_S y0_S y1_S c_S_0 f_S_0 c_S_1 f_S_1 z_D z1_D z2_D y0_D y1_D c_D_0 f_D_0 c_D_1 f_D_1 z_U z1_U z2_U y0_U y1_U c_U_0 f_U_0 c_U_1 f_U_1
  clear hb14
  have g_R := h_R
  have g_G := h_G
  have g_L := h_L
  have g_H := h_H
  have g_N := h_N
  have g_S := h_S
  have g_D := h_D
  have g_U := h_U
  have hB := hB'
  clear hB' h_R h_G h_L h_H h_N h_S h_D h_U
  obtain ⟨z_R, z1_R, z2_R, y0_R, y1_R⟩ := Hand.hz g_R
  obtain ⟨c_R_0, f_R_0, c_R_1, f_R_1⟩ := Hand.hc2 g_R
  obtain ⟨z_G, z1_G, z2_G, y0_G, y1_G⟩ := Hand.hz g_G
  obtain ⟨c_G_0, f_G_0, c_G_1, f_G_1⟩ := Hand.hc2 g_G
  obtain ⟨z_L, z1_L, z2_L, y0_L, y1_L⟩ := Hand.hz g_L
  obtain ⟨c_L_0, f_L_0, c_L_1, f_L_1⟩ := Hand.hc2 g_L
  obtain ⟨z_H, z1_H, z2_H, y0_H, y1_H⟩ := Hand.hz g_H
  obtain ⟨c_H_0, f_H_0, c_H_1, f_H_1⟩ := Hand.hc2 g_H
  obtain ⟨z_N, z1_N, z2_N, y0_N, y1_N⟩ := Hand.hz g_N
  obtain ⟨c_N_0, f_N_0, c_N_1, f_N_1⟩ := Hand.hc2 g_N
  obtain ⟨z_S, z1_S, z2_S, y0_S, y1_S⟩ := Hand.hz g_S
  obtain ⟨c_S_0, f_S_0, c_S_1, f_S_1⟩ := Hand.hc2 g_S
  obtain ⟨z_D, z1_D, z2_D, y0_D, y1_D⟩ := Hand.hz g_D
  obtain ⟨c_D_0, f_D_0, c_D_1, f_D_1⟩ := Hand.hc2 g_D
  obtain ⟨z_U, z1_U, z2_U, y0_U, y1_U⟩ := Hand.hz g_U
  obtain ⟨c_U_0, f_U_0, c_U_1, f_U_1⟩ := Hand.hc2 g_U
  have zw : w.heap.size ≤ w14.heap.size := hB.size
  have HG := Lib.hid (And.intro g_R (And.intro g_G (And.intro g_L (And.intro g_H (And.intro g_N (And.intro g_S (And.intro g_D (And.intro g_U (hB)))))))))
  clear g_R g_G g_L g_H g_N g_S g_D g_U hB
  go_wp2_with fail
  with_reducible refine (C3.out _).mono ?_
  rintro e w15 ⟨rfl, hb15⟩
  obtain ⟨g_R, g_G, g_L, g_H, g_N, g_S, g_D, g_U, hB⟩ := HG.out
  have h_R : w15.heap[w.heap.size]? = some (.cells #[.int .i64 a, .int .i64 b] 24 (0, 0)) := by
    refine Hand.kb hb15 ?_; first | with_reducible exact g_R | (simp (disch := first | omega | (simp only [Hand.sa, Hand.ss, Hand.sd, Hand.sn]; first | done | omega)) only [Hand.q2, Hand.q1, Hand.q5, Hand.q6, Hand.q4, Hand.q3, g_R] <;> rfl)
  have h_G : w15.heap[w.heap.size + 1]? = some (.cells #[.int .i64 c, .int .i64 d] 24 (0, 0)) := by
    refine Hand.kb hb15 ?_; first | with_reducible exact g_G | (simp (disch := first | omega | (simp only [Hand.sa, Hand.ss, Hand.sd, Hand.sn]; first | done | omega)) only [Hand.q2, Hand.q1, Hand.q5, Hand.q6, Hand.q4, Hand.q3, g_G] <;> rfl)
  have h_L : w15.heap[w2.heap.size]? = some (.cells #[.int .i64 p1, .int .i64 q1] 24 (0, 0)) := by
    refine Hand.kb hb15 ?_; first | with_reducible exact g_L | (simp (disch := first | omega | (simp only [Hand.sa, Hand.ss, Hand.sd, Hand.sn]; first | done | omega)) only [Hand.q2, Hand.q1, Hand.q5, Hand.q6, Hand.q4, Hand.q3, g_L] <;> rfl)
  have h_H : w15.heap[w3.heap.size]? = some (.cells #[.int .i64 p3, .int .i64 q3] 24 (0, 0)) := by
    refine Hand.kb hb15 ?_; first | with_reducible exact g_H | (simp (disch := first | omega | (simp only [Hand.sa, Hand.ss, Hand.sd, Hand.sn]; first | done | omega)) only [Hand.q2, Hand.q1, Hand.q5, Hand.q6, Hand.q4, Hand.q3, g_H] <;> rfl)
  have h_N : w15.heap[w4.heap.size]? = some (.cells #[.int .i64 p1, .int .i64 q1] 24 (0, 0)) := by
    refine Hand.kb hb15 ?_; first | with_reducible exact g_N | (simp (disch := first | omega | (simp only [Hand.sa, Hand.ss, Hand.sd, Hand.sn]; first | done | omega)) only [Hand.q2, Hand.q1, Hand.q5, Hand.q6, Hand.q4, Hand.q3, g_N] <;> rfl)
  have h_S : w15.heap[w10.heap.size]? = some (.cells #[.int .i64 c, .int .i64 d] 24 (0, 0)) := by
    refine Hand.kb hb15 ?_; first | with_reducible exact g_S | (simp (disch := first | omega | (simp only [Hand.sa, Hand.ss, Hand.sd, Hand.sn]; first | done | omega)) only [Hand.q2, Hand.q1, Hand.q5, Hand.q6, Hand.q4, Hand.q3, g_S] <;> rfl)
  have h_D : w15.heap[w11.heap.size]? = some (.cells #[.int .i64 x, .int .i64 y] 24 (0, 0)) := by
    refine Hand.kb hb15 ?_; first | with_reducible exact g_D | (simp (disch := first | omega | (simp only [Hand.sa, Hand.ss, Hand.sd, Hand.sn]; first | done | omega)) only [Hand.q2, Hand.q1, Hand.q5, Hand.q6, Hand.q4, Hand.q3, g_D] <;> rfl)
  have h_U : w15.heap[w12.heap.size]? = some (.cells #[.int .i64 x', .int .i64 y'] 24 (0, 0)) := by
    refine Hand.kb hb15 ?_; first | with_reducible exact g_U | (simp (disch := first | omega | (simp only [Hand.sa, Hand.ss, Hand.sd, Hand.sn]; first | done | omega)) only [Hand.q2, Hand.q1, Hand.q5, Hand.q6, Hand.q4, Hand.q3, g_U] <;> rfl)
  have hB' : Below w.heap.size w w15 := Hand.stepB hb15 (by repeat (with_reducible first | apply hB | apply Below.drew | apply pw_below_drewN | (apply Below.setCell; rotate_left; (dsimp only; omega)) | (apply Below.alloc; rotate_left; (first | omega | (simp only [Hand.sa, Hand.ss, Hand.sd, Hand.sn]; omega))))) (Nat.le_refl _)
  clear HG hB g_R g_G g_L g_H g_N g_S g_D g_U zw z_R z1_R z2_R y0_R y1_R c_R_0 f_R_0 c_R_1 f_R_1 z_G z1_G z2_G y0_G y1_G c_G_0 f_G_0 c_G_1 f_G_1 z_L z1_L z2_L y0_L y1_L c_L_0 f_L_0 c_L_1 f_L_1 z_H z1_H z2_H y0_H y1_H c_H_0 f_H_0 c_H_1 f_H_1 z_N z1_N z2_N y0_N y1_N c_N_0 f_N_0 c_N_1 f_N_1 z_S z1_S z2_S y0_S y1_S c_S_0 f_S_0 c_S_1 f_S_1 z_D z1_D z2_D y0_D y1_D c_D_0 f_D_0 c_D_1 f_D_1 z_U z1_U z2_U y0_U y1_U c_U_0 f_U_0 c_U_1 f_U_1
  clear hb15
  have g_R := h_R
  have g_G := h_G
  have g_L := h_L
  have g_H := h_H
  have g_N := h_N
  have g_S := h_S
  have g_D := h_D
  have g_U := h_U
  have hB := hB'
  clear hB' h_R h_G h_L h_H h_N h_S h_D h_U
  obtain ⟨z_R, z1_R, z2_R, y0_R, y1_R⟩ := Hand.hz g_R
  obtain ⟨c_R_0, f_R_0, c_R_1, f_R_1⟩ := Hand.hc2 g_R
  obtain ⟨z_G, z1_G, z2_G, y0_G, y1_G⟩ := Hand.hz g_G
  obtain ⟨c_G_0, f_G_0, c_G_1, f_G_1⟩ := Hand.hc2 g_G
  obtain ⟨z_L, z1_L, z2_L, y0_L, y1_L⟩ := Hand.hz g_L
  obtain ⟨c_L_0, f_L_0, c_L_1, f_L_1⟩ := Hand.hc2 g_L
  obtain ⟨z_H, z1_H, z2_H, y0_H, y1_H⟩ := Hand.hz g_H
  obtain ⟨c_H_0, f_H_0, c_H_1, f_H_1⟩ := Hand.hc2 g_H
  obtain ⟨z_N, z1_N, z2_N, y0_N, y1_N⟩ := Hand.hz g_N
  obtain ⟨c_N_0, f_N_0, c_N_1, f_N_1⟩ := Hand.hc2 g_N
  obtain ⟨z_S, z1_S, z2_S, y0_S, y1_S⟩ := Hand.hz g_S
  obtain ⟨c_S_0, f_S_0, c_S_1, f_S_1⟩ := Hand.hc2 g_S
  obtain ⟨z_D, z1_D, z2_D, y0_D, y1_D⟩ := Hand.hz g_D
  obtain ⟨c_D_0, f_D_0, c_D_1, f_D_1⟩ := Hand.hc2 g_D
  obtain ⟨z_U, z1_U, z2_U, y0_U, y1_U⟩ := Hand.hz g_U
  obtain ⟨c_U_0, f_U_0, c_U_1, f_U_1⟩ := Hand.hc2 g_U
  have zw : w.heap.size ≤ w15.heap.size := hB.size
  have HG := Lib.hid (And.intro g_R (And.intro g_G (And.intro g_L (And.intro g_H (And.intro g_N (And.intro g_S (And.intro g_D (And.intro g_U (hB)))))))))
  clear g_R g_G g_L g_H g_N g_S g_D g_U hB
  go_wp2
  go_ret
  obtain ⟨g_R, g_G, g_L, g_H, g_N, g_S, g_D, g_U, hB⟩ := HG.out
  exact ⟨rfl, hB⟩
end Go.Proofs.YtofndakpenpkbaaDoor.PA
