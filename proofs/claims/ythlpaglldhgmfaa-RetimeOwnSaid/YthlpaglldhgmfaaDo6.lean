/- Chapter 6: steps.do. -/
import Derived.Test.YthlpaglldhgmfaaFxT
import Derived.Test.YthlpaglldhgmfaaK6a
import Derived.Deep.QuietTactic
import Derived.BigQuiet
namespace Go.Proofs.Ythlpaglldhgmfaa.PA
open Go Go.RowKit Go.Proofs.YthlpaglldhgmfaaW.PrintWords Go.Proofs.YthlpaglldhgmfaaW.PrintLast Go.Proofs.YthlpaglldhgmfaaW.PrintMore
set_option linter.unusedSimpArgs false
set_option linter.unusedVariables false
set_option maxHeartbeats 800000 in
set_option maxRecDepth 100000 in
theorem do_no (g : Nat) (F : Value) (a1 a2 b1 b2 e0 : Int) (w : World) (hx : w.heap[g]? = some (.cells #[.int .i64 e0] 72 (0, 0))) (he : (e0 == 0) = false) :
    Calls Try.prog 42 #[.pointer (some ⟨g, 0, none⟩), F, .agg #[.int .i64 a1, .int .i64 a2], .agg #[.int .i64 b1, .int .i64 b2]] w fun e w' => e = .returned (.agg #[.int .i64 0, .int .i64 0]) ∧ Below w.heap.size w w' := by
  obtain ⟨c0, f0⟩ := Hand.hc1 hx
  obtain ⟨z0, z1, z2, y0, y1⟩ := Hand.hz hx
  have y2 : (g = w.heap.size + 1 + 1) = False := eq_false (by omega)
  have he2 : (e0 != 0) = true := by simpa using he
  clear hx
  go_enter Try.func42, Try.ntmps42
  go_wp2
  refine bodyPost_ret (results_cell_row rfl _ _ (w.heap.size + 1 + 1) 31 #[.int .i64 0, .int .i64 0] (0, 0) _ rfl ?_ Try.underlying31 rfl (by kernel_rfl)) rfl ⟨rfl, ?_⟩
  · exact Hand.q3 _ _ _ (by simp)
  · exact (((Below.refl _ _).alloc (Nat.le_refl _) _).alloc (by simp) _).alloc (by simp; omega) _
set_option maxHeartbeats 800000 in
set_option maxRecDepth 100000 in
theorem do_yes (g : Nat) (F : FuncId) (a1 a2 b1 b2 x y z : Int) (w : World) (hx : w.heap[g]? = some (.cells #[.int .i64 0] 72 (0, 0)))
    (hen : ∀ args w, (callFunc F args).run Try.prog w = .ok (.enter F args) w)
    (m1 : ∀ w, Calls Try.prog F #[.agg #[.int .i64 a1, .int .i64 a2], .agg #[.int .i64 b1, .int .i64 b2]] w fun e w' => e = .returned (.tuple #[.agg #[.int .i64 x, .int .i64 y], .int .i64 z]) ∧ Below w.heap.size w w') :
    Calls Try.prog 42 #[.pointer (some ⟨g, 0, none⟩), .func (.func F) #[] #[], .agg #[.int .i64 a1, .int .i64 a2], .agg #[.int .i64 b1, .int .i64 b2]] w fun e w' => e = .returned (.agg #[.int .i64 x, .int .i64 y]) ∧ w'.heap[g]? = some (.cells #[.int .i64 z] 72 (0, 0)) ∧ Fx g w w' := by
  obtain ⟨c0, f0⟩ := Hand.hc1 hx
  obtain ⟨z0, z1, z2, y0, y1⟩ := Hand.hz hx
  have y2 : (g = w.heap.size + 1 + 1) = False := eq_false (by omega)
  have HX := Lib.hid hx
  have g_S := hx
  have hB := Below.refl w.heap.size w
  have M1 := Lib.hid m1
  clear hx m1 c0 f0 z0 z1 z2 y0 y1
  go_enter Try.func42, Try.ntmps42
  obtain ⟨z_S, z1_S, z2_S, y0_S, y1_S⟩ := Hand.hz g_S
  obtain ⟨c_S_0, f_S_0⟩ := Hand.hc1 g_S
  have zw : w.heap.size ≤ w.heap.size := hB.size
  have HG := Lib.hid (And.intro g_S (hB))
  clear g_S hB
  go_wp2_with fail
  with_reducible refine (M1.out _).mono ?_
  rintro e w1 ⟨rfl, hb1⟩
  obtain ⟨g_S, hB⟩ := HG.out
  have h_S : w1.heap[g]? = some (.cells #[.int .i64 0] 72 (0, 0)) := by
    refine Hand.kb hb1 ?_; first | with_reducible exact g_S | (simp (disch := first | omega | (simp only [Hand.sa, Hand.ss, Hand.sd, Hand.sn]; first | done | omega)) only [Hand.q2, Hand.q1, Hand.q5, Hand.q6, Hand.q4, Hand.q3, g_S] <;> rfl)
  have h_A : w1.heap[w.heap.size]? = some (.cells #[.int .i64 a1, .int .i64 a2] 31 (0, 0)) := by
    refine Hand.kb hb1 ?_; simp (disch := first | omega | (simp only [Hand.sa, Hand.ss, Hand.sd, Hand.sn]; first | done | omega)) only [Hand.q2, Hand.q1, Hand.q5, Hand.q6, Hand.q4, Hand.q3] <;> rfl
  have h_B : w1.heap[w.heap.size + 1]? = some (.cells #[.int .i64 b1, .int .i64 b2] 31 (0, 0)) := by
    refine Hand.kb hb1 ?_; simp (disch := first | omega | (simp only [Hand.sa, Hand.ss, Hand.sd, Hand.sn]; first | done | omega)) only [Hand.q2, Hand.q1, Hand.q5, Hand.q6, Hand.q4, Hand.q3] <;> rfl
  have h_R : w1.heap[w.heap.size + 1 + 1]? = some (.cells #[.int .i64 0, .int .i64 0] 31 (0, 0)) := by
    refine Hand.kb hb1 ?_; simp (disch := first | omega | (simp only [Hand.sa, Hand.ss, Hand.sd, Hand.sn]; first | done | omega)) only [Hand.q2, Hand.q1, Hand.q5, Hand.q6, Hand.q4, Hand.q3] <;> rfl
  have h_X : w1.heap[w.heap.size + 1 + 1 + 1]? = some (.cells #[.int .i64 0, .int .i64 0] 31 (0, 0)) := by
    refine Hand.kb hb1 ?_; simp (disch := first | omega | (simp only [Hand.sa, Hand.ss, Hand.sd, Hand.sn]; first | done | omega)) only [Hand.q2, Hand.q1, Hand.q5, Hand.q6, Hand.q4, Hand.q3] <;> rfl
  have hB' : Below w.heap.size w w1 := Hand.stepB hb1 (by repeat (with_reducible first | apply hB | apply Below.drew | apply pw_below_drewN | (apply Below.setCell; rotate_left; (dsimp only; omega)) | (apply Below.alloc; rotate_left; (first | omega | (simp only [Hand.sa, Hand.ss, Hand.sd, Hand.sn]; omega))))) (Nat.le_refl _)
  clear HG hB g_S zw z_S z1_S z2_S y0_S y1_S c_S_0 f_S_0
  clear hb1
  have g_S := h_S
  have g_A := h_A
  have g_B := h_B
  have g_R := h_R
  have g_X := h_X
  have hB := hB'
  clear hB' h_S h_A h_B h_R h_X
  obtain ⟨z_S, z1_S, z2_S, y0_S, y1_S⟩ := Hand.hz g_S
  obtain ⟨c_S_0, f_S_0⟩ := Hand.hc1 g_S
  obtain ⟨z_A, z1_A, z2_A, y0_A, y1_A⟩ := Hand.hz g_A
  obtain ⟨c_A_0, f_A_0, c_A_1, f_A_1⟩ := Hand.hc2 g_A
  obtain ⟨z_B, z1_B, z2_B, y0_B, y1_B⟩ := Hand.hz g_B
  obtain ⟨c_B_0, f_B_0, c_B_1, f_B_1⟩ := Hand.hc2 g_B
  obtain ⟨z_R, z1_R, z2_R, y0_R, y1_R⟩ := Hand.hz g_R
  obtain ⟨c_R_0, f_R_0, c_R_1, f_R_1⟩ := Hand.hc2 g_R
  obtain ⟨z_X, z1_X, z2_X, y0_X, y1_X⟩ := Hand.hz g_X
  obtain ⟨c_X_0, f_X_0, c_X_1, f_X_1⟩ := Hand.hc2 g_X
  have zw : w.heap.size ≤ w1.heap.size := hB.size
  have HG := Lib.hid (And.intro g_S (And.intro g_A (And.intro g_B (And.intro g_R (And.intro g_X (hB))))))
  clear g_S g_A g_B g_R g_X hB
  have hgs : g < w.heap.size := by have := (Hand.hz HX.out).1; exact this
  have q1 : (g = w.heap.size + 1 + 1 + 1) = False := eq_false (by omega)
  have q2 : (w.heap.size + 1 + 1 + 1 = g) = False := eq_false (by omega)
  have q3 : (w.heap.size + 1 + 1 = g) = False := eq_false (by omega)
  have q4 : (g = w.heap.size + 1 + 1) = False := eq_false (by omega)
  go_wp2
  obtain ⟨g_S, g_A, g_B, g_R, g_X, hB⟩ := HG.out
  refine bodyPost_ret (results_cell_row rfl _ _ (w.heap.size + 1 + 1) 31 #[.int .i64 x, .int .i64 y] (0, 0) _ rfl ?_ Try.underlying31 rfl (by kernel_rfl)) rfl ⟨rfl, ?_, ?_⟩
  · simp (disch := omega) only [Hand.q1, Hand.q2, g_R]; rfl
  · simp (disch := omega) only [Hand.q1, Hand.q2, g_S]; rfl
  · repeat (with_reducible first | exact Fx.of_below hB | (refine Fx.setNew ?_ (by omega) _ _) | (refine Fx.setCell ?_ _ _))
abbrev rv (r : Rt) : Value := .agg #[.int .i64 r.1, .int .i64 r.2]
abbrev fnv (F : FuncId) : Value := .func (.func F) #[] #[]
abbrev Ent (F : FuncId) : Prop := ∀ args w, (callFunc F args).run Try.prog w = .ok (.enter F args) w
/-- what a function of two ratios gives -/
abbrev Rf (F : FuncId) (f : Rt → Rt → Rt × Int) (a b : Rt) : Prop := ∀ w, Calls Try.prog F #[rv a, rv b] w fun e w' => e = .returned (.tuple #[rv (f a b).1, .int .i64 (f a b).2]) ∧ Below w.heap.size w w'
abbrev stp (e : Int) : Obj := .cells #[.int .i64 e] 72 (0, 0)
theorem do_any (g : Nat) (F : FuncId) (f : Rt → Rt → Rt × Int) (e : Int) (a b : Rt) (w : World) (hx : w.heap[g]? = some (stp e)) (hen : Ent F) (hf : e = 0 → Rf F f a b) :
    Calls Try.prog 42 #[.pointer (some ⟨g, 0, none⟩), fnv F, rv a, rv b] w fun e_ w' => e_ = .returned (rv (doS f e a b).1) ∧ w'.heap[g]? = some (stp (doS f e a b).2) ∧ Fx g w w' := by
  unfold doS
  by_cases h : e = 0
  · subst h
    rw [if_pos rfl]
    exact do_yes g F _ _ _ _ _ _ _ w hx hen (hf rfl)
  · rw [if_neg h]
    refine (do_no g (fnv F) _ _ _ _ e w hx (by simpa using h)).mono ?_
    rintro e_ w' ⟨rfl, hb⟩
    exact ⟨rfl, Hand.kb hb hx, Fx.of_below hb⟩
end Go.Proofs.Ythlpaglldhgmfaa.PA
