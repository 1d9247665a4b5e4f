/- Chapter 6: along, back: from a knot with a slope. -/
import Derived.Test.YthlpaglldhgmfaaDo6
import Derived.Deep.RegionHeld3
namespace Go.Proofs.Ythlpaglldhgmfaa.PA
open Go Go.RowKit Go.Proofs.YthlpaglldhgmfaaW.PrintWords Go.Proofs.YthlpaglldhgmfaaW.PrintLast Go.Proofs.YthlpaglldhgmfaaW.PrintMore
set_option linter.unusedSimpArgs false
set_option linter.unusedVariables false
set_option maxHeartbeats 1600000 in
set_option maxRecDepth 100000 in
theorem along_of (k1 k2 o1 o2 s1 s2 t1 t2 x1 x2 y1 y2 z1 z2 e1 e2 e3 : Int) (w : World)
    (m1 : ∀ g w, w.heap[g]? = some (stp 0) → Calls Try.prog 42 #[.pointer (some ⟨g, 0, none⟩), fnv 43, .agg #[.int .i64 t1, .int .i64 t2], .agg #[.int .i64 k1, .int .i64 k2]] w fun e_ w' => e_ = .returned (.agg #[.int .i64 x1, .int .i64 x2]) ∧ w'.heap[g]? = some (stp e1) ∧ Fx g w w')
    (m2 : ∀ g w, w.heap[g]? = some (stp e1) → Calls Try.prog 42 #[.pointer (some ⟨g, 0, none⟩), fnv 80, .agg #[.int .i64 x1, .int .i64 x2], .agg #[.int .i64 s1, .int .i64 s2]] w fun e_ w' => e_ = .returned (.agg #[.int .i64 y1, .int .i64 y2]) ∧ w'.heap[g]? = some (stp e2) ∧ Fx g w w')
    (m3 : ∀ g w, w.heap[g]? = some (stp e2) → Calls Try.prog 42 #[.pointer (some ⟨g, 0, none⟩), fnv 44, .agg #[.int .i64 o1, .int .i64 o2], .agg #[.int .i64 y1, .int .i64 y2]] w fun e_ w' => e_ = .returned (.agg #[.int .i64 z1, .int .i64 z2]) ∧ w'.heap[g]? = some (stp e3) ∧ Fx g w w') :
    Calls Try.prog 40 #[.agg #[.int .i64 k1, .int .i64 k2, .int .i64 o1, .int .i64 o2], .agg #[.int .i64 s1, .int .i64 s2], .agg #[.int .i64 t1, .int .i64 t2]] w fun e w' => e = .returned (.tuple #[.agg #[.int .i64 z1, .int .i64 z2], .int .i64 e3]) ∧ Below w.heap.size w w' := by
  have M1 := Lib.hid m1
  have M2 := Lib.hid m2
  have M3 := Lib.hid m3
  clear m1 m2 m3
  go_enter Try.func40, Try.ntmps40
  go_wp2_with fail
  obtain ⟨W, hW⟩ : ∃ W_, W_ = (((((w.alloc (.cells #[.int .i64 k1, .int .i64 k2, .int .i64 o1, .int .i64 o2] 35)).alloc (.cells #[.int .i64 s1, .int .i64 s2] 31)).alloc (.cells #[.int .i64 t1, .int .i64 t2] 31)).alloc (.cells #[.int .i64 0, .int .i64 0] 31)).alloc (.cells #[.int .i64 0] 72)) := ⟨_, rfl⟩
  rw [← hW]
  have gK : W.heap[w.heap.size]? = some (.cells #[.int .i64 k1, .int .i64 k2, .int .i64 o1, .int .i64 o2] 35 (0, 0)) := by rw [hW]; simp (disch := (first | omega | (simp only [World.size_alloc, World.size_drew, World.size_setCell]; first | done | omega))) only [Hand.q4, Hand.q3]
  have gL : W.heap[w.heap.size + 1]? = some (.cells #[.int .i64 s1, .int .i64 s2] 31 (0, 0)) := by rw [hW]; simp (disch := (first | omega | (simp only [World.size_alloc, World.size_drew, World.size_setCell]; first | done | omega))) only [Hand.q4, Hand.q3]
  have gT : W.heap[w.heap.size + 1 + 1]? = some (.cells #[.int .i64 t1, .int .i64 t2] 31 (0, 0)) := by rw [hW]; simp (disch := (first | omega | (simp only [World.size_alloc, World.size_drew, World.size_setCell]; first | done | omega))) only [Hand.q4, Hand.q3]
  have gR : W.heap[w.heap.size + 1 + 1 + 1]? = some (.cells #[.int .i64 0, .int .i64 0] 31 (0, 0)) := by rw [hW]; simp (disch := (first | omega | (simp only [World.size_alloc, World.size_drew, World.size_setCell]; first | done | omega))) only [Hand.q4, Hand.q3]
  have gS : W.heap[w.heap.size + 1 + 1 + 1 + 1]? = some (stp 0) := by rw [hW]; simp (disch := (first | omega | (simp only [World.size_alloc, World.size_drew, World.size_setCell]; first | done | omega))) only [Hand.q4, Hand.q3]
  have hBW : Below w.heap.size w W := by rw [hW]; repeat (first | exact Below.refl _ _ | refine Below.alloc ?_ (by (first | omega | (simp only [World.size_alloc, World.size_drew, World.size_setCell]; first | done | omega))) _)
  have hsz : w.heap.size + 5 ≤ W.heap.size := by rw [hW]; simp only [World.size_alloc]; omega
  clear hW
  obtain ⟨c_K_0, f_K_0, c_K_1, f_K_1, c_K_2, f_K_2, c_K_3, f_K_3⟩ := Hand.hc4 gK
  obtain ⟨c_L_0, f_L_0, c_L_1, f_L_1⟩ := Hand.hc2 gL
  obtain ⟨c_T_0, f_T_0, c_T_1, f_T_1⟩ := Hand.hc2 gT
  have HKEEP := Lib.hid (fun (w_ : World) (h : Fx (w.heap.size + 1 + 1 + 1 + 1) W w_) => (⟨h, (h.cell _ (by dsimp only; omega) (by dsimp only; omega)).trans c_K_0, (h.cell _ (by dsimp only; omega) (by dsimp only; omega)).trans c_K_1, (h.cell _ (by dsimp only; omega) (by dsimp only; omega)).trans c_K_2, (h.cell _ (by dsimp only; omega) (by dsimp only; omega)).trans c_K_3, (h.cell _ (by dsimp only; omega) (by dsimp only; omega)).trans c_L_0, (h.cell _ (by dsimp only; omega) (by dsimp only; omega)).trans c_L_1, (h.cell _ (by dsimp only; omega) (by dsimp only; omega)).trans c_T_0, (h.cell _ (by dsimp only; omega) (by dsimp only; omega)).trans c_T_1⟩ : (Fx (w.heap.size + 1 + 1 + 1 + 1) W w_ ∧ w_.cell? ⟨w.heap.size, 0, none⟩ = some (.int .i64 k1) ∧ w_.cell? ⟨w.heap.size, 1, none⟩ = some (.int .i64 k2) ∧ w_.cell? ⟨w.heap.size, 2, none⟩ = some (.int .i64 o1) ∧ w_.cell? ⟨w.heap.size, 3, none⟩ = some (.int .i64 o2) ∧ w_.cell? ⟨w.heap.size + 1, 0, none⟩ = some (.int .i64 s1) ∧ w_.cell? ⟨w.heap.size + 1, 1, none⟩ = some (.int .i64 s2) ∧ w_.cell? ⟨w.heap.size + 1 + 1, 0, none⟩ = some (.int .i64 t1) ∧ w_.cell? ⟨w.heap.size + 1 + 1, 1, none⟩ = some (.int .i64 t2))))
  have BR : Fx (w.heap.size + 1 + 1 + 1 + 1) W W := Fx.refl _ _
  refine Hand.wp_cut (fun PP hPP => ?_)
  have rest : ∀ (gx : Nat) (V : World), w.heap.size + 5 ≤ gx → V.heap[gx]? = some (.cells #[.int .i64 z1, .int .i64 z2] 31 (0, 0)) → V.heap[w.heap.size + 1 + 1 + 1 + 1]? = some (stp e3) → V.heap[w.heap.size + 1 + 1 + 1]? = some (.cells #[.int .i64 0, .int .i64 0] 31 (0, 0)) → Below w.heap.size w V → PP .normal ⟨#[.agg #[.int .i64 k1, .int .i64 k2, .int .i64 o1, .int .i64 o2], .agg #[.int .i64 s1, .int .i64 s2], .agg #[.int .i64 t1, .int .i64 t2], .pointer (some ⟨w.heap.size, 0, none⟩), .pointer (some ⟨w.heap.size + 1, 0, none⟩), .pointer (some ⟨w.heap.size + 1 + 1, 0, none⟩), .pointer (some ⟨w.heap.size + 1 + 1 + 1, 0, none⟩), .int .i64 0, .pointer (some ⟨w.heap.size + 1 + 1 + 1 + 1, 0, none⟩), .pointer (some ⟨gx, 0, none⟩), .pointer (some ⟨w.heap.size, 2, none⟩), .agg #[.int .i64 o1, .int .i64 o2], .agg #[.int .i64 t1, .int .i64 t2], .pointer (some ⟨w.heap.size, 0, none⟩), .agg #[.int .i64 k1, .int .i64 k2], .agg #[.int .i64 x1, .int .i64 x2], .agg #[.int .i64 s1, .int .i64 s2], .agg #[.int .i64 y1, .int .i64 y2], .agg #[.int .i64 z1, .int .i64 z2], undef, undef, undef], []⟩ V := by
    intro gx V n1 vX vS vR vB
    rw [hPP]
    obtain ⟨u0, f0, u1, f1⟩ := Hand.hc2 vX
    obtain ⟨cs, fs⟩ := Hand.hc1 vS
    obtain ⟨r0, fr0, r1, fr1⟩ := Hand.hc2 vR
    have rz := (Hand.hz vR).1
    have q1 : (gx = w.heap.size + 1 + 1 + 1) = False := eq_false (by omega)
    have q2 : (w.heap.size + 1 + 1 + 1 = gx) = False := eq_false (by omega)
    have q3 : (gx = w.heap.size + 1 + 1 + 1 + 1) = False := eq_false (by omega)
    have q4 : (w.heap.size + 1 + 1 + 1 + 1 = gx) = False := eq_false (by omega)
    have HVR := Lib.hid vR
    have HVB := Lib.hid vB
    clear vX vS vR vB
    go_wp2
    go_region_held3 (fun w_ => w_.cell? ⟨gx, 0, none⟩ = some (.int .i64 z1) ∧ w_.cell? ⟨gx, 1, none⟩ = some (.int .i64 z2) ∧ w_.cell? ⟨w.heap.size + 1 + 1 + 1 + 1, 0, none⟩ = some (.int .i64 e3)) (first | exact ⟨u0, u1, cs⟩ | go_keep) (first | fail)
    go_wp2
    refine bodyPost_ret (results_ct rfl _ _ (w.heap.size + 1 + 1 + 1) 31 #[.int .i64 z1, .int .i64 z2] (0, 0) _ rfl ?_ Try.underlying31 rfl (by kernel_rfl)) rfl ⟨rfl, ?_⟩
    · simp (disch := (first | omega | (simp only [World.size_alloc, World.size_drew, World.size_setCell]; first | done | omega))) only [Hand.q5, Hand.q1, HVR.out]; rfl
    · repeat (with_reducible first | exact HVB.out | apply Below.drew | refine Below.setCell ?_ (by dsimp only; omega) _)
  have REST := Lib.hid rest
  clear rest
  go_region_held3 (fun w_ => Fx (w.heap.size + 1 + 1 + 1 + 1) W w_ ∧ w_.cell? ⟨w.heap.size, 0, none⟩ = some (.int .i64 k1) ∧ w_.cell? ⟨w.heap.size, 1, none⟩ = some (.int .i64 k2) ∧ w_.cell? ⟨w.heap.size, 2, none⟩ = some (.int .i64 o1) ∧ w_.cell? ⟨w.heap.size, 3, none⟩ = some (.int .i64 o2) ∧ w_.cell? ⟨w.heap.size + 1, 0, none⟩ = some (.int .i64 s1) ∧ w_.cell? ⟨w.heap.size + 1, 1, none⟩ = some (.int .i64 s2) ∧ w_.cell? ⟨w.heap.size + 1 + 1, 0, none⟩ = some (.int .i64 t1) ∧ w_.cell? ⟨w.heap.size + 1 + 1, 1, none⟩ = some (.int .i64 t2)) (first | (refine HKEEP.out _ ?_; repeat (with_reducible first | assumption | apply Fx.drew | apply Fx.alloc | refine Fx.setNew ?_ (by first | omega | (simp only [World.size_alloc, World.size_drew]; omega)) _ _))) (first | (go_at_call 42; ((with_reducible refine (M1.out _ _ (by first | assumption | (simp (disch := (first | omega | (simp only [World.size_alloc, World.size_drew, World.size_setCell]; first | done | omega))) only [Hand.q5, Hand.q4]; assumption))).mono ?_); rintro e w4 ⟨rfl, hx_w4, hF_w4⟩; have BB : Fx (w.heap.size + 1 + 1 + 1 + 1) W w4 := Fx.trans (by repeat (with_reducible first | assumption | apply Fx.drew | apply Fx.alloc | refine Fx.setNew ?_ (by first | omega | (simp only [World.size_alloc, World.size_drew]; omega)) _ _)) hF_w4; have zB_w4 := BB.size; obtain ⟨cs, fs⟩ := Hand.hc1 hx_w4; obtain ⟨sz0, sz1, sz2, sy0, sy1⟩ := Hand.hz hx_w4; (try (have nx := hF_w4.kb (k := W.heap.size) (o := .cells #[.int .i64 0, .int .i64 0] 31 (0, 0)) (by first | assumption | (simp (disch := (first | omega | (simp only [World.size_alloc, World.size_drew, World.size_setCell]; first | done | omega))) only [Hand.q5, Hand.q4, Hand.q3]; done) | (simp (disch := (first | omega | (simp only [World.size_alloc, World.size_drew, World.size_setCell]; first | done | omega))) only [Hand.q5, Hand.q4]; assumption)) (by omega); obtain ⟨nc0, nf0, nc1, nf1⟩ := Hand.hc2 nx; obtain ⟨nz0, nz1, nz2, ny0, ny1⟩ := Hand.hz nx; have ne1 : (W.heap.size = w.heap.size + 1 + 1 + 1 + 1) = False := eq_false (by omega); have ne2 : (w.heap.size + 1 + 1 + 1 + 1 = W.heap.size) = False := eq_false (by omega))))) | (go_at_call 42; ((with_reducible refine (M2.out _ _ (by first | assumption | (simp (disch := (first | omega | (simp only [World.size_alloc, World.size_drew, World.size_setCell]; first | done | omega))) only [Hand.q5, Hand.q4]; assumption))).mono ?_); rintro e w5 ⟨rfl, hx_w5, hF_w5⟩; have BB : Fx (w.heap.size + 1 + 1 + 1 + 1) W w5 := Fx.trans (by repeat (with_reducible first | assumption | apply Fx.drew | apply Fx.alloc | refine Fx.setNew ?_ (by first | omega | (simp only [World.size_alloc, World.size_drew]; omega)) _ _)) hF_w5; have zB_w5 := BB.size; obtain ⟨cs, fs⟩ := Hand.hc1 hx_w5; obtain ⟨sz0, sz1, sz2, sy0, sy1⟩ := Hand.hz hx_w5; (try (have nx := hF_w5.kb (k := W.heap.size) (o := .cells #[.int .i64 0, .int .i64 0] 31 (0, 0)) (by first | assumption | (simp (disch := (first | omega | (simp only [World.size_alloc, World.size_drew, World.size_setCell]; first | done | omega))) only [Hand.q5, Hand.q4, Hand.q3]; done) | (simp (disch := (first | omega | (simp only [World.size_alloc, World.size_drew, World.size_setCell]; first | done | omega))) only [Hand.q5, Hand.q4]; assumption)) (by omega); obtain ⟨nc0, nf0, nc1, nf1⟩ := Hand.hc2 nx; obtain ⟨nz0, nz1, nz2, ny0, ny1⟩ := Hand.hz nx; have ne1 : (W.heap.size = w.heap.size + 1 + 1 + 1 + 1) = False := eq_false (by omega); have ne2 : (w.heap.size + 1 + 1 + 1 + 1 = W.heap.size) = False := eq_false (by omega))); (try (have nx := hF_w5.kb (k := w4.heap.size) (o := .cells #[.int .i64 0, .int .i64 0] 31 (0, 0)) (by first | assumption | (simp (disch := (first | omega | (simp only [World.size_alloc, World.size_drew, World.size_setCell]; first | done | omega))) only [Hand.q5, Hand.q4, Hand.q3]; done) | (simp (disch := (first | omega | (simp only [World.size_alloc, World.size_drew, World.size_setCell]; first | done | omega))) only [Hand.q5, Hand.q4]; assumption)) (by omega); obtain ⟨nc0, nf0, nc1, nf1⟩ := Hand.hc2 nx; obtain ⟨nz0, nz1, nz2, ny0, ny1⟩ := Hand.hz nx; have ne1 : (w4.heap.size = w.heap.size + 1 + 1 + 1 + 1) = False := eq_false (by omega); have ne2 : (w.heap.size + 1 + 1 + 1 + 1 = w4.heap.size) = False := eq_false (by omega))))) | (go_at_call 42; ((with_reducible refine (M3.out _ _ (by first | assumption | (simp (disch := (first | omega | (simp only [World.size_alloc, World.size_drew, World.size_setCell]; first | done | omega))) only [Hand.q5, Hand.q4]; assumption))).mono ?_); rintro e w6 ⟨rfl, hx_w6, hF_w6⟩; have BB : Fx (w.heap.size + 1 + 1 + 1 + 1) W w6 := Fx.trans (by repeat (with_reducible first | assumption | apply Fx.drew | apply Fx.alloc | refine Fx.setNew ?_ (by first | omega | (simp only [World.size_alloc, World.size_drew]; omega)) _ _)) hF_w6; have zB_w6 := BB.size; obtain ⟨cs, fs⟩ := Hand.hc1 hx_w6; obtain ⟨sz0, sz1, sz2, sy0, sy1⟩ := Hand.hz hx_w6; (try (have nx := hF_w6.kb (k := W.heap.size) (o := .cells #[.int .i64 0, .int .i64 0] 31 (0, 0)) (by first | assumption | (simp (disch := (first | omega | (simp only [World.size_alloc, World.size_drew, World.size_setCell]; first | done | omega))) only [Hand.q5, Hand.q4, Hand.q3]; done) | (simp (disch := (first | omega | (simp only [World.size_alloc, World.size_drew, World.size_setCell]; first | done | omega))) only [Hand.q5, Hand.q4]; assumption)) (by omega); obtain ⟨nc0, nf0, nc1, nf1⟩ := Hand.hc2 nx; obtain ⟨nz0, nz1, nz2, ny0, ny1⟩ := Hand.hz nx; have ne1 : (W.heap.size = w.heap.size + 1 + 1 + 1 + 1) = False := eq_false (by omega); have ne2 : (w.heap.size + 1 + 1 + 1 + 1 = W.heap.size) = False := eq_false (by omega))); (try (have nx := hF_w6.kb (k := w4.heap.size) (o := .cells #[.int .i64 0, .int .i64 0] 31 (0, 0)) (by first | assumption | (simp (disch := (first | omega | (simp only [World.size_alloc, World.size_drew, World.size_setCell]; first | done | omega))) only [Hand.q5, Hand.q4, Hand.q3]; done) | (simp (disch := (first | omega | (simp only [World.size_alloc, World.size_drew, World.size_setCell]; first | done | omega))) only [Hand.q5, Hand.q4]; assumption)) (by omega); obtain ⟨nc0, nf0, nc1, nf1⟩ := Hand.hc2 nx; obtain ⟨nz0, nz1, nz2, ny0, ny1⟩ := Hand.hz nx; have ne1 : (w4.heap.size = w.heap.size + 1 + 1 + 1 + 1) = False := eq_false (by omega); have ne2 : (w.heap.size + 1 + 1 + 1 + 1 = w4.heap.size) = False := eq_false (by omega))); (try (have nx := hF_w6.kb (k := w5.heap.size) (o := .cells #[.int .i64 0, .int .i64 0] 31 (0, 0)) (by first | assumption | (simp (disch := (first | omega | (simp only [World.size_alloc, World.size_drew, World.size_setCell]; first | done | omega))) only [Hand.q5, Hand.q4, Hand.q3]; done) | (simp (disch := (first | omega | (simp only [World.size_alloc, World.size_drew, World.size_setCell]; first | done | omega))) only [Hand.q5, Hand.q4]; assumption)) (by omega); obtain ⟨nc0, nf0, nc1, nf1⟩ := Hand.hc2 nx; obtain ⟨nz0, nz1, nz2, ny0, ny1⟩ := Hand.hz nx; have ne1 : (w5.heap.size = w.heap.size + 1 + 1 + 1 + 1) = False := eq_false (by omega); have ne2 : (w.heap.size + 1 + 1 + 1 + 1 = w5.heap.size) = False := eq_false (by omega))))))
  · have gR6 := BB.kb gR (by omega)
    have hB6 : Below w.heap.size w w6 := BB.below hBW (by omega) hBW.size
    have rz := (Hand.hz gR6).1
    have szz := (Hand.hz hx_w6).1
    obtain ⟨V, hV⟩ : ∃ V_, V_ = w6.alloc (.cells #[.int .i64 z1, .int .i64 z2] 31) := ⟨_, rfl⟩
    rw [← hV]
    have vX : V.heap[w6.heap.size]? = some (.cells #[.int .i64 z1, .int .i64 z2] 31 (0, 0)) := by rw [hV]; first | exact Hand.q3 _ _ _ rfl | (simp (disch := (first | omega | (simp only [World.size_alloc, World.size_drew, World.size_setCell]; first | done | omega))) only [Hand.q1, nx]; rfl)
    have vS : V.heap[w.heap.size + 1 + 1 + 1 + 1]? = some (stp e3) := by rw [hV]; simp (disch := (first | omega | (simp only [World.size_alloc, World.size_drew, World.size_setCell]; first | done | omega))) only [Hand.q2, Hand.q4, hx_w6]
    have vR : V.heap[w.heap.size + 1 + 1 + 1]? = some (.cells #[.int .i64 0, .int .i64 0] 31 (0, 0)) := by rw [hV]; simp (disch := (first | omega | (simp only [World.size_alloc, World.size_drew, World.size_setCell]; first | done | omega))) only [Hand.q2, Hand.q4, gR6]
    have vB : Below w.heap.size w V := by rw [hV]; repeat (with_reducible first | exact hB6 | refine Below.setCell ?_ (by dsimp only; omega) _ | refine Below.alloc ?_ (by (first | omega | (simp only [World.size_alloc, World.size_drew, World.size_setCell]; first | done | omega))) _)
    have n1 : w.heap.size + 5 ≤ w6.heap.size := by omega
    have HVX := Lib.hid vX
    have HVS := Lib.hid vS
    have HVR := Lib.hid vR
    have HVB := Lib.hid vB
    obtain ⟨gx, hgx⟩ : ∃ gx, gx = w6.heap.size := ⟨_, rfl⟩
    rw [← hgx] at n1 HVX ⊢
    exact REST.out gx V n1 HVX.out HVS.out HVR.out HVB.out
  · have gR6 := BB.kb gR (by omega)
    have hB6 : Below w.heap.size w w6 := BB.below hBW (by omega) hBW.size
    have rz := (Hand.hz gR6).1
    have szz := (Hand.hz hx_w6).1
    obtain ⟨V, hV⟩ : ∃ V_, V_ = (w6.setCell ⟨w5.heap.size, 0, none⟩ (.int .i64 z1)).setCell ⟨w5.heap.size, 1, none⟩ (.int .i64 z2) := ⟨_, rfl⟩
    rw [← hV]
    have vX : V.heap[w5.heap.size]? = some (.cells #[.int .i64 z1, .int .i64 z2] 31 (0, 0)) := by rw [hV]; first | exact Hand.q3 _ _ _ rfl | (simp (disch := (first | omega | (simp only [World.size_alloc, World.size_drew, World.size_setCell]; first | done | omega))) only [Hand.q1, nx]; rfl)
    have vS : V.heap[w.heap.size + 1 + 1 + 1 + 1]? = some (stp e3) := by rw [hV]; simp (disch := (first | omega | (simp only [World.size_alloc, World.size_drew, World.size_setCell]; first | done | omega))) only [Hand.q2, Hand.q4, hx_w6]
    have vR : V.heap[w.heap.size + 1 + 1 + 1]? = some (.cells #[.int .i64 0, .int .i64 0] 31 (0, 0)) := by rw [hV]; simp (disch := (first | omega | (simp only [World.size_alloc, World.size_drew, World.size_setCell]; first | done | omega))) only [Hand.q2, Hand.q4, gR6]
    have vB : Below w.heap.size w V := by rw [hV]; repeat (with_reducible first | exact hB6 | refine Below.setCell ?_ (by dsimp only; omega) _ | refine Below.alloc ?_ (by (first | omega | (simp only [World.size_alloc, World.size_drew, World.size_setCell]; first | done | omega))) _)
    have n1 : w.heap.size + 5 ≤ w5.heap.size := by omega
    have HVX := Lib.hid vX
    have HVS := Lib.hid vS
    have HVR := Lib.hid vR
    have HVB := Lib.hid vB
    obtain ⟨gx, hgx⟩ : ∃ gx, gx = w5.heap.size := ⟨_, rfl⟩
    rw [← hgx] at n1 HVX ⊢
    exact REST.out gx V n1 HVX.out HVS.out HVR.out HVB.out
  · have gR6 := BB.kb gR (by omega)
    have hB6 : Below w.heap.size w w6 := BB.below hBW (by omega) hBW.size
    have rz := (Hand.hz gR6).1
    have szz := (Hand.hz hx_w6).1
    obtain ⟨V, hV⟩ : ∃ V_, V_ = (w6.setCell ⟨w4.heap.size, 0, none⟩ (.int .i64 z1)).setCell ⟨w4.heap.size, 1, none⟩ (.int .i64 z2) := ⟨_, rfl⟩
    rw [← hV]
    have vX : V.heap[w4.heap.size]? = some (.cells #[.int .i64 z1, .int .i64 z2] 31 (0, 0)) := by rw [hV]; first | exact Hand.q3 _ _ _ rfl | (simp (disch := (first | omega | (simp only [World.size_alloc, World.size_drew, World.size_setCell]; first | done | omega))) only [Hand.q1, nx]; rfl)
    have vS : V.heap[w.heap.size + 1 + 1 + 1 + 1]? = some (stp e3) := by rw [hV]; simp (disch := (first | omega | (simp only [World.size_alloc, World.size_drew, World.size_setCell]; first | done | omega))) only [Hand.q2, Hand.q4, hx_w6]
    have vR : V.heap[w.heap.size + 1 + 1 + 1]? = some (.cells #[.int .i64 0, .int .i64 0] 31 (0, 0)) := by rw [hV]; simp (disch := (first | omega | (simp only [World.size_alloc, World.size_drew, World.size_setCell]; first | done | omega))) only [Hand.q2, Hand.q4, gR6]
    have vB : Below w.heap.size w V := by rw [hV]; repeat (with_reducible first | exact hB6 | refine Below.setCell ?_ (by dsimp only; omega) _ | refine Below.alloc ?_ (by (first | omega | (simp only [World.size_alloc, World.size_drew, World.size_setCell]; first | done | omega))) _)
    have n1 : w.heap.size + 5 ≤ w4.heap.size := by omega
    have HVX := Lib.hid vX
    have HVS := Lib.hid vS
    have HVR := Lib.hid vR
    have HVB := Lib.hid vB
    obtain ⟨gx, hgx⟩ : ∃ gx, gx = w4.heap.size := ⟨_, rfl⟩
    rw [← hgx] at n1 HVX ⊢
    exact REST.out gx V n1 HVX.out HVS.out HVR.out HVB.out
  · have gR6 := BB.kb gR (by omega)
    have hB6 : Below w.heap.size w w6 := BB.below hBW (by omega) hBW.size
    have rz := (Hand.hz gR6).1
    have szz := (Hand.hz hx_w6).1
    obtain ⟨V, hV⟩ : ∃ V_, V_ = (w6.setCell ⟨W.heap.size, 0, none⟩ (.int .i64 z1)).setCell ⟨W.heap.size, 1, none⟩ (.int .i64 z2) := ⟨_, rfl⟩
    rw [← hV]
    have vX : V.heap[W.heap.size]? = some (.cells #[.int .i64 z1, .int .i64 z2] 31 (0, 0)) := by rw [hV]; first | exact Hand.q3 _ _ _ rfl | (simp (disch := (first | omega | (simp only [World.size_alloc, World.size_drew, World.size_setCell]; first | done | omega))) only [Hand.q1, nx]; rfl)
    have vS : V.heap[w.heap.size + 1 + 1 + 1 + 1]? = some (stp e3) := by rw [hV]; simp (disch := (first | omega | (simp only [World.size_alloc, World.size_drew, World.size_setCell]; first | done | omega))) only [Hand.q2, Hand.q4, hx_w6]
    have vR : V.heap[w.heap.size + 1 + 1 + 1]? = some (.cells #[.int .i64 0, .int .i64 0] 31 (0, 0)) := by rw [hV]; simp (disch := (first | omega | (simp only [World.size_alloc, World.size_drew, World.size_setCell]; first | done | omega))) only [Hand.q2, Hand.q4, gR6]
    have vB : Below w.heap.size w V := by rw [hV]; repeat (with_reducible first | exact hB6 | refine Below.setCell ?_ (by dsimp only; omega) _ | refine Below.alloc ?_ (by (first | omega | (simp only [World.size_alloc, World.size_drew, World.size_setCell]; first | done | omega))) _)
    have n1 : w.heap.size + 5 ≤ W.heap.size := by omega
    have HVX := Lib.hid vX
    have HVS := Lib.hid vS
    have HVR := Lib.hid vR
    have HVB := Lib.hid vB
    obtain ⟨gx, hgx⟩ : ∃ gx, gx = W.heap.size := ⟨_, rfl⟩
    rw [← hgx] at n1 HVX ⊢
    exact REST.out gx V n1 HVX.out HVS.out HVR.out HVB.out
set_option maxHeartbeats 1600000 in
set_option maxRecDepth 100000 in
theorem back_of (k1 k2 o1 o2 s1 s2 t1 t2 x1 x2 y1 y2 z1 z2 e1 e2 e3 : Int) (w : World)
    (m1 : ∀ g w, w.heap[g]? = some (stp 0) → Calls Try.prog 42 #[.pointer (some ⟨g, 0, none⟩), fnv 43, .agg #[.int .i64 t1, .int .i64 t2], .agg #[.int .i64 o1, .int .i64 o2]] w fun e_ w' => e_ = .returned (.agg #[.int .i64 x1, .int .i64 x2]) ∧ w'.heap[g]? = some (stp e1) ∧ Fx g w w')
    (m2 : ∀ g w, w.heap[g]? = some (stp e1) → Calls Try.prog 42 #[.pointer (some ⟨g, 0, none⟩), fnv 63, .agg #[.int .i64 x1, .int .i64 x2], .agg #[.int .i64 s1, .int .i64 s2]] w fun e_ w' => e_ = .returned (.agg #[.int .i64 y1, .int .i64 y2]) ∧ w'.heap[g]? = some (stp e2) ∧ Fx g w w')
    (m3 : ∀ g w, w.heap[g]? = some (stp e2) → Calls Try.prog 42 #[.pointer (some ⟨g, 0, none⟩), fnv 44, .agg #[.int .i64 k1, .int .i64 k2], .agg #[.int .i64 y1, .int .i64 y2]] w fun e_ w' => e_ = .returned (.agg #[.int .i64 z1, .int .i64 z2]) ∧ w'.heap[g]? = some (stp e3) ∧ Fx g w w') :
    Calls Try.prog 69 #[.agg #[.int .i64 k1, .int .i64 k2, .int .i64 o1, .int .i64 o2], .agg #[.int .i64 s1, .int .i64 s2], .agg #[.int .i64 t1, .int .i64 t2]] w fun e w' => e = .returned (.tuple #[.agg #[.int .i64 z1, .int .i64 z2], .int .i64 e3]) ∧ Below w.heap.size w w' := by
  have M1 := Lib.hid m1
  have M2 := Lib.hid m2
  have M3 := Lib.hid m3
  clear m1 m2 m3
  go_enter Try.func69, Try.ntmps69
  go_wp2_with fail
  obtain ⟨W, hW⟩ : ∃ W_, W_ = (((((w.alloc (.cells #[.int .i64 k1, .int .i64 k2, .int .i64 o1, .int .i64 o2] 35)).alloc (.cells #[.int .i64 s1, .int .i64 s2] 31)).alloc (.cells #[.int .i64 t1, .int .i64 t2] 31)).alloc (.cells #[.int .i64 0, .int .i64 0] 31)).alloc (.cells #[.int .i64 0] 72)) := ⟨_, rfl⟩
  rw [← hW]
  have gK : W.heap[w.heap.size]? = some (.cells #[.int .i64 k1, .int .i64 k2, .int .i64 o1, .int .i64 o2] 35 (0, 0)) := by rw [hW]; simp (disch := (first | omega | (simp only [World.size_alloc, World.size_drew, World.size_setCell]; first | done | omega))) only [Hand.q4, Hand.q3]
  have gL : W.heap[w.heap.size + 1]? = some (.cells #[.int .i64 s1, .int .i64 s2] 31 (0, 0)) := by rw [hW]; simp (disch := (first | omega | (simp only [World.size_alloc, World.size_drew, World.size_setCell]; first | done | omega))) only [Hand.q4, Hand.q3]
  have gT : W.heap[w.heap.size + 1 + 1]? = some (.cells #[.int .i64 t1, .int .i64 t2] 31 (0, 0)) := by rw [hW]; simp (disch := (first | omega | (simp only [World.size_alloc, World.size_drew, World.size_setCell]; first | done | omega))) only [Hand.q4, Hand.q3]
  have gR : W.heap[w.heap.size + 1 + 1 + 1]? = some (.cells #[.int .i64 0, .int .i64 0] 31 (0, 0)) := by rw [hW]; simp (disch := (first | omega | (simp only [World.size_alloc, World.size_drew, World.size_setCell]; first | done | omega))) only [Hand.q4, Hand.q3]
  have gS : W.heap[w.heap.size + 1 + 1 + 1 + 1]? = some (stp 0) := by rw [hW]; simp (disch := (first | omega | (simp only [World.size_alloc, World.size_drew, World.size_setCell]; first | done | omega))) only [Hand.q4, Hand.q3]
  have hBW : Below w.heap.size w W := by rw [hW]; repeat (first | exact Below.refl _ _ | refine Below.alloc ?_ (by (first | omega | (simp only [World.size_alloc, World.size_drew, World.size_setCell]; first | done | omega))) _)
  have hsz : w.heap.size + 5 ≤ W.heap.size := by rw [hW]; simp only [World.size_alloc]; omega
  clear hW
  obtain ⟨c_K_0, f_K_0, c_K_1, f_K_1, c_K_2, f_K_2, c_K_3, f_K_3⟩ := Hand.hc4 gK
  obtain ⟨c_L_0, f_L_0, c_L_1, f_L_1⟩ := Hand.hc2 gL
  obtain ⟨c_T_0, f_T_0, c_T_1, f_T_1⟩ := Hand.hc2 gT
  have HKEEP := Lib.hid (fun (w_ : World) (h : Fx (w.heap.size + 1 + 1 + 1 + 1) W w_) => (⟨h, (h.cell _ (by dsimp only; omega) (by dsimp only; omega)).trans c_K_0, (h.cell _ (by dsimp only; omega) (by dsimp only; omega)).trans c_K_1, (h.cell _ (by dsimp only; omega) (by dsimp only; omega)).trans c_K_2, (h.cell _ (by dsimp only; omega) (by dsimp only; omega)).trans c_K_3, (h.cell _ (by dsimp only; omega) (by dsimp only; omega)).trans c_L_0, (h.cell _ (by dsimp only; omega) (by dsimp only; omega)).trans c_L_1, (h.cell _ (by dsimp only; omega) (by dsimp only; omega)).trans c_T_0, (h.cell _ (by dsimp only; omega) (by dsimp only; omega)).trans c_T_1⟩ : (Fx (w.heap.size + 1 + 1 + 1 + 1) W w_ ∧ w_.cell? ⟨w.heap.size, 0, none⟩ = some (.int .i64 k1) ∧ w_.cell? ⟨w.heap.size, 1, none⟩ = some (.int .i64 k2) ∧ w_.cell? ⟨w.heap.size, 2, none⟩ = some (.int .i64 o1) ∧ w_.cell? ⟨w.heap.size, 3, none⟩ = some (.int .i64 o2) ∧ w_.cell? ⟨w.heap.size + 1, 0, none⟩ = some (.int .i64 s1) ∧ w_.cell? ⟨w.heap.size + 1, 1, none⟩ = some (.int .i64 s2) ∧ w_.cell? ⟨w.heap.size + 1 + 1, 0, none⟩ = some (.int .i64 t1) ∧ w_.cell? ⟨w.heap.size + 1 + 1, 1, none⟩ = some (.int .i64 t2))))
  have BR : Fx (w.heap.size + 1 + 1 + 1 + 1) W W := Fx.refl _ _
  refine Hand.wp_cut (fun PP hPP => ?_)
  have rest : ∀ (gx : Nat) (V : World), w.heap.size + 5 ≤ gx → V.heap[gx]? = some (.cells #[.int .i64 z1, .int .i64 z2] 31 (0, 0)) → V.heap[w.heap.size + 1 + 1 + 1 + 1]? = some (stp e3) → V.heap[w.heap.size + 1 + 1 + 1]? = some (.cells #[.int .i64 0, .int .i64 0] 31 (0, 0)) → Below w.heap.size w V → PP .normal ⟨#[.agg #[.int .i64 k1, .int .i64 k2, .int .i64 o1, .int .i64 o2], .agg #[.int .i64 s1, .int .i64 s2], .agg #[.int .i64 t1, .int .i64 t2], .pointer (some ⟨w.heap.size, 0, none⟩), .pointer (some ⟨w.heap.size + 1, 0, none⟩), .pointer (some ⟨w.heap.size + 1 + 1, 0, none⟩), .pointer (some ⟨w.heap.size + 1 + 1 + 1, 0, none⟩), .int .i64 0, .pointer (some ⟨w.heap.size + 1 + 1 + 1 + 1, 0, none⟩), .pointer (some ⟨gx, 0, none⟩), .pointer (some ⟨w.heap.size, 0, none⟩), .agg #[.int .i64 k1, .int .i64 k2], .agg #[.int .i64 t1, .int .i64 t2], .pointer (some ⟨w.heap.size, 2, none⟩), .agg #[.int .i64 o1, .int .i64 o2], .agg #[.int .i64 x1, .int .i64 x2], .agg #[.int .i64 s1, .int .i64 s2], .agg #[.int .i64 y1, .int .i64 y2], .agg #[.int .i64 z1, .int .i64 z2], undef, undef, undef], []⟩ V := by
    intro gx V n1 vX vS vR vB
    rw [hPP]
    obtain ⟨u0, f0, u1, f1⟩ := Hand.hc2 vX
    obtain ⟨cs, fs⟩ := Hand.hc1 vS
    obtain ⟨r0, fr0, r1, fr1⟩ := Hand.hc2 vR
    have rz := (Hand.hz vR).1
    have q1 : (gx = w.heap.size + 1 + 1 + 1) = False := eq_false (by omega)
    have q2 : (w.heap.size + 1 + 1 + 1 = gx) = False := eq_false (by omega)
    have q3 : (gx = w.heap.size + 1 + 1 + 1 + 1) = False := eq_false (by omega)
    have q4 : (w.heap.size + 1 + 1 + 1 + 1 = gx) = False := eq_false (by omega)
    have HVR := Lib.hid vR
    have HVB := Lib.hid vB
    clear vX vS vR vB
    go_wp2
    go_region_held3 (fun w_ => w_.cell? ⟨gx, 0, none⟩ = some (.int .i64 z1) ∧ w_.cell? ⟨gx, 1, none⟩ = some (.int .i64 z2) ∧ w_.cell? ⟨w.heap.size + 1 + 1 + 1 + 1, 0, none⟩ = some (.int .i64 e3)) (first | exact ⟨u0, u1, cs⟩ | go_keep) (first | fail)
    go_wp2
    refine bodyPost_ret (results_ct rfl _ _ (w.heap.size + 1 + 1 + 1) 31 #[.int .i64 z1, .int .i64 z2] (0, 0) _ rfl ?_ Try.underlying31 rfl (by kernel_rfl)) rfl ⟨rfl, ?_⟩
    · simp (disch := (first | omega | (simp only [World.size_alloc, World.size_drew, World.size_setCell]; first | done | omega))) only [Hand.q5, Hand.q1, HVR.out]; rfl
    · repeat (with_reducible first | exact HVB.out | apply Below.drew | refine Below.setCell ?_ (by dsimp only; omega) _)
  have REST := Lib.hid rest
  clear rest
  go_region_held3 (fun w_ => Fx (w.heap.size + 1 + 1 + 1 + 1) W w_ ∧ w_.cell? ⟨w.heap.size, 0, none⟩ = some (.int .i64 k1) ∧ w_.cell? ⟨w.heap.size, 1, none⟩ = some (.int .i64 k2) ∧ w_.cell? ⟨w.heap.size, 2, none⟩ = some (.int .i64 o1) ∧ w_.cell? ⟨w.heap.size, 3, none⟩ = some (.int .i64 o2) ∧ w_.cell? ⟨w.heap.size + 1, 0, none⟩ = some (.int .i64 s1) ∧ w_.cell? ⟨w.heap.size + 1, 1, none⟩ = some (.int .i64 s2) ∧ w_.cell? ⟨w.heap.size + 1 + 1, 0, none⟩ = some (.int .i64 t1) ∧ w_.cell? ⟨w.heap.size + 1 + 1, 1, none⟩ = some (.int .i64 t2)) (first | (refine HKEEP.out _ ?_; repeat (with_reducible first | assumption | apply Fx.drew | apply Fx.alloc | refine Fx.setNew ?_ (by first | omega | (simp only [World.size_alloc, World.size_drew]; omega)) _ _))) (first | (go_at_call 42; ((with_reducible refine (M1.out _ _ (by first | assumption | (simp (disch := (first | omega | (simp only [World.size_alloc, World.size_drew, World.size_setCell]; first | done | omega))) only [Hand.q5, Hand.q4]; assumption))).mono ?_); rintro e w4 ⟨rfl, hx_w4, hF_w4⟩; have BB : Fx (w.heap.size + 1 + 1 + 1 + 1) W w4 := Fx.trans (by repeat (with_reducible first | assumption | apply Fx.drew | apply Fx.alloc | refine Fx.setNew ?_ (by first | omega | (simp only [World.size_alloc, World.size_drew]; omega)) _ _)) hF_w4; have zB_w4 := BB.size; obtain ⟨cs, fs⟩ := Hand.hc1 hx_w4; obtain ⟨sz0, sz1, sz2, sy0, sy1⟩ := Hand.hz hx_w4; (try (have nx := hF_w4.kb (k := W.heap.size) (o := .cells #[.int .i64 0, .int .i64 0] 31 (0, 0)) (by first | assumption | (simp (disch := (first | omega | (simp only [World.size_alloc, World.size_drew, World.size_setCell]; first | done | omega))) only [Hand.q5, Hand.q4, Hand.q3]; done) | (simp (disch := (first | omega | (simp only [World.size_alloc, World.size_drew, World.size_setCell]; first | done | omega))) only [Hand.q5, Hand.q4]; assumption)) (by omega); obtain ⟨nc0, nf0, nc1, nf1⟩ := Hand.hc2 nx; obtain ⟨nz0, nz1, nz2, ny0, ny1⟩ := Hand.hz nx; have ne1 : (W.heap.size = w.heap.size + 1 + 1 + 1 + 1) = False := eq_false (by omega); have ne2 : (w.heap.size + 1 + 1 + 1 + 1 = W.heap.size) = False := eq_false (by omega))))) | (go_at_call 42; ((with_reducible refine (M2.out _ _ (by first | assumption | (simp (disch := (first | omega | (simp only [World.size_alloc, World.size_drew, World.size_setCell]; first | done | omega))) only [Hand.q5, Hand.q4]; assumption))).mono ?_); rintro e w5 ⟨rfl, hx_w5, hF_w5⟩; have BB : Fx (w.heap.size + 1 + 1 + 1 + 1) W w5 := Fx.trans (by repeat (with_reducible first | assumption | apply Fx.drew | apply Fx.alloc | refine Fx.setNew ?_ (by first | omega | (simp only [World.size_alloc, World.size_drew]; omega)) _ _)) hF_w5; have zB_w5 := BB.size; obtain ⟨cs, fs⟩ := Hand.hc1 hx_w5; obtain ⟨sz0, sz1, sz2, sy0, sy1⟩ := Hand.hz hx_w5; (try (have nx := hF_w5.kb (k := W.heap.size) (o := .cells #[.int .i64 0, .int .i64 0] 31 (0, 0)) (by first | assumption | (simp (disch := (first | omega | (simp only [World.size_alloc, World.size_drew, World.size_setCell]; first | done | omega))) only [Hand.q5, Hand.q4, Hand.q3]; done) | (simp (disch := (first | omega | (simp only [World.size_alloc, World.size_drew, World.size_setCell]; first | done | omega))) only [Hand.q5, Hand.q4]; assumption)) (by omega); obtain ⟨nc0, nf0, nc1, nf1⟩ := Hand.hc2 nx; obtain ⟨nz0, nz1, nz2, ny0, ny1⟩ := Hand.hz nx; have ne1 : (W.heap.size = w.heap.size + 1 + 1 + 1 + 1) = False := eq_false (by omega); have ne2 : (w.heap.size + 1 + 1 + 1 + 1 = W.heap.size) = False := eq_false (by omega))); (try (have nx := hF_w5.kb (k := w4.heap.size) (o := .cells #[.int .i64 0, .int .i64 0] 31 (0, 0)) (by first | assumption | (simp (disch := (first | omega | (simp only [World.size_alloc, World.size_drew, World.size_setCell]; first | done | omega))) only [Hand.q5, Hand.q4, Hand.q3]; done) | (simp (disch := (first | omega | (simp only [World.size_alloc, World.size_drew, World.size_setCell]; first | done | omega))) only [Hand.q5, Hand.q4]; assumption)) (by omega); obtain ⟨nc0, nf0, nc1, nf1⟩ := Hand.hc2 nx; obtain ⟨nz0, nz1, nz2, ny0, ny1⟩ := Hand.hz nx; have ne1 : (w4.heap.size = w.heap.size + 1 + 1 + 1 + 1) = False := eq_false (by omega); have ne2 : (w.heap.size + 1 + 1 + 1 + 1 = w4.heap.size) = False := eq_false (by omega))))) | (go_at_call 42; ((with_reducible refine (M3.out _ _ (by first | assumption | (simp (disch := (first | omega | (simp only [World.size_alloc, World.size_drew, World.size_setCell]; first | done | omega))) only [Hand.q5, Hand.q4]; assumption))).mono ?_); rintro e w6 ⟨rfl, hx_w6, hF_w6⟩; have BB : Fx (w.heap.size + 1 + 1 + 1 + 1) W w6 := Fx.trans (by repeat (with_reducible first | assumption | apply Fx.drew | apply Fx.alloc | refine Fx.setNew ?_ (by first | omega | (simp only [World.size_alloc, World.size_drew]; omega)) _ _)) hF_w6; have zB_w6 := BB.size; obtain ⟨cs, fs⟩ := Hand.hc1 hx_w6; obtain ⟨sz0, sz1, sz2, sy0, sy1⟩ := Hand.hz hx_w6; (try (have nx := hF_w6.kb (k := W.heap.size) (o := .cells #[.int .i64 0, .int .i64 0] 31 (0, 0)) (by first | assumption | (simp (disch := (first | omega | (simp only [World.size_alloc, World.size_drew, World.size_setCell]; first | done | omega))) only [Hand.q5, Hand.q4, Hand.q3]; done) | (simp (disch := (first | omega | (simp only [World.size_alloc, World.size_drew, World.size_setCell]; first | done | omega))) only [Hand.q5, Hand.q4]; assumption)) (by omega); obtain ⟨nc0, nf0, nc1, nf1⟩ := Hand.hc2 nx; obtain ⟨nz0, nz1, nz2, ny0, ny1⟩ := Hand.hz nx; have ne1 : (W.heap.size = w.heap.size + 1 + 1 + 1 + 1) = False := eq_false (by omega); have ne2 : (w.heap.size + 1 + 1 + 1 + 1 = W.heap.size) = False := eq_false (by omega))); (try (have nx := hF_w6.kb (k := w4.heap.size) (o := .cells #[.int .i64 0, .int .i64 0] 31 (0, 0)) (by first | assumption | (simp (disch := (first | omega | (simp only [World.size_alloc, World.size_drew, World.size_setCell]; first | done | omega))) only [Hand.q5, Hand.q4, Hand.q3]; done) | (simp (disch := (first | omega | (simp only [World.size_alloc, World.size_drew, World.size_setCell]; first | done | omega))) only [Hand.q5, Hand.q4]; assumption)) (by omega); obtain ⟨nc0, nf0, nc1, nf1⟩ := Hand.hc2 nx; obtain ⟨nz0, nz1, nz2, ny0, ny1⟩ := Hand.hz nx; have ne1 : (w4.heap.size = w.heap.size + 1 + 1 + 1 + 1) = False := eq_false (by omega); have ne2 : (w.heap.size + 1 + 1 + 1 + 1 = w4.heap.size) = False := eq_false (by omega))); (try (have nx := hF_w6.kb (k := w5.heap.size) (o := .cells #[.int .i64 0, .int .i64 0] 31 (0, 0)) (by first | assumption | (simp (disch := (first | omega | (simp only [World.size_alloc, World.size_drew, World.size_setCell]; first | done | omega))) only [Hand.q5, Hand.q4, Hand.q3]; done) | (simp (disch := (first | omega | (simp only [World.size_alloc, World.size_drew, World.size_setCell]; first | done | omega))) only [Hand.q5, Hand.q4]; assumption)) (by omega); obtain ⟨nc0, nf0, nc1, nf1⟩ := Hand.hc2 nx; obtain ⟨nz0, nz1, nz2, ny0, ny1⟩ := Hand.hz nx; have ne1 : (w5.heap.size = w.heap.size + 1 + 1 + 1 + 1) = False := eq_false (by omega); have ne2 : (w.heap.size + 1 + 1 + 1 + 1 = w5.heap.size) = False := eq_false (by omega))))))
  · have gR6 := BB.kb gR (by omega)
    have hB6 : Below w.heap.size w w6 := BB.below hBW (by omega) hBW.size
    have rz := (Hand.hz gR6).1
    have szz := (Hand.hz hx_w6).1
    obtain ⟨V, hV⟩ : ∃ V_, V_ = w6.alloc (.cells #[.int .i64 z1, .int .i64 z2] 31) := ⟨_, rfl⟩
    rw [← hV]
    have vX : V.heap[w6.heap.size]? = some (.cells #[.int .i64 z1, .int .i64 z2] 31 (0, 0)) := by rw [hV]; first | exact Hand.q3 _ _ _ rfl | (simp (disch := (first | omega | (simp only [World.size_alloc, World.size_drew, World.size_setCell]; first | done | omega))) only [Hand.q1, nx]; rfl)
    have vS : V.heap[w.heap.size + 1 + 1 + 1 + 1]? = some (stp e3) := by rw [hV]; simp (disch := (first | omega | (simp only [World.size_alloc, World.size_drew, World.size_setCell]; first | done | omega))) only [Hand.q2, Hand.q4, hx_w6]
    have vR : V.heap[w.heap.size + 1 + 1 + 1]? = some (.cells #[.int .i64 0, .int .i64 0] 31 (0, 0)) := by rw [hV]; simp (disch := (first | omega | (simp only [World.size_alloc, World.size_drew, World.size_setCell]; first | done | omega))) only [Hand.q2, Hand.q4, gR6]
    have vB : Below w.heap.size w V := by rw [hV]; repeat (with_reducible first | exact hB6 | refine Below.setCell ?_ (by dsimp only; omega) _ | refine Below.alloc ?_ (by (first | omega | (simp only [World.size_alloc, World.size_drew, World.size_setCell]; first | done | omega))) _)
    have n1 : w.heap.size + 5 ≤ w6.heap.size := by omega
    have HVX := Lib.hid vX
    have HVS := Lib.hid vS
    have HVR := Lib.hid vR
    have HVB := Lib.hid vB
    obtain ⟨gx, hgx⟩ : ∃ gx, gx = w6.heap.size := ⟨_, rfl⟩
    rw [← hgx] at n1 HVX ⊢
    exact REST.out gx V n1 HVX.out HVS.out HVR.out HVB.out
  · have gR6 := BB.kb gR (by omega)
    have hB6 : Below w.heap.size w w6 := BB.below hBW (by omega) hBW.size
    have rz := (Hand.hz gR6).1
    have szz := (Hand.hz hx_w6).1
    obtain ⟨V, hV⟩ : ∃ V_, V_ = (w6.setCell ⟨w5.heap.size, 0, none⟩ (.int .i64 z1)).setCell ⟨w5.heap.size, 1, none⟩ (.int .i64 z2) := ⟨_, rfl⟩
    rw [← hV]
    have vX : V.heap[w5.heap.size]? = some (.cells #[.int .i64 z1, .int .i64 z2] 31 (0, 0)) := by rw [hV]; first | exact Hand.q3 _ _ _ rfl | (simp (disch := (first | omega | (simp only [World.size_alloc, World.size_drew, World.size_setCell]; first | done | omega))) only [Hand.q1, nx]; rfl)
    have vS : V.heap[w.heap.size + 1 + 1 + 1 + 1]? = some (stp e3) := by rw [hV]; simp (disch := (first | omega | (simp only [World.size_alloc, World.size_drew, World.size_setCell]; first | done | omega))) only [Hand.q2, Hand.q4, hx_w6]
    have vR : V.heap[w.heap.size + 1 + 1 + 1]? = some (.cells #[.int .i64 0, .int .i64 0] 31 (0, 0)) := by rw [hV]; simp (disch := (first | omega | (simp only [World.size_alloc, World.size_drew, World.size_setCell]; first | done | omega))) only [Hand.q2, Hand.q4, gR6]
    have vB : Below w.heap.size w V := by rw [hV]; repeat (with_reducible first | exact hB6 | refine Below.setCell ?_ (by dsimp only; omega) _ | refine Below.alloc ?_ (by (first | omega | (simp only [World.size_alloc, World.size_drew, World.size_setCell]; first | done | omega))) _)
    have n1 : w.heap.size + 5 ≤ w5.heap.size := by omega
    have HVX := Lib.hid vX
    have HVS := Lib.hid vS
    have HVR := Lib.hid vR
    have HVB := Lib.hid vB
    obtain ⟨gx, hgx⟩ : ∃ gx, gx = w5.heap.size := ⟨_, rfl⟩
    rw [← hgx] at n1 HVX ⊢
    exact REST.out gx V n1 HVX.out HVS.out HVR.out HVB.out
  · have gR6 := BB.kb gR (by omega)
    have hB6 : Below w.heap.size w w6 := BB.below hBW (by omega) hBW.size
    have rz := (Hand.hz gR6).1
    have szz := (Hand.hz hx_w6).1
    obtain ⟨V, hV⟩ : ∃ V_, V_ = (w6.setCell ⟨w4.heap.size, 0, none⟩ (.int .i64 z1)).setCell ⟨w4.heap.size, 1, none⟩ (.int .i64 z2) := ⟨_, rfl⟩
    rw [← hV]
    have vX : V.heap[w4.heap.size]? = some (.cells #[.int .i64 z1, .int .i64 z2] 31 (0, 0)) := by rw [hV]; first | exact Hand.q3 _ _ _ rfl | (simp (disch := (first | omega | (simp only [World.size_alloc, World.size_drew, World.size_setCell]; first | done | omega))) only [Hand.q1, nx]; rfl)
    have vS : V.heap[w.heap.size + 1 + 1 + 1 + 1]? = some (stp e3) := by rw [hV]; simp (disch := (first | omega | (simp only [World.size_alloc, World.size_drew, World.size_setCell]; first | done | omega))) only [Hand.q2, Hand.q4, hx_w6]
    have vR : V.heap[w.heap.size + 1 + 1 + 1]? = some (.cells #[.int .i64 0, .int .i64 0] 31 (0, 0)) := by rw [hV]; simp (disch := (first | omega | (simp only [World.size_alloc, World.size_drew, World.size_setCell]; first | done | omega))) only [Hand.q2, Hand.q4, gR6]
    have vB : Below w.heap.size w V := by rw [hV]; repeat (with_reducible first | exact hB6 | refine Below.setCell ?_ (by dsimp only; omega) _ | refine Below.alloc ?_ (by (first | omega | (simp only [World.size_alloc, World.size_drew, World.size_setCell]; first | done | omega))) _)
    have n1 : w.heap.size + 5 ≤ w4.heap.size := by omega
    have HVX := Lib.hid vX
    have HVS := Lib.hid vS
    have HVR := Lib.hid vR
    have HVB := Lib.hid vB
    obtain ⟨gx, hgx⟩ : ∃ gx, gx = w4.heap.size := ⟨_, rfl⟩
    rw [← hgx] at n1 HVX ⊢
    exact REST.out gx V n1 HVX.out HVS.out HVR.out HVB.out
  · have gR6 := BB.kb gR (by omega)
    have hB6 : Below w.heap.size w w6 := BB.below hBW (by omega) hBW.size
    have rz := (Hand.hz gR6).1
    have szz := (Hand.hz hx_w6).1
    obtain ⟨V, hV⟩ : ∃ V_, V_ = (w6.setCell ⟨W.heap.size, 0, none⟩ (.int .i64 z1)).setCell ⟨W.heap.size, 1, none⟩ (.int .i64 z2) := ⟨_, rfl⟩
    rw [← hV]
    have vX : V.heap[W.heap.size]? = some (.cells #[.int .i64 z1, .int .i64 z2] 31 (0, 0)) := by rw [hV]; first | exact Hand.q3 _ _ _ rfl | (simp (disch := (first | omega | (simp only [World.size_alloc, World.size_drew, World.size_setCell]; first | done | omega))) only [Hand.q1, nx]; rfl)
    have vS : V.heap[w.heap.size + 1 + 1 + 1 + 1]? = some (stp e3) := by rw [hV]; simp (disch := (first | omega | (simp only [World.size_alloc, World.size_drew, World.size_setCell]; first | done | omega))) only [Hand.q2, Hand.q4, hx_w6]
    have vR : V.heap[w.heap.size + 1 + 1 + 1]? = some (.cells #[.int .i64 0, .int .i64 0] 31 (0, 0)) := by rw [hV]; simp (disch := (first | omega | (simp only [World.size_alloc, World.size_drew, World.size_setCell]; first | done | omega))) only [Hand.q2, Hand.q4, gR6]
    have vB : Below w.heap.size w V := by rw [hV]; repeat (with_reducible first | exact hB6 | refine Below.setCell ?_ (by dsimp only; omega) _ | refine Below.alloc ?_ (by (first | omega | (simp only [World.size_alloc, World.size_drew, World.size_setCell]; first | done | omega))) _)
    have n1 : w.heap.size + 5 ≤ W.heap.size := by omega
    have HVX := Lib.hid vX
    have HVS := Lib.hid vS
    have HVR := Lib.hid vR
    have HVB := Lib.hid vB
    obtain ⟨gx, hgx⟩ : ∃ gx, gx = W.heap.size := ⟨_, rfl⟩
    rw [← hgx] at n1 HVX ⊢
    exact REST.out gx V n1 HVX.out HVS.out HVR.out HVB.out
theorem fit64 (neg : Bool) (n d : Nat) : -4611686018427387904 ≤ (fitS neg n d).1 ∧ (fitS neg n d).1 ≤ 4611686018427387904 ∧ 0 ≤ (fitS neg n d).2.1 ∧ (fitS neg n d).2.1 ≤ 2147483648 := by
  unfold fitS
  generalize n / Nat.gcd n d = p
  generalize d / Nat.gcd n d = q
  split
  · dsimp only; cases neg
    · rw [if_neg (by decide)]; omega
    · rw [if_pos rfl]; omega
  · decide
/-- within the range of a ratio's numbers, as they are held -/
structure R64 (r : Rt) : Prop where
  a0 : -9223372036854775808 ≤ r.1
  a1 : r.1 ≤ 9223372036854775807
  b0 : -9223372036854775808 ≤ r.2
  b1 : r.2 ≤ 9223372036854775807
theorem R64_0 : R64 ((0, 0) : Rt) := ⟨by decide, by decide, by decide, by decide⟩
theorem fit_R (neg : Bool) (n d : Nat) : R64 (t3 (fitS neg n d)).1 := by
  obtain ⟨a, b, c, d⟩ := fit64 neg n d
  exact ⟨by show _ ≤ (fitS _ _ _).1; omega, by show (fitS _ _ _).1 ≤ _; omega, by show _ ≤ (fitS _ _ _).2.1; omega, by show (fitS _ _ _).2.1 ≤ _; omega⟩
theorem add_R (a b : Rt) : R64 (rAdd a b).1 := by unfold rAdd addS; split; exact fit_R _ _ _; exact R64_0
theorem sub_R (a b : Rt) : R64 (rSub a b).1 := by unfold rSub subS; split; exact add_R a (-b.1, b.2); exact R64_0
theorem mul_R (a b : Rt) : R64 (rMul a b).1 := by unfold rMul mulS; split; exact fit_R _ _ _; exact R64_0
theorem div_R (a b : Rt) : R64 (rDiv a b).1 := by
  unfold rDiv divS
  split
  · split
    · exact R64_0
    · exact fit_R _ _ _
  · exact R64_0
theorem do_R {f : Rt → Rt → Rt × Int} (h : ∀ a b, R64 (f a b).1) (e : Int) (a b : Rt) : R64 (doS f e a b).1 := by unfold doS; split; exact h _ _; exact R64_0
theorem ent_add : Ent 44 := enters_of Try.func44 (by kernel_rfl) rfl
theorem ent_sub : Ent 43 := enters_of Try.func43 (by kernel_rfl) rfl
theorem ent_mul : Ent 80 := enters_of Try.func80 (by kernel_rfl) rfl
theorem ent_div : Ent 63 := enters_of Try.func63 (by kernel_rfl) rfl
theorem f_add {a b : Rt} (ha : R64 a) (hb : R64 b) : Rf 44 rAdd a b := fun w => addR_any a.1 a.2 b.1 b.2 w ha.a0 ha.a1 ha.b0 ha.b1 hb.a0 hb.a1 hb.b0 hb.b1
theorem f_sub {a b : Rt} (ha : R64 a) (hb : R64 b) : Rf 43 rSub a b := fun w => subR_any a.1 a.2 b.1 b.2 w ha.a0 ha.a1 ha.b0 ha.b1 hb.a0 hb.a1 hb.b0 hb.b1
theorem f_mul {a b : Rt} (ha : R64 a) (hb : R64 b) : Rf 80 rMul a b := fun w => mulR_any a.1 a.2 b.1 b.2 w ha.a0 ha.a1 ha.b0 ha.b1 hb.a0 hb.a1 hb.b0 hb.b1
theorem f_div {a b : Rt} (ha : R64 a) (hb : R64 b) : Rf 63 rDiv a b := fun w => divR_any a.1 a.2 b.1 b.2 w ha.a0 ha.a1 ha.b0 ha.b1 hb.a0 hb.a1 hb.b0 hb.b1
abbrev kv (k : Kn) : Value := .agg #[.int .i64 k.1.1, .int .i64 k.1.2, .int .i64 k.2.1, .int .i64 k.2.2]
theorem along_any (k : Kn) (s t : Rt) (w : World) (h1 : R64 k.1) (h2 : R64 k.2) (h3 : R64 s) (h4 : R64 t) :
    Calls Try.prog 40 #[kv k, rv s, rv t] w fun e w' => e = .returned (.tuple #[rv (alongS k s t).1, .int .i64 (alongS k s t).2]) ∧ Below w.heap.size w w' :=
  along_of _ _ _ _ _ _ _ _ _ _ _ _ _ _ _ _ _ w (fun g w hx => do_any g _ rSub 0 t k.1 w hx ent_sub (fun _ => f_sub h4 h1)) (fun g w hx => do_any g _ rMul _ _ s w hx ent_mul (fun _ => f_mul (sub_R _ _) h3)) (fun g w hx => do_any g _ rAdd _ k.2 _ w hx ent_add (fun _ => f_add h2 (do_R mul_R _ _ _)))
theorem back_any (k : Kn) (s t : Rt) (w : World) (h1 : R64 k.1) (h2 : R64 k.2) (h3 : R64 s) (h4 : R64 t) :
    Calls Try.prog 69 #[kv k, rv s, rv t] w fun e w' => e = .returned (.tuple #[rv (backS k s t).1, .int .i64 (backS k s t).2]) ∧ Below w.heap.size w w' :=
  back_of _ _ _ _ _ _ _ _ _ _ _ _ _ _ _ _ _ w (fun g w hx => do_any g _ rSub 0 t k.2 w hx ent_sub (fun _ => f_sub h4 h2)) (fun g w hx => do_any g _ rDiv _ _ s w hx ent_div (fun _ => f_div (sub_R _ _) h3)) (fun g w hx => do_any g _ rAdd _ k.1 _ w hx ent_add (fun _ => f_add h1 (do_R div_R _ _ _)))
end Go.Proofs.Ythlpaglldhgmfaa.PA
