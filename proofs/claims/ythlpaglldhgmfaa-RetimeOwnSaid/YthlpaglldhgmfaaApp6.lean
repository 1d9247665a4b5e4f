/- Chapter 6: Apply, Undo. -/
import Derived.Test.YthlpaglldhgmfaaPce6
namespace Go.Proofs.Ythlpaglldhgmfaa.PA
open Go Go.RowKit Go.Proofs.YthlpaglldhgmfaaW.PrintWords Go.Proofs.YthlpaglldhgmfaaW.PrintLast Go.Proofs.YthlpaglldhgmfaaW.PrintMore
set_option linter.unusedSimpArgs false
set_option linter.unusedVariables false
set_option maxHeartbeats 800000 in
set_option maxRecDepth 100000 in
theorem side_app (k : Kn) (w : World) : Calls Try.prog 47 #[kv k] w fun e w' => e = .returned (rv k.1) ∧ Below w.heap.size w w' := by
  go_enter Try.func47, Try.ntmps47
  go_wp2
  refine bodyPost_ret (results_cell_row rfl _ _ (w.heap.size + 1) 31 #[.int .i64 k.1.1, .int .i64 k.1.2] (0, 0) _ rfl (Hand.q3 _ _ _ (by simp)) Try.underlying31 rfl (by kernel_rfl)) rfl ⟨rfl, ?_⟩
  exact ((Below.refl _ _).alloc (Nat.le_refl _) _).alloc (by simp) _
theorem ent_app : Ent 47 := enters_of Try.func47 (by kernel_rfl) rfl
set_option maxHeartbeats 800000 in
set_option maxRecDepth 100000 in
theorem app_bad (p : Nat) (t : Rt) (w : World) (ht : R64 t) (htr : rRight t = false) :
    Calls Try.prog 15 #[.pointer (some ⟨p, 0, none⟩), rv t] w fun e w' => e = .returned (.tuple #[.agg #[.int .i64 0, .int .i64 0], .int .i64 12]) ∧ Below w.heap.size w w' := by
  have m1 := fun w => right_k t w ht
  rw [htr] at m1
  have M1 := Lib.hid m1
  clear m1
  go_enter Try.func15, Try.ntmps15
  go_wp2_with fail
  with_reducible refine (M1.out _).mono ?_
  rintro e w1 ⟨rfl, hb1⟩
  have h_T : w1.heap[w.heap.size]? = some (.cells #[.int .i64 t.1, .int .i64 t.2] 31 (0, 0)) := by
    refine Hand.kb hb1 ?_; simp (disch := first | omega | (simp only [Hand.sa, Hand.ss, Hand.sd, Hand.sn]; first | done | omega)) only [Hand.q2, Hand.q1, Hand.q5, Hand.q6, Hand.q4, Hand.q3] <;> rfl
  have h_R : w1.heap[w.heap.size + 1]? = some (.cells #[.int .i64 0, .int .i64 0] 31 (0, 0)) := by
    refine Hand.kb hb1 ?_; simp (disch := first | omega | (simp only [Hand.sa, Hand.ss, Hand.sd, Hand.sn]; first | done | omega)) only [Hand.q2, Hand.q1, Hand.q5, Hand.q6, Hand.q4, Hand.q3] <;> rfl
  have hB' : Below w.heap.size w w1 := Hand.stepB hb1 (by repeat (with_reducible first | apply Below.refl _ _ | apply Below.drew | apply pw_below_drewN | (apply Below.setCell; rotate_left; (dsimp only; omega)) | (apply Below.alloc; rotate_left; (first | omega | (simp only [Hand.sa, Hand.ss, Hand.sd, Hand.sn]; omega))))) (Nat.le_refl _)
  clear hb1
  have g_T := h_T
  have g_R := h_R
  have hB := hB'
  clear hB' h_T h_R
  obtain ⟨z_T, z1_T, z2_T, y0_T, y1_T⟩ := Hand.hz g_T
  obtain ⟨c_T_0, f_T_0, c_T_1, f_T_1⟩ := Hand.hc2 g_T
  obtain ⟨z_R, z1_R, z2_R, y0_R, y1_R⟩ := Hand.hz g_R
  obtain ⟨c_R_0, f_R_0, c_R_1, f_R_1⟩ := Hand.hc2 g_R
  have zw : w.heap.size ≤ w1.heap.size := hB.size
  have HG := Lib.hid (And.intro g_T (And.intro g_R (hB)))
  clear g_T g_R hB
  go_wp2
  obtain ⟨g_T, g_R, hB⟩ := HG.out
  refine bodyPost_ret (results_ct rfl _ _ (w.heap.size + 1) 31 #[.int .i64 0, .int .i64 0] (0, 0) _ rfl ?_ Try.underlying31 rfl (by kernel_rfl)) rfl ⟨rfl, ?_⟩
  · simp (disch := omega) only [Hand.q1, Hand.q2, g_R]; rfl
  · repeat (with_reducible first | exact hB | apply Below.drew | refine Below.setCell ?_ (by dsimp only; omega) _)
set_option maxHeartbeats 800000 in
set_option maxRecDepth 100000 in
theorem app_ok (p : Nat) (ak as_ : Addr) (ck cs : Nat) (m : MapV) (t : Rt) (w : World) (hm : MapA w p ak as_ ck cs m) (ho : MapOk m) (ht : R64 t) (htr : rRight t = true) (k : Kn) (s : Rt) (hk : m.knot (m.at (·.1) t) = k) (hs : m.slope (m.at (·.1) t) = s)
    (x y z : Int) (m3 : ∀ w, Calls Try.prog 40 #[kv k, rv s, rv t] w fun e w' => e = .returned (.tuple #[.agg #[.int .i64 x, .int .i64 y], .int .i64 z]) ∧ Below w.heap.size w w') :
    Calls Try.prog 15 #[.pointer (some ⟨p, 0, none⟩), rv t] w fun e w' => e = .returned (.tuple #[.agg #[.int .i64 x, .int .i64 y], .int .i64 z]) ∧ Below w.heap.size w w' := by
  have m1 := fun w => right_k t w ht
  rw [htr] at m1
  have M1 := Lib.hid m1
  have M3 := Lib.hid m3
  have PC := Lib.hid (fun (u : World) (h : Below w.heap.size w u) => (by have := piece_any p ak as_ ck cs m 47 (·.1) t u (hm.below h) ho ent_app side_app (fun k => Or.inl rfl) ht htr; rw [hk, hs] at this; exact this : Calls Try.prog 46 #[.pointer (some ⟨p, 0, none⟩), rv t, fnv 47] u fun e w' => e = .returned (.tuple #[kv k, rv s]) ∧ Below u.heap.size u w'))
  have HM := Lib.hid hm
  clear m1 m3 hm hk hs
  go_enter Try.func15, Try.ntmps15
  go_wp2_with fail
  with_reducible refine (M1.out _).mono ?_
  rintro e w1 ⟨rfl, hb1⟩
  have h_T : w1.heap[w.heap.size]? = some (.cells #[.int .i64 t.1, .int .i64 t.2] 31 (0, 0)) := by
    refine Hand.kb hb1 ?_; simp (disch := first | omega | (simp only [Hand.sa, Hand.ss, Hand.sd, Hand.sn]; first | done | omega)) only [Hand.q2, Hand.q1, Hand.q5, Hand.q6, Hand.q4, Hand.q3] <;> rfl
  have h_R : w1.heap[w.heap.size + 1]? = some (.cells #[.int .i64 0, .int .i64 0] 31 (0, 0)) := by
    refine Hand.kb hb1 ?_; simp (disch := first | omega | (simp only [Hand.sa, Hand.ss, Hand.sd, Hand.sn]; first | done | omega)) only [Hand.q2, Hand.q1, Hand.q5, Hand.q6, Hand.q4, Hand.q3] <;> rfl
  have hB' : Below w.heap.size w w1 := Hand.stepB hb1 (by repeat (with_reducible first | apply Below.refl _ _ | apply Below.drew | apply pw_below_drewN | (apply Below.setCell; rotate_left; (dsimp only; omega)) | (apply Below.alloc; rotate_left; (first | omega | (simp only [Hand.sa, Hand.ss, Hand.sd, Hand.sn]; omega))))) (Nat.le_refl _)
  clear hb1
  have g_T := h_T
  have g_R := h_R
  have hB := hB'
  clear hB' h_T h_R
  obtain ⟨z_T, z1_T, z2_T, y0_T, y1_T⟩ := Hand.hz g_T
  obtain ⟨c_T_0, f_T_0, c_T_1, f_T_1⟩ := Hand.hc2 g_T
  obtain ⟨z_R, z1_R, z2_R, y0_R, y1_R⟩ := Hand.hz g_R
  obtain ⟨c_R_0, f_R_0, c_R_1, f_R_1⟩ := Hand.hc2 g_R
  have zw : w.heap.size ≤ w1.heap.size := hB.size
  have HG := Lib.hid (And.intro g_T (And.intro g_R (hB)))
  clear g_T g_R hB
  go_wp2_with fail
  with_reducible refine (PC.out _ HG.out.2.2).mono ?_
  rintro e w2 ⟨rfl, hb2⟩
  obtain ⟨g_T, g_R, hB⟩ := HG.out
  have h_T : w2.heap[w.heap.size]? = some (.cells #[.int .i64 t.1, .int .i64 t.2] 31 (0, 0)) := by
    refine Hand.kb hb2 ?_; first | with_reducible exact g_T | (simp (disch := first | omega | (simp only [Hand.sa, Hand.ss, Hand.sd, Hand.sn]; first | done | omega)) only [Hand.q2, Hand.q1, Hand.q5, Hand.q6, Hand.q4, Hand.q3, g_T] <;> rfl)
  have h_R : w2.heap[w.heap.size + 1]? = some (.cells #[.int .i64 0, .int .i64 0] 31 (0, 0)) := by
    refine Hand.kb hb2 ?_; first | with_reducible exact g_R | (simp (disch := first | omega | (simp only [Hand.sa, Hand.ss, Hand.sd, Hand.sn]; first | done | omega)) only [Hand.q2, Hand.q1, Hand.q5, Hand.q6, Hand.q4, Hand.q3, g_R] <;> rfl)
  have hB' : Below w.heap.size w w2 := Hand.stepB hb2 (by repeat (with_reducible first | apply hB | apply Below.drew | apply pw_below_drewN | (apply Below.setCell; rotate_left; (dsimp only; omega)) | (apply Below.alloc; rotate_left; (first | omega | (simp only [Hand.sa, Hand.ss, Hand.sd, Hand.sn]; omega))))) (Nat.le_refl _)
  clear HG hB g_T g_R zw z_T z1_T z2_T y0_T y1_T c_T_0 f_T_0 c_T_1 f_T_1 z_R z1_R z2_R y0_R y1_R c_R_0 f_R_0 c_R_1 f_R_1
  clear hb2
  have g_T := h_T
  have g_R := h_R
  have hB := hB'
  clear hB' h_T h_R
  obtain ⟨z_T, z1_T, z2_T, y0_T, y1_T⟩ := Hand.hz g_T
  obtain ⟨c_T_0, f_T_0, c_T_1, f_T_1⟩ := Hand.hc2 g_T
  obtain ⟨z_R, z1_R, z2_R, y0_R, y1_R⟩ := Hand.hz g_R
  obtain ⟨c_R_0, f_R_0, c_R_1, f_R_1⟩ := Hand.hc2 g_R
  have zw : w.heap.size ≤ w2.heap.size := hB.size
  have HG := Lib.hid (And.intro g_T (And.intro g_R (hB)))
  clear g_T g_R hB
  go_wp2_with fail
  with_reducible refine (M3.out _).mono ?_
  rintro e w3 ⟨rfl, hb3⟩
  obtain ⟨g_T, g_R, hB⟩ := HG.out
  have h_T : w3.heap[w.heap.size]? = some (.cells #[.int .i64 t.1, .int .i64 t.2] 31 (0, 0)) := by
    refine Hand.kb hb3 ?_; first | with_reducible exact g_T | (simp (disch := first | omega | (simp only [Hand.sa, Hand.ss, Hand.sd, Hand.sn]; first | done | omega)) only [Hand.q2, Hand.q1, Hand.q5, Hand.q6, Hand.q4, Hand.q3, g_T] <;> rfl)
  have h_R : w3.heap[w.heap.size + 1]? = some (.cells #[.int .i64 0, .int .i64 0] 31 (0, 0)) := by
    refine Hand.kb hb3 ?_; first | with_reducible exact g_R | (simp (disch := first | omega | (simp only [Hand.sa, Hand.ss, Hand.sd, Hand.sn]; first | done | omega)) only [Hand.q2, Hand.q1, Hand.q5, Hand.q6, Hand.q4, Hand.q3, g_R] <;> rfl)
  have h_K : w3.heap[w2.heap.size]? = some (.cells #[.int .i64 k.1.1, .int .i64 k.1.2, .int .i64 k.2.1, .int .i64 k.2.2] 35 (0, 0)) := by
    refine Hand.kb hb3 ?_; simp (disch := first | omega | (simp only [Hand.sa, Hand.ss, Hand.sd, Hand.sn]; first | done | omega)) only [Hand.q2, Hand.q1, Hand.q5, Hand.q6, Hand.q4, Hand.q3] <;> rfl
  have h_L : w3.heap[w2.heap.size + 1]? = some (.cells #[.int .i64 s.1, .int .i64 s.2] 31 (0, 0)) := by
    refine Hand.kb hb3 ?_; simp (disch := first | omega | (simp only [Hand.sa, Hand.ss, Hand.sd, Hand.sn]; first | done | omega)) only [Hand.q2, Hand.q1, Hand.q5, Hand.q6, Hand.q4, Hand.q3] <;> rfl
  have hB' : Below w.heap.size w w3 := Hand.stepB hb3 (by repeat (with_reducible first | apply hB | apply Below.drew | apply pw_below_drewN | (apply Below.setCell; rotate_left; (dsimp only; omega)) | (apply Below.alloc; rotate_left; (first | omega | (simp only [Hand.sa, Hand.ss, Hand.sd, Hand.sn]; omega))))) (Nat.le_refl _)
  clear HG hB g_T g_R zw z_T z1_T z2_T y0_T y1_T c_T_0 f_T_0 c_T_1 f_T_1 z_R z1_R z2_R y0_R y1_R c_R_0 f_R_0 c_R_1 f_R_1
  clear hb3
  have g_T := h_T
  have g_R := h_R
  have g_K := h_K
  have g_L := h_L
  have hB := hB'
  clear hB' h_T h_R h_K h_L
  obtain ⟨z_T, z1_T, z2_T, y0_T, y1_T⟩ := Hand.hz g_T
  obtain ⟨c_T_0, f_T_0, c_T_1, f_T_1⟩ := Hand.hc2 g_T
  obtain ⟨z_R, z1_R, z2_R, y0_R, y1_R⟩ := Hand.hz g_R
  obtain ⟨c_R_0, f_R_0, c_R_1, f_R_1⟩ := Hand.hc2 g_R
  obtain ⟨z_K, z1_K, z2_K, y0_K, y1_K⟩ := Hand.hz g_K
  obtain ⟨c_K_0, f_K_0, c_K_1, f_K_1, c_K_2, f_K_2, c_K_3, f_K_3⟩ := Hand.hc4 g_K
  obtain ⟨z_L, z1_L, z2_L, y0_L, y1_L⟩ := Hand.hz g_L
  obtain ⟨c_L_0, f_L_0, c_L_1, f_L_1⟩ := Hand.hc2 g_L
  have zw : w.heap.size ≤ w3.heap.size := hB.size
  have HG := Lib.hid (And.intro g_T (And.intro g_R (And.intro g_K (And.intro g_L (hB)))))
  clear g_T g_R g_K g_L hB
  go_wp2
  obtain ⟨g_T, g_R, g_K, g_L, hB⟩ := HG.out
  refine bodyPost_ret (results_ct rfl _ _ (w.heap.size + 1) 31 #[.int .i64 x, .int .i64 y] (0, 0) _ rfl ?_ Try.underlying31 rfl (by kernel_rfl)) rfl ⟨rfl, ?_⟩
  · simp (disch := omega) only [Hand.q1, Hand.q2, g_R]; rfl
  · repeat (with_reducible first | exact hB | apply Below.drew | refine Below.setCell ?_ (by dsimp only; omega) _)
set_option maxHeartbeats 800000 in
set_option maxRecDepth 100000 in
theorem side_undo (k : Kn) (w : World) : Calls Try.prog 68 #[kv k] w fun e w' => e = .returned (rv k.2) ∧ Below w.heap.size w w' := by
  go_enter Try.func68, Try.ntmps68
  go_wp2
  refine bodyPost_ret (results_cell_row rfl _ _ (w.heap.size + 1) 31 #[.int .i64 k.2.1, .int .i64 k.2.2] (0, 0) _ rfl (Hand.q3 _ _ _ (by simp)) Try.underlying31 rfl (by kernel_rfl)) rfl ⟨rfl, ?_⟩
  exact ((Below.refl _ _).alloc (Nat.le_refl _) _).alloc (by simp) _
theorem ent_undo : Ent 68 := enters_of Try.func68 (by kernel_rfl) rfl
set_option maxHeartbeats 800000 in
set_option maxRecDepth 100000 in
theorem undo_bad (p : Nat) (t : Rt) (w : World) (ht : R64 t) (htr : rRight t = false) :
    Calls Try.prog 31 #[.pointer (some ⟨p, 0, none⟩), rv t] w fun e w' => e = .returned (.tuple #[.agg #[.int .i64 0, .int .i64 0], .int .i64 12]) ∧ Below w.heap.size w w' := by
  have m1 := fun w => right_k t w ht
  rw [htr] at m1
  have M1 := Lib.hid m1
  clear m1
  go_enter Try.func31, Try.ntmps31
  go_wp2_with fail
  with_reducible refine (M1.out _).mono ?_
  rintro e w1 ⟨rfl, hb1⟩
  have h_T : w1.heap[w.heap.size]? = some (.cells #[.int .i64 t.1, .int .i64 t.2] 31 (0, 0)) := by
    refine Hand.kb hb1 ?_; simp (disch := first | omega | (simp only [Hand.sa, Hand.ss, Hand.sd, Hand.sn]; first | done | omega)) only [Hand.q2, Hand.q1, Hand.q5, Hand.q6, Hand.q4, Hand.q3] <;> rfl
  have h_R : w1.heap[w.heap.size + 1]? = some (.cells #[.int .i64 0, .int .i64 0] 31 (0, 0)) := by
    refine Hand.kb hb1 ?_; simp (disch := first | omega | (simp only [Hand.sa, Hand.ss, Hand.sd, Hand.sn]; first | done | omega)) only [Hand.q2, Hand.q1, Hand.q5, Hand.q6, Hand.q4, Hand.q3] <;> rfl
  have hB' : Below w.heap.size w w1 := Hand.stepB hb1 (by repeat (with_reducible first | apply Below.refl _ _ | apply Below.drew | apply pw_below_drewN | (apply Below.setCell; rotate_left; (dsimp only; omega)) | (apply Below.alloc; rotate_left; (first | omega | (simp only [Hand.sa, Hand.ss, Hand.sd, Hand.sn]; omega))))) (Nat.le_refl _)
  clear hb1
  have g_T := h_T
  have g_R := h_R
  have hB := hB'
  clear hB' h_T h_R
  obtain ⟨z_T, z1_T, z2_T, y0_T, y1_T⟩ := Hand.hz g_T
  obtain ⟨c_T_0, f_T_0, c_T_1, f_T_1⟩ := Hand.hc2 g_T
  obtain ⟨z_R, z1_R, z2_R, y0_R, y1_R⟩ := Hand.hz g_R
  obtain ⟨c_R_0, f_R_0, c_R_1, f_R_1⟩ := Hand.hc2 g_R
  have zw : w.heap.size ≤ w1.heap.size := hB.size
  have HG := Lib.hid (And.intro g_T (And.intro g_R (hB)))
  clear g_T g_R hB
  go_wp2
  obtain ⟨g_T, g_R, hB⟩ := HG.out
  refine bodyPost_ret (results_ct rfl _ _ (w.heap.size + 1) 31 #[.int .i64 0, .int .i64 0] (0, 0) _ rfl ?_ Try.underlying31 rfl (by kernel_rfl)) rfl ⟨rfl, ?_⟩
  · simp (disch := omega) only [Hand.q1, Hand.q2, g_R]; rfl
  · repeat (with_reducible first | exact hB | apply Below.drew | refine Below.setCell ?_ (by dsimp only; omega) _)
set_option maxHeartbeats 800000 in
set_option maxRecDepth 100000 in
theorem undo_ok (p : Nat) (ak as_ : Addr) (ck cs : Nat) (m : MapV) (t : Rt) (w : World) (hm : MapA w p ak as_ ck cs m) (ho : MapOk m) (ht : R64 t) (htr : rRight t = true) (k : Kn) (s : Rt) (hk : m.knot (m.at (·.2) t) = k) (hs : m.slope (m.at (·.2) t) = s)
    (x y z : Int) (m3 : ∀ w, Calls Try.prog 69 #[kv k, rv s, rv t] w fun e w' => e = .returned (.tuple #[.agg #[.int .i64 x, .int .i64 y], .int .i64 z]) ∧ Below w.heap.size w w') :
    Calls Try.prog 31 #[.pointer (some ⟨p, 0, none⟩), rv t] w fun e w' => e = .returned (.tuple #[.agg #[.int .i64 x, .int .i64 y], .int .i64 z]) ∧ Below w.heap.size w w' := by
  have m1 := fun w => right_k t w ht
  rw [htr] at m1
  have M1 := Lib.hid m1
  have M3 := Lib.hid m3
  have PC := Lib.hid (fun (u : World) (h : Below w.heap.size w u) => (by have := piece_any p ak as_ ck cs m 68 (·.2) t u (hm.below h) ho ent_undo side_undo (fun k => Or.inr rfl) ht htr; rw [hk, hs] at this; exact this : Calls Try.prog 46 #[.pointer (some ⟨p, 0, none⟩), rv t, fnv 68] u fun e w' => e = .returned (.tuple #[kv k, rv s]) ∧ Below u.heap.size u w'))
  have HM := Lib.hid hm
  clear m1 m3 hm hk hs
  go_enter Try.func31, Try.ntmps31
  go_wp2_with fail
  with_reducible refine (M1.out _).mono ?_
  rintro e w1 ⟨rfl, hb1⟩
  have h_T : w1.heap[w.heap.size]? = some (.cells #[.int .i64 t.1, .int .i64 t.2] 31 (0, 0)) := by
    refine Hand.kb hb1 ?_; simp (disch := first | omega | (simp only [Hand.sa, Hand.ss, Hand.sd, Hand.sn]; first | done | omega)) only [Hand.q2, Hand.q1, Hand.q5, Hand.q6, Hand.q4, Hand.q3] <;> rfl
  have h_R : w1.heap[w.heap.size + 1]? = some (.cells #[.int .i64 0, .int .i64 0] 31 (0, 0)) := by
    refine Hand.kb hb1 ?_; simp (disch := first | omega | (simp only [Hand.sa, Hand.ss, Hand.sd, Hand.sn]; first | done | omega)) only [Hand.q2, Hand.q1, Hand.q5, Hand.q6, Hand.q4, Hand.q3] <;> rfl
  have hB' : Below w.heap.size w w1 := Hand.stepB hb1 (by repeat (with_reducible first | apply Below.refl _ _ | apply Below.drew | apply pw_below_drewN | (apply Below.setCell; rotate_left; (dsimp only; omega)) | (apply Below.alloc; rotate_left; (first | omega | (simp only [Hand.sa, Hand.ss, Hand.sd, Hand.sn]; omega))))) (Nat.le_refl _)
  clear hb1
  have g_T := h_T
  have g_R := h_R
  have hB := hB'
  clear hB' h_T h_R
  obtain ⟨z_T, z1_T, z2_T, y0_T, y1_T⟩ := Hand.hz g_T
  obtain ⟨c_T_0, f_T_0, c_T_1, f_T_1⟩ := Hand.hc2 g_T
  obtain ⟨z_R, z1_R, z2_R, y0_R, y1_R⟩ := Hand.hz g_R
  obtain ⟨c_R_0, f_R_0, c_R_1, f_R_1⟩ := Hand.hc2 g_R
  have zw : w.heap.size ≤ w1.heap.size := hB.size
  have HG := Lib.hid (And.intro g_T (And.intro g_R (hB)))
  clear g_T g_R hB
  go_wp2_with fail
  with_reducible refine (PC.out _ HG.out.2.2).mono ?_
  rintro e w2 ⟨rfl, hb2⟩
  obtain ⟨g_T, g_R, hB⟩ := HG.out
  have h_T : w2.heap[w.heap.size]? = some (.cells #[.int .i64 t.1, .int .i64 t.2] 31 (0, 0)) := by
    refine Hand.kb hb2 ?_; first | with_reducible exact g_T | (simp (disch := first | omega | (simp only [Hand.sa, Hand.ss, Hand.sd, Hand.sn]; first | done | omega)) only [Hand.q2, Hand.q1, Hand.q5, Hand.q6, Hand.q4, Hand.q3, g_T] <;> rfl)
  have h_R : w2.heap[w.heap.size + 1]? = some (.cells #[.int .i64 0, .int .i64 0] 31 (0, 0)) := by
    refine Hand.kb hb2 ?_; first | with_reducible exact g_R | (simp (disch := first | omega | (simp only [Hand.sa, Hand.ss, Hand.sd, Hand.sn]; first | done | omega)) only [Hand.q2, Hand.q1, Hand.q5, Hand.q6, Hand.q4, Hand.q3, g_R] <;> rfl)
  have hB' : Below w.heap.size w w2 := Hand.stepB hb2 (by repeat (with_reducible first | apply hB | apply Below.drew | apply pw_below_drewN | (apply Below.setCell; rotate_left; (dsimp only; omega)) | (apply Below.alloc; rotate_left; (first | omega | (simp only [Hand.sa, Hand.ss, Hand.sd, Hand.sn]; omega))))) (Nat.le_refl _)
  clear HG hB g_T g_R zw z_T z1_T z2_T y0_T y1_T c_T_0 f_T_0 c_T_1 f_T_1 z_R z1_R z2_R y0_R y1_R c_R_0 f_R_0 c_R_1 f_R_1
  clear hb2
  have g_T := h_T
  have g_R := h_R
  have hB := hB'
  clear hB' h_T h_R
  obtain ⟨z_T, z1_T, z2_T, y0_T, y1_T⟩ := Hand.hz g_T
  obtain ⟨c_T_0, f_T_0, c_T_1, f_T_1⟩ := Hand.hc2 g_T
  obtain ⟨z_R, z1_R, z2_R, y0_R, y1_R⟩ := Hand.hz g_R
  obtain ⟨c_R_0, f_R_0, c_R_1, f_R_1⟩ := Hand.hc2 g_R
  have zw : w.heap.size ≤ w2.heap.size := hB.size
  have HG := Lib.hid (And.intro g_T (And.intro g_R (hB)))
  clear g_T g_R hB
  go_wp2_with fail
  with_reducible refine (M3.out _).mono ?_
  rintro e w3 ⟨rfl, hb3⟩
  obtain ⟨g_T, g_R, hB⟩ := HG.out
  have h_T : w3.heap[w.heap.size]? = some (.cells #[.int .i64 t.1, .int .i64 t.2] 31 (0, 0)) := by
    refine Hand.kb hb3 ?_; first | with_reducible exact g_T | (simp (disch := first | omega | (simp only [Hand.sa, Hand.ss, Hand.sd, Hand.sn]; first | done | omega)) only [Hand.q2, Hand.q1, Hand.q5, Hand.q6, Hand.q4, Hand.q3, g_T] <;> rfl)
  have h_R : w3.heap[w.heap.size + 1]? = some (.cells #[.int .i64 0, .int .i64 0] 31 (0, 0)) := by
    refine Hand.kb hb3 ?_; first | with_reducible exact g_R | (simp (disch := first | omega | (simp only [Hand.sa, Hand.ss, Hand.sd, Hand.sn]; first | done | omega)) only [Hand.q2, Hand.q1, Hand.q5, Hand.q6, Hand.q4, Hand.q3, g_R] <;> rfl)
  have h_K : w3.heap[w2.heap.size]? = some (.cells #[.int .i64 k.1.1, .int .i64 k.1.2, .int .i64 k.2.1, .int .i64 k.2.2] 35 (0, 0)) := by
    refine Hand.kb hb3 ?_; simp (disch := first | omega | (simp only [Hand.sa, Hand.ss, Hand.sd, Hand.sn]; first | done | omega)) only [Hand.q2, Hand.q1, Hand.q5, Hand.q6, Hand.q4, Hand.q3] <;> rfl
  have h_L : w3.heap[w2.heap.size + 1]? = some (.cells #[.int .i64 s.1, .int .i64 s.2] 31 (0, 0)) := by
    refine Hand.kb hb3 ?_; simp (disch := first | omega | (simp only [Hand.sa, Hand.ss, Hand.sd, Hand.sn]; first | done | omega)) only [Hand.q2, Hand.q1, Hand.q5, Hand.q6, Hand.q4, Hand.q3] <;> rfl
  have hB' : Below w.heap.size w w3 := Hand.stepB hb3 (by repeat (with_reducible first | apply hB | apply Below.drew | apply pw_below_drewN | (apply Below.setCell; rotate_left; (dsimp only; omega)) | (apply Below.alloc; rotate_left; (first | omega | (simp only [Hand.sa, Hand.ss, Hand.sd, Hand.sn]; omega))))) (Nat.le_refl _)
  clear HG hB g_T g_R zw z_T z1_T z2_T y0_T y1_T c_T_0 f_T_0 c_T_1 f_T_1 z_R z1_R z2_R y0_R y1_R c_R_0 f_R_0 c_R_1 f_R_1
  clear hb3
  have g_T := h_T
  have g_R := h_R
  have g_K := h_K
  have g_L := h_L
  have hB := hB'
  clear hB' h_T h_R h_K h_L
  obtain ⟨z_T, z1_T, z2_T, y0_T, y1_T⟩ := Hand.hz g_T
  obtain ⟨c_T_0, f_T_0, c_T_1, f_T_1⟩ := Hand.hc2 g_T
  obtain ⟨z_R, z1_R, z2_R, y0_R, y1_R⟩ := Hand.hz g_R
  obtain ⟨c_R_0, f_R_0, c_R_1, f_R_1⟩ := Hand.hc2 g_R
  obtain ⟨z_K, z1_K, z2_K, y0_K, y1_K⟩ := Hand.hz g_K
  obtain ⟨c_K_0, f_K_0, c_K_1, f_K_1, c_K_2, f_K_2, c_K_3, f_K_3⟩ := Hand.hc4 g_K
  obtain ⟨z_L, z1_L, z2_L, y0_L, y1_L⟩ := Hand.hz g_L
  obtain ⟨c_L_0, f_L_0, c_L_1, f_L_1⟩ := Hand.hc2 g_L
  have zw : w.heap.size ≤ w3.heap.size := hB.size
  have HG := Lib.hid (And.intro g_T (And.intro g_R (And.intro g_K (And.intro g_L (hB)))))
  clear g_T g_R g_K g_L hB
  go_wp2
  obtain ⟨g_T, g_R, g_K, g_L, hB⟩ := HG.out
  refine bodyPost_ret (results_ct rfl _ _ (w.heap.size + 1) 31 #[.int .i64 x, .int .i64 y] (0, 0) _ rfl ?_ Try.underlying31 rfl (by kernel_rfl)) rfl ⟨rfl, ?_⟩
  · simp (disch := omega) only [Hand.q1, Hand.q2, g_R]; rfl
  · repeat (with_reducible first | exact hB | apply Below.drew | refine Below.setCell ?_ (by dsimp only; omega) _)
theorem app_ (m : MapV) (ho : MapOk m) (f : Kn → Rt) (t : Rt) : R64 (m.knot (m.at f t)).1 ∧ R64 (m.knot (m.at f t)).2 ∧ R64 (m.slope (m.at f t)) := by
  have hk : m.knot (m.at f t) ∈ m.knots := by
    have h := lastLe_le f t m.knots 0 0 (Nat.le_refl _) (.inl (by intro e; have := ho.k0; rw [e] at this; exact absurd this (Nat.lt_irrefl _)))
    unfold MapV.knot MapV.at
    rw [Nat.zero_add] at h
    rw [List.getD_eq_getElem?_getD, List.getElem?_eq_getElem h]
    exact List.getElem_mem h
  have hs : m.slope (m.at f t) ∈ m.slopes := by
    have h : min (m.at f t) (m.slopes.length - 1) < m.slopes.length := by have := ho.s0; omega
    unfold MapV.slope
    rw [List.getD_eq_getElem?_getD, List.getElem?_eq_getElem h]
    exact List.getElem_mem h
  exact ⟨(ho.kr _ hk).1, (ho.kr _ hk).2, ho.sr _ hs⟩
theorem app_any (p : Nat) (ak as_ : Addr) (ck cs : Nat) (m : MapV) (t : Rt) (w : World) (hm : MapA w p ak as_ ck cs m) (ho : MapOk m) (ht : R64 t) :
    Calls Try.prog 15 #[.pointer (some ⟨p, 0, none⟩), rv t] w fun e w' => e = .returned (.tuple #[rv (m.app t).1, .int .i64 (m.app t).2]) ∧ Below w.heap.size w w' := by
  obtain ⟨h1, h2, h3⟩ := app_ m ho (·.1) t
  unfold MapV.app
  cases h : rRight t
  · rw [if_neg (by decide)]; exact app_bad p t w ht h
  · rw [if_pos rfl]
    exact app_ok p ak as_ ck cs m t w hm ho ht h _ _ rfl rfl _ _ _ (fun w => along_any _ _ _ w h1 h2 h3 ht)
theorem undo_any (p : Nat) (ak as_ : Addr) (ck cs : Nat) (m : MapV) (t : Rt) (w : World) (hm : MapA w p ak as_ ck cs m) (ho : MapOk m) (ht : R64 t) :
    Calls Try.prog 31 #[.pointer (some ⟨p, 0, none⟩), rv t] w fun e w' => e = .returned (.tuple #[rv (m.undo t).1, .int .i64 (m.undo t).2]) ∧ Below w.heap.size w w' := by
  obtain ⟨h1, h2, h3⟩ := app_ m ho (·.2) t
  unfold MapV.undo
  cases h : rRight t
  · rw [if_neg (by decide)]; exact undo_bad p t w ht h
  · rw [if_pos rfl]
    exact undo_ok p ak as_ ck cs m t w hm ho ht h _ _ rfl rfl _ _ _ (fun w => back_any _ _ _ w h1 h2 h3 ht)
end Go.Proofs.Ythlpaglldhgmfaa.PA
