/- Chapter 6: New's closure: a knot at a time. -/
import Derived.Test.YthlpaglldhgmfaaNwC
namespace Go.Proofs.Ythlpaglldhgmfaa.PA
open Go Go.RowKit Go.Proofs.YthlpaglldhgmfaaW.PrintWords Go.Proofs.YthlpaglldhgmfaaW.PrintLast Go.Proofs.YthlpaglldhgmfaaW.PrintMore
set_option linter.unusedSimpArgs false
set_option linter.unusedVariables false
theorem ent_at : Ent 39 := enters_of Try.func39 (by kernel_rfl) rfl
set_option maxHeartbeats 800000 in
set_option maxRecDepth 100000 in
theorem at_no (g : Nat) (k : Kn) (s t : Rt) (e0 : Int) (w : World) (hx : w.heap[g]? = some (stp e0)) (he : (e0 == 0) = false) :
    Calls Try.prog 39 #[kv k, rv s, rv t, .pointer (some ⟨g, 0, none⟩)] w fun e w' => e = .returned (kv ((0, 0), (0, 0))) ∧ Below w.heap.size w w' := by
  obtain ⟨c0, f0⟩ := Hand.hc1 hx
  obtain ⟨z0, z1, z2, y0, y1⟩ := Hand.hz hx
  have y2 : (g = w.heap.size + 1 + 1) = False := eq_false (by omega)
  have y3 : (g = w.heap.size + 1 + 1 + 1) = False := eq_false (by omega)
  have he2 : (e0 != 0) = true := by simpa using he
  clear hx
  go_enter Try.func39, Try.ntmps39
  go_wp2
  refine bodyPost_ret (results_cell_row rfl _ _ (w.heap.size + 1 + 1 + 1) 35 #[.int .i64 0, .int .i64 0, .int .i64 0, .int .i64 0] (0, 0) _ rfl ?_ Try.underlying35 rfl (by kernel_rfl)) rfl ⟨rfl, ?_⟩
  · exact Hand.q3 _ _ _ (by simp)
  · exact ((((Below.refl _ _).alloc (Nat.le_refl _) _).alloc (by simp) _).alloc (by simp; omega) _).alloc (by simp; omega) _
set_option maxHeartbeats 800000 in
set_option maxRecDepth 100000 in
theorem at_yes (g : Nat) (k : Kn) (s t : Rt) (x y z : Int) (w : World) (hx : w.heap[g]? = some (stp 0))
    (m1 : ∀ w, Calls Try.prog 40 #[kv k, rv s, rv t] w fun e w' => e = .returned (.tuple #[.agg #[.int .i64 x, .int .i64 y], .int .i64 z]) ∧ Below w.heap.size w w') :
    Calls Try.prog 39 #[kv k, rv s, rv t, .pointer (some ⟨g, 0, none⟩)] w fun e w' => e = .returned (kv (t, (x, y))) ∧ w'.heap[g]? = some (stp z) ∧ Fx g w w' := by
  obtain ⟨c0, f0⟩ := Hand.hc1 hx
  obtain ⟨z0, z1, z2, y0, y1⟩ := Hand.hz hx
  have y2 : (g = w.heap.size + 1 + 1) = False := eq_false (by omega)
  have y3 : (g = w.heap.size + 1 + 1 + 1) = False := eq_false (by omega)
  have HX := Lib.hid hx
  have g_S := hx
  have hB := Below.refl w.heap.size w
  have M1 := Lib.hid m1
  clear hx m1 c0 f0 z0 z1 z2 y0 y1
  go_enter Try.func39, Try.ntmps39
  obtain ⟨z_S, z1_S, z2_S, y0_S, y1_S⟩ := Hand.hz g_S
  obtain ⟨c_S_0, f_S_0⟩ := Hand.hc1 g_S
  have zw : w.heap.size ≤ w.heap.size := hB.size
  have HG := Lib.hid (And.intro g_S (hB))
  clear g_S hB
  go_wp2_with fail
  with_reducible refine (M1.out _).mono ?_
  rintro e w1 ⟨rfl, hb1⟩
  obtain ⟨g_S, hB⟩ := HG.out
  have h_S : w1.heap[g]? = some (.cells #[.int .i64 0] 72 (0, 0)) := by
    refine Hand.kb hb1 ?_; first | with_reducible exact g_S | (simp (disch := first | omega | (simp only [Hand.sa, Hand.ss, Hand.sd, Hand.sn]; first | done | omega)) only [Hand.q2, Hand.q1, Hand.q5, Hand.q6, Hand.q4, Hand.q3, g_S] <;> rfl)
  have h_K : w1.heap[w.heap.size]? = some (.cells #[.int .i64 k.1.1, .int .i64 k.1.2, .int .i64 k.2.1, .int .i64 k.2.2] 35 (0, 0)) := by
    refine Hand.kb hb1 ?_; simp (disch := first | omega | (simp only [Hand.sa, Hand.ss, Hand.sd, Hand.sn]; first | done | omega)) only [Hand.q2, Hand.q1, Hand.q5, Hand.q6, Hand.q4, Hand.q3] <;> rfl
  have h_L : w1.heap[w.heap.size + 1]? = some (.cells #[.int .i64 s.1, .int .i64 s.2] 31 (0, 0)) := by
    refine Hand.kb hb1 ?_; simp (disch := first | omega | (simp only [Hand.sa, Hand.ss, Hand.sd, Hand.sn]; first | done | omega)) only [Hand.q2, Hand.q1, Hand.q5, Hand.q6, Hand.q4, Hand.q3] <;> rfl
  have h_T : w1.heap[w.heap.size + 1 + 1]? = some (.cells #[.int .i64 t.1, .int .i64 t.2] 31 (0, 0)) := by
    refine Hand.kb hb1 ?_; simp (disch := first | omega | (simp only [Hand.sa, Hand.ss, Hand.sd, Hand.sn]; first | done | omega)) only [Hand.q2, Hand.q1, Hand.q5, Hand.q6, Hand.q4, Hand.q3] <;> rfl
  have h_R : w1.heap[w.heap.size + 1 + 1 + 1]? = some (.cells #[.int .i64 0, .int .i64 0, .int .i64 0, .int .i64 0] 35 (0, 0)) := by
    refine Hand.kb hb1 ?_; simp (disch := first | omega | (simp only [Hand.sa, Hand.ss, Hand.sd, Hand.sn]; first | done | omega)) only [Hand.q2, Hand.q1, Hand.q5, Hand.q6, Hand.q4, Hand.q3] <;> rfl
  have h_X : w1.heap[w.heap.size + 1 + 1 + 1 + 1]? = some (.cells #[.int .i64 0, .int .i64 0] 31 (0, 0)) := by
    refine Hand.kb hb1 ?_; simp (disch := first | omega | (simp only [Hand.sa, Hand.ss, Hand.sd, Hand.sn]; first | done | omega)) only [Hand.q2, Hand.q1, Hand.q5, Hand.q6, Hand.q4, Hand.q3] <;> rfl
  have hB' : Below w.heap.size w w1 := Hand.stepB hb1 (by repeat (with_reducible first | apply hB | apply Below.drew | apply pw_below_drewN | (apply Below.setCell; rotate_left; (dsimp only; omega)) | (apply Below.alloc; rotate_left; (first | omega | (simp only [Hand.sa, Hand.ss, Hand.sd, Hand.sn]; omega))))) (Nat.le_refl _)
  clear HG hB g_S zw z_S z1_S z2_S y0_S y1_S c_S_0 f_S_0
  clear hb1
  have g_S := h_S
  have g_K := h_K
  have g_L := h_L
  have g_T := h_T
  have g_R := h_R
  have g_X := h_X
  have hB := hB'
  clear hB' h_S h_K h_L h_T h_R h_X
  obtain ⟨z_S, z1_S, z2_S, y0_S, y1_S⟩ := Hand.hz g_S
  obtain ⟨c_S_0, f_S_0⟩ := Hand.hc1 g_S
  obtain ⟨z_K, z1_K, z2_K, y0_K, y1_K⟩ := Hand.hz g_K
  obtain ⟨c_K_0, f_K_0, c_K_1, f_K_1, c_K_2, f_K_2, c_K_3, f_K_3⟩ := Hand.hc4 g_K
  obtain ⟨z_L, z1_L, z2_L, y0_L, y1_L⟩ := Hand.hz g_L
  obtain ⟨c_L_0, f_L_0, c_L_1, f_L_1⟩ := Hand.hc2 g_L
  obtain ⟨z_T, z1_T, z2_T, y0_T, y1_T⟩ := Hand.hz g_T
  obtain ⟨c_T_0, f_T_0, c_T_1, f_T_1⟩ := Hand.hc2 g_T
  obtain ⟨z_R, z1_R, z2_R, y0_R, y1_R⟩ := Hand.hz g_R
  obtain ⟨c_R_0, f_R_0, c_R_1, f_R_1, c_R_2, f_R_2, c_R_3, f_R_3⟩ := Hand.hc4 g_R
  obtain ⟨z_X, z1_X, z2_X, y0_X, y1_X⟩ := Hand.hz g_X
  obtain ⟨c_X_0, f_X_0, c_X_1, f_X_1⟩ := Hand.hc2 g_X
  have zw : w.heap.size ≤ w1.heap.size := hB.size
  have HG := Lib.hid (And.intro g_S (And.intro g_K (And.intro g_L (And.intro g_T (And.intro g_R (And.intro g_X (hB)))))))
  clear g_S g_K g_L g_T g_R g_X hB
  have hgs : g < w.heap.size := by have := (Hand.hz HX.out).1; exact this
  have q1 : (g = w.heap.size + 1 + 1 + 1 + 1) = False := eq_false (by omega)
  have q2 : (w.heap.size + 1 + 1 + 1 + 1 = g) = False := eq_false (by omega)
  have q3 : (w.heap.size + 1 + 1 + 1 = g) = False := eq_false (by omega)
  have q4 : (g = w.heap.size + 1 + 1 + 1) = False := eq_false (by omega)
  have q5 : (g = w.heap.size + 1 + 1) = False := eq_false (by omega)
  go_wp2
  obtain ⟨g_S, g_K, g_L, g_T, g_R, g_X, hB⟩ := HG.out
  refine bodyPost_ret (results_cell_row rfl _ _ (w.heap.size + 1 + 1 + 1) 35 #[.int .i64 t.1, .int .i64 t.2, .int .i64 x, .int .i64 y] (0, 0) _ rfl ?_ Try.underlying35 rfl (by kernel_rfl)) rfl ⟨rfl, ?_, ?_⟩
  · simp (disch := omega) only [Hand.q1, Hand.q2, g_R]; rfl
  · simp (disch := omega) only [Hand.q1, Hand.q2, g_S]; rfl
  · repeat (with_reducible first | exact Fx.of_below hB | (refine Fx.setNew ?_ (by omega) _ _) | (refine Fx.setCell ?_ _ _))
theorem at_any (g : Nat) (k : Kn) (s t : Rt) (e : Int) (w : World) (hx : w.heap[g]? = some (stp e)) (h1 : R64 k.1) (h2 : R64 k.2) (h3 : R64 s) (h4 : R64 t) :
    Calls Try.prog 39 #[kv k, rv s, rv t, .pointer (some ⟨g, 0, none⟩)] w fun e_ w' => e_ = .returned (kv (atS e k s t).1) ∧ w'.heap[g]? = some (stp (atS e k s t).2) ∧ Fx g w w' := by
  unfold atS
  by_cases h : e = 0
  · subst h
    rw [if_pos rfl]
    exact at_yes g k s t _ _ _ w hx (fun w => along_any k s t w h1 h2 h3 h4)
  · rw [if_neg h]
    refine (at_no g k s t e w hx (by simpa using h)).mono ?_
    rintro e_ w' ⟨rfl, hb⟩
    exact ⟨rfl, Hand.kb hb hx, Fx.of_below hb⟩
/-- all but two blocks lie as they lay -/
structure F2 (g h : Nat) (w w' : World) : Prop where
  os : w'.os = w.os
  tape : w'.tape = w.tape
  output : w'.output = w.output
  size : w.heap.size ≤ w'.heap.size
  block : ∀ k, k < w.heap.size → k ≠ g → k ≠ h → w'.heap[k]? = w.heap[k]?
theorem F2.of_fx {g : Nat} {w w' : World} (h : Nat) (f : Fx g w w') : F2 g h w w' := ⟨f.os, f.tape, f.output, f.size, fun k hk h1 _ => f.block k hk h1⟩
theorem F2.refl (g h : Nat) (w : World) : F2 g h w w := ⟨rfl, rfl, rfl, Nat.le_refl _, fun _ _ _ _ => rfl⟩
theorem F2.step {g h : Nat} {a w w' : World} (f : F2 g h a w) (k : Fx h w w') : F2 g h a w' :=
  ⟨k.os.trans f.os, k.tape.trans f.tape, k.output.trans f.output, Nat.le_trans f.size k.size, fun i hi h1 h2 => (k.block i (Nat.lt_of_lt_of_le hi f.size) h2).trans (f.block i hi h1 h2)⟩
theorem F2.stepl {g h : Nat} {a w w' : World} (f : F2 g h a w) (k : Fx g w w') : F2 g h a w' :=
  ⟨k.os.trans f.os, k.tape.trans f.tape, k.output.trans f.output, Nat.le_trans f.size k.size, fun i hi h1 h2 => (k.block i (Nat.lt_of_lt_of_le hi f.size) h1).trans (f.block i hi h1 h2)⟩
theorem F2.alloc {g h : Nat} {w W : World} (f : F2 g h w W) (o : Obj) : F2 g h w (W.alloc o) :=
  ⟨f.os, f.tape, f.output, by have := f.size; rw [World.size_alloc]; omega, fun i hi h1 h2 => by rw [Hand.q4 _ _ _ (by have := f.size; omega)]; exact f.block i hi h1 h2⟩
theorem F2.drew {g h : Nat} {w W : World} (f : F2 g h w W) : F2 g h w W.drew := ⟨f.os, f.tape, f.output, f.size, f.block⟩
theorem F2.set {g h : Nat} {w W : World} (f : F2 g h w W) (b j : Nat) (u : Value) (hb : b = g ∨ b = h ∨ w.heap.size ≤ b) : F2 g h w (W.setCell ⟨b, j, none⟩ u) := by
  have b0 := (Below.refl 0 W).setCell (p := ⟨b, j, none⟩) (Nat.zero_le _) u
  refine ⟨b0.os.trans f.os, b0.tape.trans f.tape, b0.output.trans f.output, Nat.le_trans f.size b0.size, fun i hi h1 h2 => ?_⟩
  rw [Hand.q2 _ _ _ _ _ (by rcases hb with e | e | e <;> omega)]
  exact f.block i hi h1 h2
theorem F2.cell {g h : Nat} {w w' : World} (f : F2 g h w w') (p : Addr) (hp : p.block < w.heap.size) (h1 : p.block ≠ g) (h2 : p.block ≠ h) : w'.cell? p = w.cell? p := by
  unfold World.cell?
  rw [f.block _ hp h1 h2]
theorem F2.kb {g h k : Nat} {w w' : World} (f : F2 g h w w') {o : Obj} (hk : w.heap[k]? = some o) (h1 : k ≠ g) (h2 : k ≠ h) : w'.heap[k]? = some o := by rw [f.block k (Hand.hz hk).1 h1 h2]; exact hk
theorem F2.below {g h B : Nat} {a w w' : World} (f : F2 g h w w') (hB : Below B a w) (hg : B ≤ g) (hh : B ≤ h) (hs : B ≤ w.heap.size) : Below B a w' :=
  hB.trans ⟨f.os, f.tape, f.output, f.size, fun k hk => f.block k (by omega) (by omega) (by omega)⟩
/-- what a slice of ratios, of knots reads, behind two blocks that are another -/
theorem RtA.f2 {g h : Nat} {w w' : World} {ad : Addr} {l : List Rt} (r : RtA w ad l) (f : F2 g h w w') (h1 : ad.block ≠ g) (h2 : ad.block ≠ h) : RtA w' ad l := fun j hj => by
  obtain ⟨a, b⟩ := r j hj
  have eb : (ad.add (j * 2)).block = ad.block := by unfold Addr.add; split <;> rfl
  have st : ∀ p v, p.block = ad.block → w.cell? p = some v → w'.cell? p = some v := fun p v e hp => (f.cell p (World.block_lt_of_cell? w _ hp) (by rw [e]; exact h1) (by rw [e]; exact h2)).trans hp
  exact ⟨st _ _ eb a, st _ _ eb b⟩
theorem KnA.f2 {g h : Nat} {w w' : World} {ad : Addr} {l : List Kn} (r : KnA w ad l) (f : F2 g h w w') (h1 : ad.block ≠ g) (h2 : ad.block ≠ h) : KnA w' ad l := fun j hj => by
  obtain ⟨a, b, c, d⟩ := r j hj
  have eb : (ad.add (j * 4)).block = ad.block := by unfold Addr.add; split <;> rfl
  have st : ∀ p v, p.block = ad.block → w.cell? p = some v → w'.cell? p = some v := fun p v e hp => (f.cell p (World.block_lt_of_cell? w _ hp) (by rw [e]; exact h1) (by rw [e]; exact h2)).trans hp
  exact ⟨st _ _ eb a, st _ _ eb b, st _ _ eb c, st _ _ eb d⟩
theorem KnA.zero {w : World} {ad : Addr} {k : Kn} {ks : List Kn} (h : KnA w ad (k :: ks)) : w.cell? ad = some (.int .i64 k.1.1) ∧ w.cell? ⟨ad.block, ad.off + 1, none⟩ = some (.int .i64 k.1.2) ∧ w.cell? ⟨ad.block, ad.off + 2, none⟩ = some (.int .i64 k.2.1) ∧ w.cell? ⟨ad.block, ad.off + 3, none⟩ = some (.int .i64 k.2.2) := by
  have := h 0 (by simp)
  rw [Nat.zero_mul, show ad.add 0 = ad from rfl] at this
  exact this
theorem RtA.zero {w : World} {ad : Addr} {k : Rt} {ks : List Rt} (h : RtA w ad (k :: ks)) : w.cell? ad = some (.int .i64 k.1) ∧ w.cell? ⟨ad.block, ad.off + 1, none⟩ = some (.int .i64 k.2) := by
  have := h 0 (by simp)
  rw [Nat.zero_mul, show ad.add 0 = ad from rfl] at this
  exact this
theorem atS_R (e : Int) (k : Kn) (s t : Rt) (h : R64 t) : R64 (atS e k s t).1.1 ∧ R64 (atS e k s t).1.2 := by
  unfold atS
  split
  · exact ⟨h, by unfold alongS; exact do_R add_R _ _ _⟩
  · exact ⟨R64_0, R64_0⟩
theorem R64_w (n : Int) (h0 : -9223372036854775808 ≤ n) (h1 : n ≤ 9223372036854775807) : R64 ((n, 1) : Rt) := ⟨h0, h1, by dsimp only; decide, by dsimp only; decide⟩
end Go.Proofs.Ythlpaglldhgmfaa.PA
