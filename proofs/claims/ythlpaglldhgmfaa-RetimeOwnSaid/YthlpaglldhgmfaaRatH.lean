/- by, Div, Sub. -/
import Derived.Test.YthlpaglldhgmfaaRatG
namespace Go.Proofs.Ythlpaglldhgmfaa.PA
open Go.RowKit Go.Proofs.YthlpaglldhgmfaaW.PrintWords Go.Proofs.YthlpaglldhgmfaaW.PrintLast Go.Proofs.YthlpaglldhgmfaaW.PrintMore
attribute [local go_sem high] eqA85 eqA31
set_option linter.unusedSimpArgs false
set_option linter.unusedVariables false
set_option maxHeartbeats 800000 in
set_option maxRecDepth 100000 in
theorem by_any (a b c d : Int) (p q : Nat) (neg : Bool) (w : World)
    (ha0 : -9223372036854775808 ≤ a) (ha1 : a ≤ 9223372036854775807) (hb0 : 0 ≤ b) (hb1 : b ≤ 9223372036854775807)
    (hc0 : -9223372036854775808 ≤ c) (hc1 : c ≤ 9223372036854775807) (hd0 : 0 ≤ d) (hd1 : d ≤ 9223372036854775807)
    (hp : a.natAbs * d.natAbs = p) (hq : b.natAbs * c.natAbs = q) (hneg : (!(decide (a < 0) == decide (c < 0))) = neg) :
    Calls Try.prog 98 #[.agg #[.int .i64 a, .int .i64 b], .agg #[.int .i64 c, .int .i64 d]] w fun e w' => e = .returned (.agg #[.bool neg, .int .u64 (hiN p), .int .u64 (loN p), .int .u64 (hiN q), .int .u64 (loN q)]) ∧ Below w.heap.size w w' := by
  have eb : IntKind.u64.wrap b = (b.natAbs : Int) := by rw [U64.wrap_u64]; omega
  have ed : IntKind.u64.wrap d = (d.natAbs : Int) := by rw [U64.wrap_u64]; omega
  have m1 : ∀ w, Calls Try.prog 50 #[.int .u64 (a.natAbs : Int), .int .u64 (d.natAbs : Int)] w fun e w' => e = .returned (.agg #[.int .u64 (hiN p), .int .u64 (loN p)]) ∧ Below w.heap.size w w' := fun w => by rw [← hp]; exact mul_any _ _ (by omega) (by omega) w
  have m2 : ∀ w, Calls Try.prog 50 #[.int .u64 (b.natAbs : Int), .int .u64 (c.natAbs : Int)] w fun e w' => e = .returned (.agg #[.int .u64 (hiN q), .int .u64 (loN q)]) ∧ Below w.heap.size w w' := fun w => by rw [← hq]; exact mul_any _ _ (by omega) (by omega) w
  have s1 : ∀ w, Calls Try.prog 51 #[.int .i64 a] w fun e w' => e = .returned (.int .u64 (a.natAbs : Int)) ∧ Drawn0 w w' := size_any a (by omega) (by omega)
  have s2 : ∀ w, Calls Try.prog 51 #[.int .i64 c] w fun e w' => e = .returned (.int .u64 (c.natAbs : Int)) ∧ Drawn0 w w' := size_any c (by omega) (by omega)
  have M1 := Lib.hid m1
  have M2 := Lib.hid m2
  have S1 := Lib.hid s1
  have S2 := Lib.hid s2
  clear m1 m2 s1 s2 hp hq
  go_enter Try.func98, Try.ntmps98
  go_wp2
  obtain ⟨W, hW⟩ : ∃ W_, W_ = ((w.alloc (.cells #[.int .i64 a, .int .i64 b] 31)).alloc (.cells #[.int .i64 c, .int .i64 d] 31)).alloc (.cells #[.bool false, .int .u64 0, .int .u64 0, .int .u64 0, .int .u64 0] 114) := ⟨_, rfl⟩
  rw [← hW]
  have h_A : W.heap[w.heap.size]? = some (.cells #[.int .i64 a, .int .i64 b] 31 (0, 0)) := by
    rw [hW]
    first | (simp (disch := first | with_reducible assumption | (with_reducible first | exact Nat.ne_of_lt (by assumption) | exact Nat.ne_of_gt (by assumption) | exact Ne.symm (by assumption)) | ((fail_if_success (refine Hand.trip (by with_reducible rfl) ?_)); first | omega | (simp only [Hand.sa, Hand.ss, Hand.sd, Hand.sn]; first | done | with_reducible assumption | omega))) only [Hand.q2, Hand.q1, Hand.q5, Hand.q6, Hand.q4, Hand.q3]; done) | (simp (disch := first | with_reducible assumption | (with_reducible first | exact Nat.ne_of_lt (by assumption) | exact Nat.ne_of_gt (by assumption) | exact Ne.symm (by assumption)) | ((fail_if_success (refine Hand.trip (by with_reducible rfl) ?_)); first | omega | (simp only [Hand.sa, Hand.ss, Hand.sd, Hand.sn]; first | done | with_reducible assumption | omega))) only [Hand.q2, Hand.q1, Hand.q5, Hand.q6, Hand.q4, Hand.q3]; rfl)
  have h_B : W.heap[w.heap.size + 1]? = some (.cells #[.int .i64 c, .int .i64 d] 31 (0, 0)) := by
    rw [hW]
    first | (simp (disch := first | with_reducible assumption | (with_reducible first | exact Nat.ne_of_lt (by assumption) | exact Nat.ne_of_gt (by assumption) | exact Ne.symm (by assumption)) | ((fail_if_success (refine Hand.trip (by with_reducible rfl) ?_)); first | omega | (simp only [Hand.sa, Hand.ss, Hand.sd, Hand.sn]; first | done | with_reducible assumption | omega))) only [Hand.q2, Hand.q1, Hand.q5, Hand.q6, Hand.q4, Hand.q3]; done) | (simp (disch := first | with_reducible assumption | (with_reducible first | exact Nat.ne_of_lt (by assumption) | exact Nat.ne_of_gt (by assumption) | exact Ne.symm (by assumption)) | ((fail_if_success (refine Hand.trip (by with_reducible rfl) ?_)); first | omega | (simp only [Hand.sa, Hand.ss, Hand.sd, Hand.sn]; first | done | with_reducible assumption | omega))) only [Hand.q2, Hand.q1, Hand.q5, Hand.q6, Hand.q4, Hand.q3]; rfl)
  have h_R : W.heap[w.heap.size + 1 + 1]? = some (.cells #[.bool false, .int .u64 0, .int .u64 0, .int .u64 0, .int .u64 0] 114 (0, 0)) := by
    rw [hW]
    first | (simp (disch := first | with_reducible assumption | (with_reducible first | exact Nat.ne_of_lt (by assumption) | exact Nat.ne_of_gt (by assumption) | exact Ne.symm (by assumption)) | ((fail_if_success (refine Hand.trip (by with_reducible rfl) ?_)); first | omega | (simp only [Hand.sa, Hand.ss, Hand.sd, Hand.sn]; first | done | with_reducible assumption | omega))) only [Hand.q2, Hand.q1, Hand.q5, Hand.q6, Hand.q4, Hand.q3]; done) | (simp (disch := first | with_reducible assumption | (with_reducible first | exact Nat.ne_of_lt (by assumption) | exact Nat.ne_of_gt (by assumption) | exact Ne.symm (by assumption)) | ((fail_if_success (refine Hand.trip (by with_reducible rfl) ?_)); first | omega | (simp only [Hand.sa, Hand.ss, Hand.sd, Hand.sn]; first | done | with_reducible assumption | omega))) only [Hand.q2, Hand.q1, Hand.q5, Hand.q6, Hand.q4, Hand.q3]; rfl)
  have hB' : Below w.heap.size w W := by
    rw [hW]
    repeat (first | exact Below.refl _ _ | (with_reducible first | apply Below.drew | apply pw_below_drewN | refine Below.setCell ?_ (by dsimp only; omega) _ | refine Below.alloc ?_ (by first | omega | (simp only [Hand.sa, Hand.ss, Hand.sd, Hand.sn]; omega)) _))
  clear hW
  have g_A := h_A
  have g_B := h_B
  have g_R := h_R
  have hB := hB'
  clear hB' h_A h_B h_R
  obtain ⟨z_A, z1_A, z2_A, y0_A, y1_A⟩ := Hand.hz g_A
  obtain ⟨c_A_0, f_A_0, c_A_1, f_A_1⟩ := Hand.hc2 g_A
  obtain ⟨z_B, z1_B, z2_B, y0_B, y1_B⟩ := Hand.hz g_B
  obtain ⟨c_B_0, f_B_0, c_B_1, f_B_1⟩ := Hand.hc2 g_B
  obtain ⟨z_R, z1_R, z2_R, y0_R, y1_R⟩ := Hand.hz g_R
  obtain ⟨c_R_0, f_R_0, c_R_1, f_R_1, c_R_2, f_R_2, c_R_3, f_R_3, c_R_4, f_R_4⟩ := Hand.hc5 g_R
  have zw : w.heap.size ≤ W.heap.size := hB.size
  have HG := Lib.hid (And.intro g_A (And.intro g_B (And.intro g_R (hB))))
  clear g_A g_B g_R hB
  have HBW := Lib.hid (HG.out.2.2.2)
  have HK := Lib.hid (And.intro c_A_0 (And.intro c_A_1 (And.intro c_B_0 (c_B_1))))
  have HR_R := Lib.hid (And.intro c_R_0 (And.intro f_R_0 (And.intro c_R_1 (And.intro f_R_1 (And.intro c_R_2 (And.intro f_R_2 (And.intro c_R_3 (And.intro f_R_3 (And.intro c_R_4 (f_R_4))))))))))
  have BD : Below W.heap.size W W.drew := Below.drew (Below.refl _ _)
  have BR : Below W.heap.size W W := Below.refl _ _
  go_region_held3 (fun w_ => Below w.heap.size w w_ ∧ w_.cell? ⟨w.heap.size, 0, none⟩ = some (.int .i64 a) ∧ w_.cell? ⟨w.heap.size, 1, none⟩ = some (.int .i64 b) ∧ w_.cell? ⟨w.heap.size + 1, 0, none⟩ = some (.int .i64 c) ∧ w_.cell? ⟨w.heap.size + 1, 1, none⟩ = some (.int .i64 d)) (first | with_reducible exact ⟨Below.setCell (Below.setCell (Below.setCell (Below.setCell (Below.setCell (HBW.out.trans (Below.mono BB zw)) (by dsimp only; omega) _) (by dsimp only; omega) _) (by dsimp only; omega) _) (by dsimp only; omega) _) (by dsimp only; omega) _, Hand.cell_far (by omega) (Hand.cell_far (by omega) (Hand.cell_far (by omega) (Hand.cell_far (by omega) (Hand.cell_far (by omega) ((Below.cell BB (p := ⟨w.heap.size, 0, none⟩) z_A).trans (HK.out.1)))))), Hand.cell_far (by omega) (Hand.cell_far (by omega) (Hand.cell_far (by omega) (Hand.cell_far (by omega) (Hand.cell_far (by omega) ((Below.cell BB (p := ⟨w.heap.size, 1, none⟩) z_A).trans (HK.out.2.1)))))), Hand.cell_far (by omega) (Hand.cell_far (by omega) (Hand.cell_far (by omega) (Hand.cell_far (by omega) (Hand.cell_far (by omega) ((Below.cell BB (p := ⟨w.heap.size + 1, 0, none⟩) z_B).trans (HK.out.2.2.1)))))), Hand.cell_far (by omega) (Hand.cell_far (by omega) (Hand.cell_far (by omega) (Hand.cell_far (by omega) (Hand.cell_far (by omega) ((Below.cell BB (p := ⟨w.heap.size + 1, 1, none⟩) z_B).trans (HK.out.2.2.2))))))⟩ | with_reducible (refine ⟨?_, (Below.cell BR (p := ⟨w.heap.size, 0, none⟩) z_A).trans (HK.out.1), (Below.cell BR (p := ⟨w.heap.size, 1, none⟩) z_A).trans (HK.out.2.1), (Below.cell BR (p := ⟨w.heap.size + 1, 0, none⟩) z_B).trans (HK.out.2.2.1), (Below.cell BR (p := ⟨w.heap.size + 1, 1, none⟩) z_B).trans (HK.out.2.2.2)⟩; apply (HBW.out.trans (Below.mono BR zw))) | with_reducible (refine ⟨?_, (Below.cell BD (p := ⟨w.heap.size, 0, none⟩) z_A).trans (HK.out.1), (Below.cell BD (p := ⟨w.heap.size, 1, none⟩) z_A).trans (HK.out.2.1), (Below.cell BD (p := ⟨w.heap.size + 1, 0, none⟩) z_B).trans (HK.out.2.2.1), (Below.cell BD (p := ⟨w.heap.size + 1, 1, none⟩) z_B).trans (HK.out.2.2.2)⟩; apply (HBW.out.trans (Below.mono BD zw))) | with_reducible (refine ⟨?_, (Below.cell BB (p := ⟨w.heap.size, 0, none⟩) z_A).trans (HK.out.1), (Below.cell BB (p := ⟨w.heap.size, 1, none⟩) z_A).trans (HK.out.2.1), (Below.cell BB (p := ⟨w.heap.size + 1, 0, none⟩) z_B).trans (HK.out.2.2.1), (Below.cell BB (p := ⟨w.heap.size + 1, 1, none⟩) z_B).trans (HK.out.2.2.2)⟩; apply (HBW.out.trans (Below.mono BB zw)))) (first | (go_at_call 51; ((with_reducible refine (S1.out _).mono ?_); rintro e w2 ⟨rfl, hb_⟩; have BB : Below W.heap.size W w2 := Hand.stepB hb_.below (by assumption) (Nat.le_refl _); have zB_w2 := Below.size BB; clear hb_)) | (go_at_call 51; ((with_reducible refine (S2.out _).mono ?_); rintro e w3 ⟨rfl, hb_⟩; have BB : Below W.heap.size W w3 := Hand.stepB hb_.below (by assumption) (Nat.le_refl _); have zB_w3 := Below.size BB; clear hb_)) | (go_at_call 50; ((with_reducible refine (M1.out _).mono ?_); rintro e w4 ⟨rfl, hb_⟩; have BB : Below W.heap.size W w4 := Hand.stepB hb_ (by assumption) (Nat.le_refl _); have zB_w4 := Below.size BB; clear hb_; (try clear rR_0 sR_0 rR_1 sR_1 rR_2 sR_2 rR_3 sR_3 rR_4 sR_4); have rR_0 := (Below.cell BB (p := ⟨w.heap.size + 1 + 1, 0, none⟩) z_R).trans (HR_R.out.1); have sR_0 := (Below.frozen BB (p := ⟨w.heap.size + 1 + 1, 0, none⟩) z_R).trans (HR_R.out.2.1); have rR_1 := (Below.cell BB (p := ⟨w.heap.size + 1 + 1, 1, none⟩) z_R).trans (HR_R.out.2.2.1); have sR_1 := (Below.frozen BB (p := ⟨w.heap.size + 1 + 1, 1, none⟩) z_R).trans (HR_R.out.2.2.2.1); have rR_2 := (Below.cell BB (p := ⟨w.heap.size + 1 + 1, 2, none⟩) z_R).trans (HR_R.out.2.2.2.2.1); have sR_2 := (Below.frozen BB (p := ⟨w.heap.size + 1 + 1, 2, none⟩) z_R).trans (HR_R.out.2.2.2.2.2.1); have rR_3 := (Below.cell BB (p := ⟨w.heap.size + 1 + 1, 3, none⟩) z_R).trans (HR_R.out.2.2.2.2.2.2.1); have sR_3 := (Below.frozen BB (p := ⟨w.heap.size + 1 + 1, 3, none⟩) z_R).trans (HR_R.out.2.2.2.2.2.2.2.1); have rR_4 := (Below.cell BB (p := ⟨w.heap.size + 1 + 1, 4, none⟩) z_R).trans (HR_R.out.2.2.2.2.2.2.2.2.1); have sR_4 := (Below.frozen BB (p := ⟨w.heap.size + 1 + 1, 4, none⟩) z_R).trans (HR_R.out.2.2.2.2.2.2.2.2.2))) | (go_at_call 50; ((with_reducible refine (M2.out _).mono ?_); rintro e w5 ⟨rfl, hb_⟩; have BB : Below W.heap.size W w5 := Hand.stepB hb_ (by assumption) (Nat.le_refl _); have zB_w5 := Below.size BB; clear hb_; (try clear rR_0 sR_0 rR_1 sR_1 rR_2 sR_2 rR_3 sR_3 rR_4 sR_4); have rR_0 := (Below.cell BB (p := ⟨w.heap.size + 1 + 1, 0, none⟩) z_R).trans (HR_R.out.1); have sR_0 := (Below.frozen BB (p := ⟨w.heap.size + 1 + 1, 0, none⟩) z_R).trans (HR_R.out.2.1); have rR_1 := (Below.cell BB (p := ⟨w.heap.size + 1 + 1, 1, none⟩) z_R).trans (HR_R.out.2.2.1); have sR_1 := (Below.frozen BB (p := ⟨w.heap.size + 1 + 1, 1, none⟩) z_R).trans (HR_R.out.2.2.2.1); have rR_2 := (Below.cell BB (p := ⟨w.heap.size + 1 + 1, 2, none⟩) z_R).trans (HR_R.out.2.2.2.2.1); have sR_2 := (Below.frozen BB (p := ⟨w.heap.size + 1 + 1, 2, none⟩) z_R).trans (HR_R.out.2.2.2.2.2.1); have rR_3 := (Below.cell BB (p := ⟨w.heap.size + 1 + 1, 3, none⟩) z_R).trans (HR_R.out.2.2.2.2.2.2.1); have sR_3 := (Below.frozen BB (p := ⟨w.heap.size + 1 + 1, 3, none⟩) z_R).trans (HR_R.out.2.2.2.2.2.2.2.1); have rR_4 := (Below.cell BB (p := ⟨w.heap.size + 1 + 1, 4, none⟩) z_R).trans (HR_R.out.2.2.2.2.2.2.2.2.1); have sR_4 := (Below.frozen BB (p := ⟨w.heap.size + 1 + 1, 4, none⟩) z_R).trans (HR_R.out.2.2.2.2.2.2.2.2.2))))
  go_wp2
  obtain ⟨g_A, g_B, g_R, hB⟩ := HG.out
  have g6 := (Hand.hp_below BB z_R).trans g_R
  refine bodyPost_ret (results_cell_row rfl _ _ (w.heap.size + 1 + 1) 114 #[.bool neg, .int .u64 (hiN p), .int .u64 (loN p), .int .u64 (hiN q), .int .u64 (loN q)] (0, 0) _ rfl ?_ Try.underlying114 rfl (by kernel_rfl)) rfl ⟨rfl, ?_⟩
  · simp (disch := omega) only [Hand.q1, g6]; rfl
  · exact (((((hB.trans (Below.mono BB zw)).setCell (by dsimp only; omega) _).setCell (by dsimp only; omega) _).setCell (by dsimp only; omega) _).setCell (by dsimp only; omega) _).setCell (by dsimp only; omega) _
/-- a / b, told -/
def divS (a b c d : Int) : Int × Int × Int := if rightS a b && rightS c d then (if c = 0 then (0, 0, 11) else fitS (decide (a < 0) != decide (c < 0)) (a.natAbs * d.natAbs) (b.natAbs * c.natAbs)) else (0, 0, 12)
set_option maxHeartbeats 800000 in
set_option maxRecDepth 100000 in
theorem div_ok (a b c d x y z : Int) (p q : Nat) (neg : Bool) (w : World) (h1 : rightS a b = true) (h2 : rightS c d = true) (hc : (c == 0) = false)
    (hp : a.natAbs * d.natAbs = p) (hq : b.natAbs * c.natAbs = q) (hneg : (!(decide (a < 0) == decide (c < 0))) = neg) (hf : fitS neg p q = (x, y, z)) :
    Calls Try.prog 63 #[.agg #[.int .i64 a, .int .i64 b], .agg #[.int .i64 c, .int .i64 d]] w fun e w' => e = .returned (.tuple #[.agg #[.int .i64 x, .int .i64 y], .int .i64 z]) ∧ Below w.heap.size w w' := by
  obtain ⟨b1, b2, b3, _⟩ := right_bounds h1
  obtain ⟨d1, d2, d3, _⟩ := right_bounds h2
  have hc0 : c ≠ 0 := by simpa using hc
  have pb : p < 340282366920938463463374607431768211456 := by rw [← hp]; exact Nat.lt_of_le_of_lt (Nat.mul_le_mul b3 (show d.natAbs ≤ 2147483648 by omega)) (by omega)
  have qb : q < 340282366920938463463374607431768211456 := by rw [← hq]; exact Nat.lt_of_le_of_lt (Nat.mul_le_mul (show b.natAbs ≤ 2147483648 by omega) d3) (by omega)
  have q0 : 0 < q := by rw [← hq]; exact Nat.mul_pos (by omega) (by omega)
  have m3 : ∀ w, Calls Try.prog 84 #[.agg #[.bool neg, .int .u64 (hiN p), .int .u64 (loN p), .int .u64 (hiN q), .int .u64 (loN q)]] w fun e w' => e = .returned (.tuple #[.agg #[.int .i64 x, .int .i64 y], .int .i64 z]) ∧ Below w.heap.size w w' := fun w => by
    have := fit_any neg p q pb qb q0 w; rw [hf] at this; exact this
  have m2 := fun w => by_any a b c d p q neg w (by omega) (by omega) (by omega) (by omega) (by omega) (by omega) (by omega) (by omega) hp hq hneg
  have rt : ∀ g w, w.heap[g]? = some (.cells #[.int .i64 a, .int .i64 b, .int .i64 c, .int .i64 d] 31 (0, 0)) → Calls Try.prog 81 #[.slice (some ⟨g, 0, none⟩) 2 2] w fun e w' => e = .returned (.bool true) ∧ Below w.heap.size w w' := fun g w hg => by
    have := right_two a b c d g w (by omega) (by omega) (by omega) (by omega) (by omega) (by omega) (by omega) (by omega) hg
    rw [h1, h2] at this; exact this
  have M3 := Lib.hid m3
  have M2 := Lib.hid m2
  have RT := Lib.hid rt
  clear m2 m3 rt hp hq hf h1 h2 hneg
  go_enter Try.func63, Try.ntmps63
  go_wp2_with fail
  with_reducible refine (RT.out _ _ ?_).mono ?_
  · simp (disch := first | omega | (simp only [World.size_alloc]; first | done | omega)) only [Hand.q3]
  rintro e w1 ⟨rfl, hb1⟩
  have h_A : w1.heap[w.heap.size]? = some (.cells #[.int .i64 a, .int .i64 b] 31 (0, 0)) := by
    refine Hand.kb hb1 ?_; simp (disch := first | omega | (simp only [Hand.sa, Hand.ss, Hand.sd, Hand.sn]; first | done | omega)) only [Hand.q2, Hand.q1, Hand.q5, Hand.q6, Hand.q4, Hand.q3] <;> rfl
  have h_B : w1.heap[w.heap.size + 1]? = some (.cells #[.int .i64 c, .int .i64 d] 31 (0, 0)) := by
    refine Hand.kb hb1 ?_; simp (disch := first | omega | (simp only [Hand.sa, Hand.ss, Hand.sd, Hand.sn]; first | done | omega)) only [Hand.q2, Hand.q1, Hand.q5, Hand.q6, Hand.q4, Hand.q3] <;> rfl
  have h_R : w1.heap[w.heap.size + 1 + 1]? = some (.cells #[.int .i64 0, .int .i64 0] 31 (0, 0)) := by
    refine Hand.kb hb1 ?_; simp (disch := first | omega | (simp only [Hand.sa, Hand.ss, Hand.sd, Hand.sn]; first | done | omega)) only [Hand.q2, Hand.q1, Hand.q5, Hand.q6, Hand.q4, Hand.q3] <;> rfl
  have hB' : Below w.heap.size w w1 := Hand.stepB hb1 (by repeat (with_reducible first | apply Below.refl _ _ | apply Below.drew | apply pw_below_drewN | (apply Below.setCell; rotate_left; (dsimp only; omega)) | (apply Below.alloc; rotate_left; (first | omega | (simp only [Hand.sa, Hand.ss, Hand.sd, Hand.sn]; omega))))) (Nat.le_refl _)
  clear hb1
  have g_A := h_A
  have g_B := h_B
  have g_R := h_R
  have hB := hB'
  clear hB' h_A h_B h_R
  obtain ⟨z_A, z1_A, z2_A, y0_A, y1_A⟩ := Hand.hz g_A
  obtain ⟨c_A_0, f_A_0, c_A_1, f_A_1⟩ := Hand.hc2 g_A
  obtain ⟨z_B, z1_B, z2_B, y0_B, y1_B⟩ := Hand.hz g_B
  obtain ⟨c_B_0, f_B_0, c_B_1, f_B_1⟩ := Hand.hc2 g_B
  obtain ⟨z_R, z1_R, z2_R, y0_R, y1_R⟩ := Hand.hz g_R
  obtain ⟨c_R_0, f_R_0, c_R_1, f_R_1⟩ := Hand.hc2 g_R
  have zw : w.heap.size ≤ w1.heap.size := hB.size
  have HG := Lib.hid (And.intro g_A (And.intro g_B (And.intro g_R (hB))))
  clear g_A g_B g_R hB
  go_wp2_with fail
  with_reducible refine (M2.out _).mono ?_
  rintro e w2 ⟨rfl, hb2⟩
  obtain ⟨g_A, g_B, g_R, hB⟩ := HG.out
  have h_A : w2.heap[w.heap.size]? = some (.cells #[.int .i64 a, .int .i64 b] 31 (0, 0)) := by
    refine Hand.kb hb2 ?_; first | with_reducible exact g_A | (simp (disch := first | omega | (simp only [Hand.sa, Hand.ss, Hand.sd, Hand.sn]; first | done | omega)) only [Hand.q2, Hand.q1, Hand.q5, Hand.q6, Hand.q4, Hand.q3, g_A] <;> rfl)
  have h_B : w2.heap[w.heap.size + 1]? = some (.cells #[.int .i64 c, .int .i64 d] 31 (0, 0)) := by
    refine Hand.kb hb2 ?_; first | with_reducible exact g_B | (simp (disch := first | omega | (simp only [Hand.sa, Hand.ss, Hand.sd, Hand.sn]; first | done | omega)) only [Hand.q2, Hand.q1, Hand.q5, Hand.q6, Hand.q4, Hand.q3, g_B] <;> rfl)
  have h_R : w2.heap[w.heap.size + 1 + 1]? = some (.cells #[.int .i64 0, .int .i64 0] 31 (0, 0)) := by
    refine Hand.kb hb2 ?_; first | with_reducible exact g_R | (simp (disch := first | omega | (simp only [Hand.sa, Hand.ss, Hand.sd, Hand.sn]; first | done | omega)) only [Hand.q2, Hand.q1, Hand.q5, Hand.q6, Hand.q4, Hand.q3, g_R] <;> rfl)
  have hB' : Below w.heap.size w w2 := Hand.stepB hb2 (by repeat (with_reducible first | apply hB | apply Below.drew | apply pw_below_drewN | (apply Below.setCell; rotate_left; (dsimp only; omega)) | (apply Below.alloc; rotate_left; (first | omega | (simp only [Hand.sa, Hand.ss, Hand.sd, Hand.sn]; omega))))) (Nat.le_refl _)
  clear HG hB g_A g_B g_R zw z_A z1_A z2_A y0_A y1_A c_A_0 f_A_0 c_A_1 f_A_1 z_B z1_B z2_B y0_B y1_B c_B_0 f_B_0 c_B_1 f_B_1 z_R z1_R z2_R y0_R y1_R c_R_0 f_R_0 c_R_1 f_R_1
  clear hb2
  have g_A := h_A
  have g_B := h_B
  have g_R := h_R
  have hB := hB'
  clear hB' h_A h_B h_R
  obtain ⟨z_A, z1_A, z2_A, y0_A, y1_A⟩ := Hand.hz g_A
  obtain ⟨c_A_0, f_A_0, c_A_1, f_A_1⟩ := Hand.hc2 g_A
  obtain ⟨z_B, z1_B, z2_B, y0_B, y1_B⟩ := Hand.hz g_B
  obtain ⟨c_B_0, f_B_0, c_B_1, f_B_1⟩ := Hand.hc2 g_B
  obtain ⟨z_R, z1_R, z2_R, y0_R, y1_R⟩ := Hand.hz g_R
  obtain ⟨c_R_0, f_R_0, c_R_1, f_R_1⟩ := Hand.hc2 g_R
  have zw : w.heap.size ≤ w2.heap.size := hB.size
  have HG := Lib.hid (And.intro g_A (And.intro g_B (And.intro g_R (hB))))
  clear g_A g_B g_R hB
  go_wp2_with fail
  with_reducible refine (M3.out _).mono ?_
  rintro e w3 ⟨rfl, hb3⟩
  obtain ⟨g_A, g_B, g_R, hB⟩ := HG.out
  have h_A : w3.heap[w.heap.size]? = some (.cells #[.int .i64 a, .int .i64 b] 31 (0, 0)) := by
    refine Hand.kb hb3 ?_; first | with_reducible exact g_A | (simp (disch := first | omega | (simp only [Hand.sa, Hand.ss, Hand.sd, Hand.sn]; first | done | omega)) only [Hand.q2, Hand.q1, Hand.q5, Hand.q6, Hand.q4, Hand.q3, g_A] <;> rfl)
  have h_B : w3.heap[w.heap.size + 1]? = some (.cells #[.int .i64 c, .int .i64 d] 31 (0, 0)) := by
    refine Hand.kb hb3 ?_; first | with_reducible exact g_B | (simp (disch := first | omega | (simp only [Hand.sa, Hand.ss, Hand.sd, Hand.sn]; first | done | omega)) only [Hand.q2, Hand.q1, Hand.q5, Hand.q6, Hand.q4, Hand.q3, g_B] <;> rfl)
  have h_R : w3.heap[w.heap.size + 1 + 1]? = some (.cells #[.int .i64 0, .int .i64 0] 31 (0, 0)) := by
    refine Hand.kb hb3 ?_; first | with_reducible exact g_R | (simp (disch := first | omega | (simp only [Hand.sa, Hand.ss, Hand.sd, Hand.sn]; first | done | omega)) only [Hand.q2, Hand.q1, Hand.q5, Hand.q6, Hand.q4, Hand.q3, g_R] <;> rfl)
  have hB' : Below w.heap.size w w3 := Hand.stepB hb3 (by repeat (with_reducible first | apply hB | apply Below.drew | apply pw_below_drewN | (apply Below.setCell; rotate_left; (dsimp only; omega)) | (apply Below.alloc; rotate_left; (first | omega | (simp only [Hand.sa, Hand.ss, Hand.sd, Hand.sn]; omega))))) (Nat.le_refl _)
  clear HG hB g_A g_B g_R zw z_A z1_A z2_A y0_A y1_A c_A_0 f_A_0 c_A_1 f_A_1 z_B z1_B z2_B y0_B y1_B c_B_0 f_B_0 c_B_1 f_B_1 z_R z1_R z2_R y0_R y1_R c_R_0 f_R_0 c_R_1 f_R_1
  clear hb3
  have g_A := h_A
  have g_B := h_B
  have g_R := h_R
  have hB := hB'
  clear hB' h_A h_B h_R
  obtain ⟨z_A, z1_A, z2_A, y0_A, y1_A⟩ := Hand.hz g_A
  obtain ⟨c_A_0, f_A_0, c_A_1, f_A_1⟩ := Hand.hc2 g_A
  obtain ⟨z_B, z1_B, z2_B, y0_B, y1_B⟩ := Hand.hz g_B
  obtain ⟨c_B_0, f_B_0, c_B_1, f_B_1⟩ := Hand.hc2 g_B
  obtain ⟨z_R, z1_R, z2_R, y0_R, y1_R⟩ := Hand.hz g_R
  obtain ⟨c_R_0, f_R_0, c_R_1, f_R_1⟩ := Hand.hc2 g_R
  have zw : w.heap.size ≤ w3.heap.size := hB.size
  have HG := Lib.hid (And.intro g_A (And.intro g_B (And.intro g_R (hB))))
  clear g_A g_B g_R hB
  go_wp2
  obtain ⟨g_A, g_B, g_R, hB⟩ := HG.out
  refine bodyPost_ret (results_ct rfl _ _ (w.heap.size + 1 + 1) 31 #[.int .i64 x, .int .i64 y] (0, 0) _ rfl ?_ Try.underlying31 rfl (by kernel_rfl)) rfl ⟨rfl, ?_⟩
  · simp (disch := omega) only [Hand.q1, g_R]; rfl
  · exact (hB.setCell (by dsimp only; omega) _).setCell (by dsimp only; omega) _
set_option maxHeartbeats 800000 in
set_option maxRecDepth 100000 in
theorem div_bad (a b c d : Int) (r : Bool) (n : Int) (w : World) (ha0 : -9223372036854775808 ≤ a) (ha1 : a ≤ 9223372036854775807) (hb0 : -9223372036854775808 ≤ b) (hb1 : b ≤ 9223372036854775807)
    (hc0 : -9223372036854775808 ≤ c) (hc1 : c ≤ 9223372036854775807) (hd0 : -9223372036854775808 ≤ d) (hd1 : d ≤ 9223372036854775807) (h : (rightS a b && rightS c d) = r) (hr : r = false ∧ n = 12 ∨ r = true ∧ (c == 0) = true ∧ n = 11) :
    Calls Try.prog 63 #[.agg #[.int .i64 a, .int .i64 b], .agg #[.int .i64 c, .int .i64 d]] w fun e w' => e = .returned (.tuple #[.agg #[.int .i64 0, .int .i64 0], .int .i64 n]) ∧ Below w.heap.size w w' := by
  have rt : ∀ g w, w.heap[g]? = some (.cells #[.int .i64 a, .int .i64 b, .int .i64 c, .int .i64 d] 31 (0, 0)) → Calls Try.prog 81 #[.slice (some ⟨g, 0, none⟩) 2 2] w fun e w' => e = .returned (.bool r) ∧ Below w.heap.size w w' := fun g w hg => by
    have := right_two a b c d g w ha0 ha1 hb0 hb1 hc0 hc1 hd0 hd1 hg
    rw [h] at this; exact this
  have RT := Lib.hid rt
  clear rt h
  rcases hr with ⟨rfl, rfl⟩ | ⟨rfl, hc, rfl⟩
  all_goals
    go_enter Try.func63, Try.ntmps63
    go_wp2_with fail
    with_reducible refine (RT.out _ _ ?_).mono ?_
    · simp (disch := first | omega | (simp only [World.size_alloc]; first | done | omega)) only [Hand.q3]
    rintro e w1 ⟨rfl, hb9⟩
    have h_A : w1.heap[w.heap.size]? = some (.cells #[.int .i64 a, .int .i64 b] 31 (0, 0)) := by
      refine Hand.kb hb9 ?_; simp (disch := first | omega | (simp only [Hand.sa, Hand.ss, Hand.sd, Hand.sn]; first | done | omega)) only [Hand.q2, Hand.q1, Hand.q5, Hand.q6, Hand.q4, Hand.q3] <;> rfl
    have h_B : w1.heap[w.heap.size + 1]? = some (.cells #[.int .i64 c, .int .i64 d] 31 (0, 0)) := by
      refine Hand.kb hb9 ?_; simp (disch := first | omega | (simp only [Hand.sa, Hand.ss, Hand.sd, Hand.sn]; first | done | omega)) only [Hand.q2, Hand.q1, Hand.q5, Hand.q6, Hand.q4, Hand.q3] <;> rfl
    have h_R : w1.heap[w.heap.size + 1 + 1]? = some (.cells #[.int .i64 0, .int .i64 0] 31 (0, 0)) := by
      refine Hand.kb hb9 ?_; simp (disch := first | omega | (simp only [Hand.sa, Hand.ss, Hand.sd, Hand.sn]; first | done | omega)) only [Hand.q2, Hand.q1, Hand.q5, Hand.q6, Hand.q4, Hand.q3] <;> rfl
    have hB' : Below w.heap.size w w1 := Hand.stepB hb9 (by repeat (with_reducible first | apply Below.refl _ _ | apply Below.drew | apply pw_below_drewN | (apply Below.setCell; rotate_left; (dsimp only; omega)) | (apply Below.alloc; rotate_left; (first | omega | (simp only [Hand.sa, Hand.ss, Hand.sd, Hand.sn]; omega))))) (Nat.le_refl _)
    clear hb9
    have g_A := h_A
    have g_B := h_B
    have g_R := h_R
    have hB := hB'
    clear hB' h_A h_B h_R
    obtain ⟨z_A, z1_A, z2_A, y0_A, y1_A⟩ := Hand.hz g_A
    obtain ⟨c_A_0, f_A_0, c_A_1, f_A_1⟩ := Hand.hc2 g_A
    obtain ⟨z_B, z1_B, z2_B, y0_B, y1_B⟩ := Hand.hz g_B
    obtain ⟨c_B_0, f_B_0, c_B_1, f_B_1⟩ := Hand.hc2 g_B
    obtain ⟨z_R, z1_R, z2_R, y0_R, y1_R⟩ := Hand.hz g_R
    obtain ⟨c_R_0, f_R_0, c_R_1, f_R_1⟩ := Hand.hc2 g_R
    have zw : w.heap.size ≤ w1.heap.size := hB.size
    have HG := Lib.hid (And.intro g_A (And.intro g_B (And.intro g_R (hB))))
    clear g_A g_B g_R hB
    go_wp2
    obtain ⟨g_A, g_B, g_R, hB⟩ := HG.out
    refine bodyPost_ret (results_ct rfl _ _ (w.heap.size + 1 + 1) 31 #[.int .i64 0, .int .i64 0] (0, 0) _ rfl ?_ Try.underlying31 rfl (by kernel_rfl)) rfl ⟨rfl, ?_⟩
    · simp (disch := omega) only [Hand.q1, g_R]; rfl
    · exact (hB.setCell (by dsimp only; omega) _).setCell (by dsimp only; omega) _
theorem divR_any (a b c d : Int) (w : World) (ha0 : -9223372036854775808 ≤ a) (ha1 : a ≤ 9223372036854775807) (hb0 : -9223372036854775808 ≤ b) (hb1 : b ≤ 9223372036854775807)
    (hc0 : -9223372036854775808 ≤ c) (hc1 : c ≤ 9223372036854775807) (hd0 : -9223372036854775808 ≤ d) (hd1 : d ≤ 9223372036854775807) :
    Calls Try.prog 63 #[.agg #[.int .i64 a, .int .i64 b], .agg #[.int .i64 c, .int .i64 d]] w fun e w' => e = .returned (.tuple #[.agg #[.int .i64 (divS a b c d).1, .int .i64 (divS a b c d).2.1], .int .i64 (divS a b c d).2.2]) ∧ Below w.heap.size w w' := by
  unfold divS
  by_cases h : (rightS a b && rightS c d) = true
  · rw [if_pos h]
    by_cases hc : c = 0
    · rw [if_pos hc]
      exact div_bad a b c d true 11 w ha0 ha1 hb0 hb1 hc0 hc1 hd0 hd1 h (.inr ⟨rfl, beq_iff_eq.mpr hc, rfl⟩)
    · rw [if_neg hc]
      rw [Bool.and_eq_true] at h
      exact div_ok a b c d _ _ _ _ _ _ w h.1 h.2 (beq_eq_false_iff_ne.mpr hc) rfl rfl rfl rfl
  · rw [if_neg h]
    exact div_bad a b c d false 12 w ha0 ha1 hb0 hb1 hc0 hc1 hd0 hd1 (by simpa using h) (.inl ⟨rfl, rfl⟩)
end Go.Proofs.Ythlpaglldhgmfaa.PA
