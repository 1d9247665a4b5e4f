/- Cmp, by, Div. -/
import Derived.Test.YthlpaglldhgmfaaRatF
namespace Go.Proofs.Ythlpaglldhgmfaa.PA
open Go.RowKit Go.Proofs.YthlpaglldhgmfaaW.PrintWords Go.Proofs.YthlpaglldhgmfaaW.PrintLast Go.Proofs.YthlpaglldhgmfaaW.PrintMore
attribute [local go_sem high] eqA85 eqA31
set_option linter.unusedSimpArgs false
set_option linter.unusedVariables false
/-- a against b -/
def cmpS (a b c d : Int) : Int :=
  if (decide (a < 0) == decide (c < 0)) = true then (if a < 0 then -(cmpN (a.natAbs * d.natAbs) (c.natAbs * b.natAbs)) else cmpN (a.natAbs * d.natAbs) (c.natAbs * b.natAbs)) else if a < 0 then -1 else 1
set_option maxHeartbeats 800000 in
set_option maxRecDepth 100000 in
theorem cmpR_neg (a b c d : Int) (w : World) (h : (decide (a < 0) == decide (c < 0)) = false) (h2 : decide (a < 0) = true) :
    Calls Try.prog 18 #[.agg #[.int .i64 a, .int .i64 b], .agg #[.int .i64 c, .int .i64 d]] w fun e w' => e = .returned (.int .i64 (-1)) ∧ Below w.heap.size w w' := by
  have h3 : decide (c < 0) = false := by rw [h2] at h; simpa using h
  clear h
  go_enter Try.func18, Try.ntmps18
  go_wp2
  go_ret
  exact ⟨rfl, ((Below.refl _ _).alloc (Nat.le_refl _) _).alloc (by simp) _⟩
set_option maxHeartbeats 800000 in
set_option maxRecDepth 100000 in
theorem cmpR_pos (a b c d : Int) (w : World) (h : (decide (a < 0) == decide (c < 0)) = false) (h2 : decide (a < 0) = false) :
    Calls Try.prog 18 #[.agg #[.int .i64 a, .int .i64 b], .agg #[.int .i64 c, .int .i64 d]] w fun e w' => e = .returned (.int .i64 1) ∧ Below w.heap.size w w' := by
  have h3 : decide (c < 0) = true := by rw [h2] at h; simpa using h
  clear h
  go_enter Try.func18, Try.ntmps18
  go_wp2
  go_ret
  exact ⟨rfl, ((Below.refl _ _).alloc (Nat.le_refl _) _).alloc (by simp) _⟩
theorem cmpN_range (x y : Nat) : -1 ≤ cmpN x y ∧ cmpN x y ≤ 1 := by unfold cmpN; split <;> (try split) <;> omega
set_option maxHeartbeats 800000 in
set_option maxRecDepth 100000 in
theorem cmpR_same (a b c d n : Int) (p q : Nat) (s : Bool) (w : World) (h : decide (a < 0) = s) (h2 : decide (c < 0) = s)
    (ha0 : -9223372036854775808 ≤ a) (ha1 : a ≤ 9223372036854775807) (hb0 : 0 ≤ b) (hb1 : b ≤ 9223372036854775807)
    (hc0 : -9223372036854775808 ≤ c) (hc1 : c ≤ 9223372036854775807) (hd0 : 0 ≤ d) (hd1 : d ≤ 9223372036854775807)
    (hp : a.natAbs * d.natAbs = p) (hq : c.natAbs * b.natAbs = q) (hn : cmpN p q = n) :
    Calls Try.prog 18 #[.agg #[.int .i64 a, .int .i64 b], .agg #[.int .i64 c, .int .i64 d]] w fun e w' => e = .returned (.int .i64 (if s = true then -n else n)) ∧ Below w.heap.size w w' := by
  have n0 : -1 ≤ n := by rw [← hn]; exact (cmpN_range p q).1
  have n1 : n ≤ 1 := by rw [← hn]; exact (cmpN_range p q).2
  have eb : IntKind.u64.wrap b = (b.natAbs : Int) := by rw [U64.wrap_u64]; omega
  have ed : IntKind.u64.wrap d = (d.natAbs : Int) := by rw [U64.wrap_u64]; omega
  have m1 : ∀ w, Calls Try.prog 50 #[.int .u64 (a.natAbs : Int), .int .u64 (d.natAbs : Int)] w fun e w' => e = .returned (.agg #[.int .u64 (hiN p), .int .u64 (loN p)]) ∧ Below w.heap.size w w' := fun w => by rw [← hp]; exact mul_any _ _ (by omega) (by omega) w
  have m2 : ∀ w, Calls Try.prog 50 #[.int .u64 (c.natAbs : Int), .int .u64 (b.natAbs : Int)] w fun e w' => e = .returned (.agg #[.int .u64 (hiN q), .int .u64 (loN q)]) ∧ Below w.heap.size w w' := fun w => by rw [← hq]; exact mul_any _ _ (by omega) (by omega) w
  have m3 : ∀ w, Calls Try.prog 52 #[.agg #[.int .u64 (hiN p), .int .u64 (loN p)], .agg #[.int .u64 (hiN q), .int .u64 (loN q)]] w fun e w' => e = .returned (.int .i64 n) ∧ Below w.heap.size w w' := fun w => by rw [← hn]; exact cmp_any p q w
  have s1 : ∀ w, Calls Try.prog 51 #[.int .i64 a] w fun e w' => e = .returned (.int .u64 (a.natAbs : Int)) ∧ Drawn0 w w' := size_any a (by omega) (by omega)
  have s2 : ∀ w, Calls Try.prog 51 #[.int .i64 c] w fun e w' => e = .returned (.int .u64 (c.natAbs : Int)) ∧ Drawn0 w w' := size_any c (by omega) (by omega)
  have M1 := Lib.hid m1
  have M2 := Lib.hid m2
  have M3 := Lib.hid m3
  have S1 := Lib.hid s1
  have S2 := Lib.hid s2
  clear m1 m2 m3 s1 s2 hp hq hn
  go_enter Try.func18, Try.ntmps18
  cases s
  all_goals
    go_wp2
    obtain ⟨W, hW⟩ : ∃ W_, W_ = (w.alloc (.cells #[.int .i64 a, .int .i64 b] 31)).alloc (.cells #[.int .i64 c, .int .i64 d] 31) := ⟨_, rfl⟩
    rw [← hW]
    have h_A : W.heap[w.heap.size]? = some (.cells #[.int .i64 a, .int .i64 b] 31 (0, 0)) := by
      rw [hW]
      first | (simp (disch := first | with_reducible assumption | (with_reducible first | exact Nat.ne_of_lt (by assumption) | exact Nat.ne_of_gt (by assumption) | exact Ne.symm (by assumption)) | ((fail_if_success (refine Hand.trip (by with_reducible rfl) ?_)); first | omega | (simp only [Hand.sa, Hand.ss, Hand.sd, Hand.sn]; first | done | with_reducible assumption | omega))) only [Hand.q2, Hand.q1, Hand.q5, Hand.q6, Hand.q4, Hand.q3]; done) | (simp (disch := first | with_reducible assumption | (with_reducible first | exact Nat.ne_of_lt (by assumption) | exact Nat.ne_of_gt (by assumption) | exact Ne.symm (by assumption)) | ((fail_if_success (refine Hand.trip (by with_reducible rfl) ?_)); first | omega | (simp only [Hand.sa, Hand.ss, Hand.sd, Hand.sn]; first | done | with_reducible assumption | omega))) only [Hand.q2, Hand.q1, Hand.q5, Hand.q6, Hand.q4, Hand.q3]; rfl)
    have h_B : W.heap[w.heap.size + 1]? = some (.cells #[.int .i64 c, .int .i64 d] 31 (0, 0)) := by
      rw [hW]
      first | (simp (disch := first | with_reducible assumption | (with_reducible first | exact Nat.ne_of_lt (by assumption) | exact Nat.ne_of_gt (by assumption) | exact Ne.symm (by assumption)) | ((fail_if_success (refine Hand.trip (by with_reducible rfl) ?_)); first | omega | (simp only [Hand.sa, Hand.ss, Hand.sd, Hand.sn]; first | done | with_reducible assumption | omega))) only [Hand.q2, Hand.q1, Hand.q5, Hand.q6, Hand.q4, Hand.q3]; done) | (simp (disch := first | with_reducible assumption | (with_reducible first | exact Nat.ne_of_lt (by assumption) | exact Nat.ne_of_gt (by assumption) | exact Ne.symm (by assumption)) | ((fail_if_success (refine Hand.trip (by with_reducible rfl) ?_)); first | omega | (simp only [Hand.sa, Hand.ss, Hand.sd, Hand.sn]; first | done | with_reducible assumption | omega))) only [Hand.q2, Hand.q1, Hand.q5, Hand.q6, Hand.q4, Hand.q3]; rfl)
    have hB' : Below w.heap.size w W := by
      rw [hW]
      repeat (first | exact Below.refl _ _ | (with_reducible first | apply Below.drew | apply pw_below_drewN | refine Below.setCell ?_ (by dsimp only; omega) _ | refine Below.alloc ?_ (by first | omega | (simp only [Hand.sa, Hand.ss, Hand.sd, Hand.sn]; omega)) _))
    clear hW
    have g_A := h_A
    have g_B := h_B
    have hB := hB'
    clear hB' h_A h_B
    obtain ⟨z_A, z1_A, z2_A, y0_A, y1_A⟩ := Hand.hz g_A
    obtain ⟨c_A_0, f_A_0, c_A_1, f_A_1⟩ := Hand.hc2 g_A
    obtain ⟨z_B, z1_B, z2_B, y0_B, y1_B⟩ := Hand.hz g_B
    obtain ⟨c_B_0, f_B_0, c_B_1, f_B_1⟩ := Hand.hc2 g_B
    have zw : w.heap.size ≤ W.heap.size := hB.size
    have HG := Lib.hid (And.intro g_A (And.intro g_B (hB)))
    clear g_A g_B hB
    have HBW := Lib.hid (HG.out.2.2)
    have HK := Lib.hid (And.intro c_A_0 (And.intro c_A_1 (And.intro c_B_0 (c_B_1))))
    have BD : Below W.heap.size W W.drew := Below.drew (Below.refl _ _)
    have BR : Below W.heap.size W W := Below.refl _ _
    go_region_held3 (fun w_ => Below w.heap.size w w_ ∧ w_.cell? ⟨w.heap.size, 0, none⟩ = some (.int .i64 a) ∧ w_.cell? ⟨w.heap.size, 1, none⟩ = some (.int .i64 b) ∧ w_.cell? ⟨w.heap.size + 1, 0, none⟩ = some (.int .i64 c) ∧ w_.cell? ⟨w.heap.size + 1, 1, none⟩ = some (.int .i64 d)) (first | with_reducible (refine ⟨?_, (Below.cell BR (p := ⟨w.heap.size, 0, none⟩) z_A).trans (HK.out.1), (Below.cell BR (p := ⟨w.heap.size, 1, none⟩) z_A).trans (HK.out.2.1), (Below.cell BR (p := ⟨w.heap.size + 1, 0, none⟩) z_B).trans (HK.out.2.2.1), (Below.cell BR (p := ⟨w.heap.size + 1, 1, none⟩) z_B).trans (HK.out.2.2.2)⟩; apply (HBW.out.trans (Below.mono BR zw))) | with_reducible (refine ⟨?_, (Below.cell BD (p := ⟨w.heap.size, 0, none⟩) z_A).trans (HK.out.1), (Below.cell BD (p := ⟨w.heap.size, 1, none⟩) z_A).trans (HK.out.2.1), (Below.cell BD (p := ⟨w.heap.size + 1, 0, none⟩) z_B).trans (HK.out.2.2.1), (Below.cell BD (p := ⟨w.heap.size + 1, 1, none⟩) z_B).trans (HK.out.2.2.2)⟩; apply (HBW.out.trans (Below.mono BD zw))) | with_reducible (refine ⟨?_, (Below.cell BB (p := ⟨w.heap.size, 0, none⟩) z_A).trans (HK.out.1), (Below.cell BB (p := ⟨w.heap.size, 1, none⟩) z_A).trans (HK.out.2.1), (Below.cell BB (p := ⟨w.heap.size + 1, 0, none⟩) z_B).trans (HK.out.2.2.1), (Below.cell BB (p := ⟨w.heap.size + 1, 1, none⟩) z_B).trans (HK.out.2.2.2)⟩; apply (HBW.out.trans (Below.mono BB zw))) | (refine ⟨?_, ?_, ?_, ?_, ?_⟩; (focus (repeat (with_reducible first | apply (HBW.out.trans (Below.mono BB zw)) | apply Below.drew | (apply Below.setCell; rotate_left; (dsimp only; omega)) | (apply Below.alloc; rotate_left; (first | omega | (simp only [Hand.sa, Hand.ss, Hand.sd, Hand.sn]; omega)))))); (repeat (with_reducible first | exact (Below.cell BB (p := ⟨w.heap.size, 0, none⟩) z_A).trans (HK.out.1) | refine Hand.cell_alloc ?_ | refine Hand.cell_drew ?_ | refine Hand.cell_far (by omega) ?_)); (repeat (with_reducible first | exact (Below.cell BB (p := ⟨w.heap.size, 1, none⟩) z_A).trans (HK.out.2.1) | refine Hand.cell_alloc ?_ | refine Hand.cell_drew ?_ | refine Hand.cell_far (by omega) ?_)); (repeat (with_reducible first | exact (Below.cell BB (p := ⟨w.heap.size + 1, 0, none⟩) z_B).trans (HK.out.2.2.1) | refine Hand.cell_alloc ?_ | refine Hand.cell_drew ?_ | refine Hand.cell_far (by omega) ?_)); (repeat (with_reducible first | exact (Below.cell BB (p := ⟨w.heap.size + 1, 1, none⟩) z_B).trans (HK.out.2.2.2) | refine Hand.cell_alloc ?_ | refine Hand.cell_drew ?_ | refine Hand.cell_far (by omega) ?_)))) (first | (go_at_call 51; ((with_reducible refine (S1.out _).mono ?_); rintro e w2 ⟨rfl, hb_⟩; have BB : Below W.heap.size W w2 := Hand.stepB hb_.below (by assumption) (Nat.le_refl _); have zB_w2 := Below.size BB; clear hb_)) | (go_at_call 51; ((with_reducible refine (S2.out _).mono ?_); rintro e w3 ⟨rfl, hb_⟩; have BB : Below W.heap.size W w3 := Hand.stepB hb_.below (by assumption) (Nat.le_refl _); have zB_w3 := Below.size BB; clear hb_)) | (go_at_call 50; ((with_reducible refine (M1.out _).mono ?_); rintro e w4 ⟨rfl, hb_⟩; have BB : Below W.heap.size W w4 := Hand.stepB hb_ (by assumption) (Nat.le_refl _); have zB_w4 := Below.size BB; clear hb_)) | (go_at_call 50; ((with_reducible refine (M2.out _).mono ?_); rintro e w5 ⟨rfl, hb_⟩; have BB : Below W.heap.size W w5 := Hand.stepB hb_ (by assumption) (Nat.le_refl _); have zB_w5 := Below.size BB; clear hb_)) | (go_at_call 52; ((with_reducible refine (M3.out _).mono ?_); rintro e w6 ⟨rfl, hb_⟩; have BB : Below W.heap.size W w6 := Hand.stepB hb_ (by assumption) (Nat.le_refl _); have zB_w6 := Below.size BB; clear hb_)))
    have k0 : w6.cell? ⟨w.heap.size, 0, none⟩ = some (.int .i64 a) := (Below.cell BB (p := ⟨w.heap.size, 0, none⟩) z_A).trans c_A_0
    go_wp2
    obtain ⟨g_A, g_B, hB⟩ := HG.out
    go_ret
    exact ⟨by rfl, hB.trans (Below.mono BB zw)⟩
theorem cmpR_any (a b c d : Int) (w : World) 
    (ha0 : -9223372036854775808 ≤ a) (ha1 : a ≤ 9223372036854775807) (hb0 : 0 ≤ b) (hb1 : b ≤ 9223372036854775807)
    (hc0 : -9223372036854775808 ≤ c) (hc1 : c ≤ 9223372036854775807) (hd0 : 0 ≤ d) (hd1 : d ≤ 9223372036854775807) :
    Calls Try.prog 18 #[.agg #[.int .i64 a, .int .i64 b], .agg #[.int .i64 c, .int .i64 d]] w fun e w' => e = .returned (.int .i64 (cmpS a b c d)) ∧ Below w.heap.size w w' := by
  unfold cmpS
  by_cases h : (decide (a < 0) == decide (c < 0)) = true
  · rw [if_pos h]
    have := cmpR_same a b c d _ _ _ (decide (a < 0)) w rfl (by rw [beq_iff_eq] at h; exact h.symm) ha0 ha1 hb0 hb1 hc0 hc1 hd0 hd1 rfl rfl rfl
    simp only [decide_eq_true_eq] at this
    exact this
  · rw [if_neg h]
    have h' : (decide (a < 0) == decide (c < 0)) = false := by simpa using h
    by_cases h2 : a < 0
    · rw [if_pos h2]; exact cmpR_neg a b c d w h' (decide_eq_true h2)
    · rw [if_neg h2]; exact cmpR_pos a b c d w h' (decide_eq_false h2)
end Go.Proofs.Ythlpaglldhgmfaa.PA
