/- A label's parts, minute by minute. The reference: Label. The reference: Label told at all inputs. Reading a label that was written. Lists of bytes in order; texts of numbers that rise. (What TrRis has of these, without the walks.) -/
import Derived.Test.YtghiibdhibcbaaaGreatDoorMH
import Derived.Deep.RegionHeld3
import Derived.Test.YtghiibdhibcbaaaGreatDoorMG
namespace Go.Proofs.YtghiibdhibcbaaaGreatDoor.PA
open Go Go.Proofs.YtghiibdhibcbaaaGreatDoor.CS
set_option linter.unusedSimpArgs false
set_option linter.unusedVariables false
/-- how many numbers the first minutes have -/
def consq (q : Nat → Int) : Nat → Int
  | 0 => 0
  | m + 1 => q m + consq q m
/-- the minute that has been come to, and what is left -/
def stepP (q : Nat → Int) (r0 : Int) (m : Nat) (r : Int) : Prop := m ≤ 9 ∧ consq q m + r = r0 ∧ 0 ≤ r
theorem outS_0 (n d : Int) (dr : Bool) : outS n d dr 0 = 0 := by unfold outS; rw [if_pos (by decide)]
theorem outS_p (n d : Int) (dr : Bool) {m : Nat} (h0 : 1 ≤ m) (h9 : m ≤ 9) : outS n d dr m = drop n d dr := by unfold outS; rw [if_neg (by omega)]
theorem consq_eq (F D : Int) (q : Nat → Int) (h0 : q 0 = 60 * F) (hq : ∀ m, 1 ≤ m → m ≤ 9 → q m = 60 * F - D) : ∀ m : Nat, m ≤ 9 → consq q (m + 1) = 60 * F + (m : Int) * (60 * F - D) := by
  intro m
  induction m with
  | zero => intro _; show q 0 + 0 = _; rw [h0]; simp
  | succ m ih =>
    intro h
    show q (m + 1) + consq q (m + 1) = _
    rw [hq (m + 1) (by omega) h, ih (by omega), Int.natCast_succ, Int.add_mul]
    omega
/-- all of ten minutes -/
theorem consq_ten (F D : Int) (q : Nat → Int) (h0 : q 0 = 60 * F) (hq : ∀ m, 1 ≤ m → m ≤ 9 → q m = 60 * F - D) : consq q 10 = 600 * F - 9 * D := by
  rw [consq_eq F D q h0 hq 9 (by decide)]; omega
/-- a step more -/
theorem stepP_next {F D r0 : Int} {q : Nat → Int} (h0 : q 0 = 60 * F) (hq : ∀ m, 1 ≤ m → m ≤ 9 → q m = 60 * F - D) (hr : r0 < 600 * F - 9 * D) {m : Nat} {r : Int} (h : stepP q r0 m r) (hge : q m ≤ r) : stepP q r0 (m + 1) (r - q m) := by
  obtain ⟨h1, h2, h3⟩ := h
  have h4 : consq q (m + 1) = q m + consq q m := rfl
  refine ⟨?_, by omega, by omega⟩
  rcases Nat.lt_or_ge m 9 with h5 | h5
  · omega
  · have h6 : m = 9 := by omega
    have := consq_ten F D q h0 hq
    subst h6
    have h7 : consq q (9 + 1) = consq q 10 := rfl
    omega
/-- the number that is said, by minutes -/
theorem num_parts {n d fr : Int} {dr : Bool} (o : Ok n d dr) {q : Nat → Int} (hq : ∀ m : Nat, q m = 60 * full n d - outS n d dr m) {m : Nat} {r : Int}
    (h : stepP q (fr % (600 * full n d - 9 * drop n d dr)) m r) (hlt : r < q m) :
    num n d dr fr = 60 * full n d * (m + 10 * (fr / (600 * full n d - 9 * drop n d dr))) + (r + outS n d dr m) ∧ 0 ≤ r + outS n d dr m ∧ r + outS n d dr m < 60 * full n d := by
  obtain ⟨f0, f1⟩ := full_le o
  obtain ⟨D0, D1⟩ := @drop_le n d dr
  have q0 : q 0 = 60 * full n d := by rw [hq 0]; show 60 * full n d - outS n d dr 0 = _; rw [outS_0]; omega
  have qp : ∀ m, 1 ≤ m → m ≤ 9 → q m = 60 * full n d - drop n d dr := fun m a b => by rw [hq m, outS_p n d dr a b]
  obtain ⟨h1, h2, h3⟩ := h
  unfold num
  have e0 : (600 * full n d - 9 * drop n d dr) * (fr / (600 * full n d - 9 * drop n d dr)) + fr % (600 * full n d - 9 * drop n d dr) = fr := Int.mul_ediv_add_emod _ _
  obtain ⟨F, hF⟩ : ∃ F, full n d = F := ⟨_, rfl⟩
  obtain ⟨D, hD⟩ : ∃ D, drop n d dr = D := ⟨_, rfl⟩
  rw [hF] at f0 f1 q0 qp h2 e0 ⊢
  rw [hD] at D0 D1 qp h2 e0 ⊢
  obtain ⟨T, hT⟩ : ∃ T, fr / (600 * F - 9 * D) = T := ⟨_, rfl⟩
  obtain ⟨R, hR⟩ : ∃ R, fr % (600 * F - 9 * D) = R := ⟨_, rfl⟩
  rw [hT, hR] at e0
  rw [hR] at h2
  rw [hT, hR]
  have e1 : (600 * F - 9 * D) * T = 10 * (60 * F * T) - 9 * (T * D) := by grind
  have e2 : T * 9 * D = 9 * (T * D) := by grind
  rcases Nat.eq_zero_or_pos m with rfl | hm
  · have hc : consq q 0 = 0 := rfl
    have ho : outS n d dr ((0 : Nat) : Int) = 0 := outS_0 n d dr
    rw [ho, if_neg (by omega), e2]
    have e3 : 60 * F * (((0 : Nat) : Int) + 10 * T) = 10 * (60 * F * T) := by grind
    rw [e3]
    refine ⟨by omega, by omega, by omega⟩
  · have ho := outS_p n d dr hm h1
    obtain ⟨j, rfl⟩ : ∃ j, m = j + 1 := ⟨m - 1, by omega⟩
    have hc := consq_eq F D q q0 qp j (by omega)
    have hqm := qp (j + 1) (by omega) h1
    rw [ho, hD]
    have hj : (R - 60 * F) / (60 * F - D) = j := by
      rw [show R - 60 * F = r + (j : Int) * (60 * F - D) by omega, Int.add_mul_ediv_right _ _ (by omega), Int.ediv_eq_zero_of_lt h3 (by omega)]
      omega
    have h9 : 0 ≤ (j : Int) * (60 * F - D) := Int.mul_nonneg (by omega) (by omega)
    rw [if_pos (by omega), hj, e2]
    have e3 : 60 * F * (((j + 1 : Nat) : Int) + 10 * T) = 10 * (60 * F * T) + 60 * F * (j : Int) + 60 * F := by rw [Int.natCast_succ]; grind
    have e4 : (j : Int) * (60 * F - D) = 60 * F * (j : Int) - (j : Int) * D := by grind
    rw [e3]
    refine ⟨by omega, by omega, by omega⟩
/-- a label's text out of these -/
theorem labL_parts {n d fr : Int} {dr : Bool} (o : Ok n d dr) {M K : Int} (h : num n d dr fr = 60 * full n d * M + K) (k0 : 0 ≤ K) (k1 : K < 60 * full n d) :
    labL n d dr fr = labT dr (M / 60) (M % 60) (K / full n d) (K % full n d) (wide (full n d)) := by
  obtain ⟨f0, f1⟩ := full_le o
  unfold labL
  rw [h]
  obtain ⟨F, hF⟩ : ∃ F, full n d = F := ⟨_, rfl⟩
  rw [hF] at f0 f1 k1 ⊢
  have e1 : 60 * F * M + K = K + (60 * M) * F := by grind
  have e2 : (60 * F * M + K) / F = 60 * M + K / F := by rw [e1, Int.add_mul_ediv_right _ _ (by omega)]; omega
  have e3 : (60 * F * M + K) % F = K % F := by rw [e1, Int.add_mul_emod_self_right]
  have e4 : K / F < 60 := (Int.ediv_lt_iff_lt_mul (by omega)).mpr (by omega)
  have e5 : 0 ≤ K / F := Int.ediv_nonneg k0 (by omega)
  rw [e2, e3, show (60 * M + K / F) / 3600 = M / 60 by omega, show (60 * M + K / F) / 60 % 60 = M % 60 by omega, show (60 * M + K / F) % 60 = K / F by omega]
end Go.Proofs.YtghiibdhibcbaaaGreatDoor.PA
namespace Go.Proofs.YtghiibdhibcbaaaGreatDoor.PA
open Go Go.RowKit Go.Proofs.YtghiibdhibcbaaaGreatDoorW.PrintWords Go.Proofs.YtghiibdhibcbaaaGreatDoorW.PrintLast Go.Proofs.YtghiibdhibcbaaaGreatDoorW.PrintMore Go.Proofs.YtghiibdhibcbaaaGreatDoor.CS
set_option linter.unusedSimpArgs false
set_option linter.unusedVariables false
set_option maxHeartbeats 800000 in
set_option maxRecDepth 100000 in
theorem rlabel_bad (n d c fr : Int) (dr : Bool) (hc : (c == 0) = false) (w : World)
    (m1 : ∀ w, Calls Tryz.prog 16 #[rate n d dr] w fun e w' => e = .returned (.int .i64 c) ∧ Below w.heap.size w w') :
    Calls Tryz.prog 6 #[rate n d dr, .int .i64 fr] w fun e w' => e = .returned (.tuple #[.string ⟨#[]⟩, .int .i64 14]) ∧ Below w.heap.size w w' := by
  have M1 := Lib.hid m1
  clear m1
  go_enter Tryz.func6, Tryz.ntmps6
  go_wp2_with fail
  with_reducible refine (M1.out _).mono ?_
  rintro e w1 ⟨rfl, hb1⟩
  have h_A : w1.heap[w.heap.size]? = some (.cells #[.int .i64 n, .int .i64 d, .bool dr] 23 (0, 0)) := by
    refine Hand.kb hb1 ?_; simp (disch := first | omega | (simp only [Hand.sa, Hand.ss, Hand.sd, Hand.sn]; first | done | omega)) only [Hand.q2, Hand.q1, Hand.q5, Hand.q6, Hand.q4, Hand.q3] <;> rfl
  have hB' : Below w.heap.size w w1 := Hand.stepB hb1 (by repeat (with_reducible first | apply Below.refl _ _ | apply Below.drew | apply pw_below_drewN | (apply Below.setCell; rotate_left; (dsimp only; omega)) | (apply Below.alloc; rotate_left; (first | omega | (simp only [Hand.sa, Hand.ss, Hand.sd, Hand.sn]; omega))))) (Nat.le_refl _)
  clear hb1
  have g_A := h_A
  have hB := hB'
  clear hB' h_A
  obtain ⟨z_A, z1_A, z2_A, y0_A, y1_A⟩ := Hand.hz g_A
  obtain ⟨c_A_0, f_A_0, c_A_1, f_A_1, c_A_2, f_A_2⟩ := Hand.hc3 g_A
  have zw : w.heap.size ≤ w1.heap.size := hB.size
  have HG := Lib.hid (And.intro g_A (hB))
  clear g_A hB
  go_wp2
  go_ret2
  obtain ⟨g_A, hB⟩ := HG.out
  exact ⟨rfl, hB⟩
set_option maxHeartbeats 800000 in
set_option maxRecDepth 100000 in
theorem rlabel_neg (n d fr : Int) (dr : Bool) (h : decide (fr < 0) = true) (w : World)
    (m1 : ∀ w, Calls Tryz.prog 16 #[rate n d dr] w fun e w' => e = .returned (.int .i64 0) ∧ Below w.heap.size w w') :
    Calls Tryz.prog 6 #[rate n d dr, .int .i64 fr] w fun e w' => e = .returned (.tuple #[.string ⟨#[]⟩, .int .i64 31]) ∧ Below w.heap.size w w' := by
  have M1 := Lib.hid m1
  clear m1
  go_enter Tryz.func6, Tryz.ntmps6
  go_wp2_with fail
  with_reducible refine (M1.out _).mono ?_
  rintro e w1 ⟨rfl, hb1⟩
  have h_A : w1.heap[w.heap.size]? = some (.cells #[.int .i64 n, .int .i64 d, .bool dr] 23 (0, 0)) := by
    refine Hand.kb hb1 ?_; simp (disch := first | omega | (simp only [Hand.sa, Hand.ss, Hand.sd, Hand.sn]; first | done | omega)) only [Hand.q2, Hand.q1, Hand.q5, Hand.q6, Hand.q4, Hand.q3] <;> rfl
  have hB' : Below w.heap.size w w1 := Hand.stepB hb1 (by repeat (with_reducible first | apply Below.refl _ _ | apply Below.drew | apply pw_below_drewN | (apply Below.setCell; rotate_left; (dsimp only; omega)) | (apply Below.alloc; rotate_left; (first | omega | (simp only [Hand.sa, Hand.ss, Hand.sd, Hand.sn]; omega))))) (Nat.le_refl _)
  clear hb1
  have g_A := h_A
  have hB := hB'
  clear hB' h_A
  obtain ⟨z_A, z1_A, z2_A, y0_A, y1_A⟩ := Hand.hz g_A
  obtain ⟨c_A_0, f_A_0, c_A_1, f_A_1, c_A_2, f_A_2⟩ := Hand.hc3 g_A
  have zw : w.heap.size ≤ w1.heap.size := hB.size
  have HG := Lib.hid (And.intro g_A (hB))
  clear g_A hB
  go_wp2
  go_ret2
  obtain ⟨g_A, hB⟩ := HG.out
  exact ⟨rfl, hB⟩
set_option maxHeartbeats 800000 in
set_option maxRecDepth 100000 in
theorem rlabel_far (n d fr l : Int) (dr : Bool) (h : decide (fr < 0) = false) (h2 : decide (l < fr) = true) (w : World)
    (m1 : ∀ w, Calls Tryz.prog 16 #[rate n d dr] w fun e w' => e = .returned (.int .i64 0) ∧ Below w.heap.size w w')
    (m2 : ∀ w, Calls Tryz.prog 21 #[rate n d dr] w fun e w' => e = .returned (.int .i64 l) ∧ Below w.heap.size w w') :
    Calls Tryz.prog 6 #[rate n d dr, .int .i64 fr] w fun e w' => e = .returned (.tuple #[.string ⟨#[]⟩, .int .i64 31]) ∧ Below w.heap.size w w' := by
  have M1 := Lib.hid m1
  have M2 := Lib.hid m2
  clear m1 m2
  go_enter Tryz.func6, Tryz.ntmps6
  go_wp2_with fail
  with_reducible refine (M1.out _).mono ?_
  rintro e w1 ⟨rfl, hb1⟩
  have h_A : w1.heap[w.heap.size]? = some (.cells #[.int .i64 n, .int .i64 d, .bool dr] 23 (0, 0)) := by
    refine Hand.kb hb1 ?_; simp (disch := first | omega | (simp only [Hand.sa, Hand.ss, Hand.sd, Hand.sn]; first | done | omega)) only [Hand.q2, Hand.q1, Hand.q5, Hand.q6, Hand.q4, Hand.q3] <;> rfl
  have hB' : Below w.heap.size w w1 := Hand.stepB hb1 (by repeat (with_reducible first | apply Below.refl _ _ | apply Below.drew | apply pw_below_drewN | (apply Below.setCell; rotate_left; (dsimp only; omega)) | (apply Below.alloc; rotate_left; (first | omega | (simp only [Hand.sa, Hand.ss, Hand.sd, Hand.sn]; omega))))) (Nat.le_refl _)
  clear hb1
  have g_A := h_A
  have hB := hB'
  clear hB' h_A
  obtain ⟨z_A, z1_A, z2_A, y0_A, y1_A⟩ := Hand.hz g_A
  obtain ⟨c_A_0, f_A_0, c_A_1, f_A_1, c_A_2, f_A_2⟩ := Hand.hc3 g_A
  have zw : w.heap.size ≤ w1.heap.size := hB.size
  have HG := Lib.hid (And.intro g_A (hB))
  clear g_A hB
  go_wp2_with fail
  with_reducible refine (M2.out _).mono ?_
  rintro e w2 ⟨rfl, hb2⟩
  obtain ⟨g_A, hB⟩ := HG.out
  have h_A : w2.heap[w.heap.size]? = some (.cells #[.int .i64 n, .int .i64 d, .bool dr] 23 (0, 0)) := by
    refine Hand.kb hb2 ?_; first | with_reducible exact g_A | (simp (disch := first | omega | (simp only [Hand.sa, Hand.ss, Hand.sd, Hand.sn]; first | done | omega)) only [Hand.q2, Hand.q1, Hand.q5, Hand.q6, Hand.q4, Hand.q3, g_A] <;> rfl)
  have hB' : Below w.heap.size w w2 := Hand.stepB hb2 (by repeat (with_reducible first | apply hB | apply Below.drew | apply pw_below_drewN | (apply Below.setCell; rotate_left; (dsimp only; omega)) | (apply Below.alloc; rotate_left; (first | omega | (simp only [Hand.sa, Hand.ss, Hand.sd, Hand.sn]; omega))))) (Nat.le_refl _)
  clear HG hB g_A zw z_A z1_A z2_A y0_A y1_A c_A_0 f_A_0 c_A_1 f_A_1 c_A_2 f_A_2
  clear hb2
  have g_A := h_A
  have hB := hB'
  clear hB' h_A
  obtain ⟨z_A, z1_A, z2_A, y0_A, y1_A⟩ := Hand.hz g_A
  obtain ⟨c_A_0, f_A_0, c_A_1, f_A_1, c_A_2, f_A_2⟩ := Hand.hc3 g_A
  have zw : w.heap.size ≤ w2.heap.size := hB.size
  have HG := Lib.hid (And.intro g_A (hB))
  clear g_A hB
  go_wp2
  go_ret2
  obtain ⟨g_A, hB⟩ := HG.out
  exact ⟨rfl, hB⟩
theorem rdigits2 (n : Int) (n0 : 0 ≤ n) (n1 : n ≤ 1000000000) (w : World) :
    Calls Tryz.prog 25 #[.int .i64 n, .int .i64 2] w fun e w' => e = .returned (.string (bs (digL n 2))) ∧ Below w.heap.size w w' := rdigits_any n 2 (by decide) (by decide) n0 n1 w
/-- what the loop over minutes holds -/
def loopL (w wr : World) (n d : Int) (dr : Bool) (q : Nat → Int) (r0 : Int) (x y : Value) : Prop :=
  ∃ (m : Nat) (r : Int), x = .int .i64 r ∧ y = .int .i64 (m : Int) ∧ stepP q r0 m r ∧ r ≤ 86400000 ∧ wr.heap[w.heap.size]? = some (.cells #[.int .i64 n, .int .i64 d, .bool dr] 23 (0, 0)) ∧ Below w.heap.size w wr
set_option maxHeartbeats 4000000 in
set_option maxRecDepth 100000 in
theorem rlabel_false (n d fr l f D T tens r0 : Int) (X : List UInt8) (q : Nat → Int) (h : decide (fr < 0) = false) (h2 : decide (l < fr) = false) (fr0 : 0 ≤ fr) (fr1 : fr ≤ 86400000) (f0 : 1 ≤ f) (f1 : f ≤ 240) (D0 : 0 ≤ D) (D1 : D ≤ 4) (hT : 600 * f - 9 * D = T) (ht' : fr / T = tens) (hr : fr % T = r0) (t0 : 0 ≤ tens) (t1 : tens ≤ 86400000) (r00 : 0 ≤ r0) (r01 : r0 < T)
    (hq : ∀ m : Nat, q m = 60 * f - outS n d false m) (ho : ∀ m : Int, 0 ≤ outS n d false m ∧ outS n d false m ≤ 4) (hs : ∀ m r, stepP q r0 m r → q m ≤ r → stepP q r0 (m + 1) (r - q m))
    (hf : ∀ m r, stepP q r0 m r → r < q m → num n d false fr = 60 * f * ((m : Int) + 10 * tens) + (r + outS n d false m) ∧ 0 ≤ r + outS n d false m ∧ r + outS n d false m < 60 * f)
    (hX : ∀ M K, num n d false fr = 60 * f * M + K → 0 ≤ K → K < 60 * f → X = labT false (M / 60) (M % 60) (K / f) (K % f) (wide f)) (w : World)
    (m1 : ∀ w, Calls Tryz.prog 16 #[rate n d false] w fun e w' => e = .returned (.int .i64 0) ∧ Below w.heap.size w w')
    (m2 : ∀ w, Calls Tryz.prog 21 #[rate n d false] w fun e w' => e = .returned (.int .i64 l) ∧ Below w.heap.size w w')
    (m3 : ∀ w, Calls Tryz.prog 22 #[rate n d false] w fun e w' => e = .returned (.int .i64 f) ∧ Below w.heap.size w w')
    (m4 : ∀ w, Calls Tryz.prog 23 #[rate n d false] w fun e w' => e = .returned (.int .i64 D) ∧ Below w.heap.size w w')
    (m5 : ∀ (m : Int) w, 0 ≤ m → Calls Tryz.prog 24 #[rate n d false, .int .i64 m] w fun e w' => e = .returned (.int .i64 (outS n d false m)) ∧ Below w.heap.size w w') :
    Calls Tryz.prog 6 #[rate n d false, .int .i64 fr] w fun e w' => e = .returned (.tuple #[.string (bs X), .int .i64 0]) ∧ Below w.heap.size w w' := by
  have HF := Lib.hid hf
  have HS := Lib.hid hs
  have HX := Lib.hid hX
  have HQ := Lib.hid hq
  have HO := Lib.hid ho
  have T0 : ¬ T = 0 := by omega
  have T1 : 0 < T := by omega
  subst hr
  subst ht'
  have M1 := Lib.hid m1
  have M2 := Lib.hid m2
  have M3 := Lib.hid m3
  have M4 := Lib.hid m4
  have M5 := Lib.hid m5
  clear m1 m2 m3 m4 m5 hf hs hX hq ho
  go_enter Tryz.func6, Tryz.ntmps6
  go_wp2_with fail
  with_reducible refine (M1.out _).mono ?_
  rintro e w1 ⟨rfl, hb1⟩
  have h_A : w1.heap[w.heap.size]? = some (.cells #[.int .i64 n, .int .i64 d, .bool false] 23 (0, 0)) := by
    refine Hand.kb hb1 ?_; simp (disch := first | omega | (simp only [Hand.sa, Hand.ss, Hand.sd, Hand.sn]; first | done | omega)) only [Hand.q2, Hand.q1, Hand.q5, Hand.q6, Hand.q4, Hand.q3] <;> rfl
  have hB' : Below w.heap.size w w1 := Hand.stepB hb1 (by repeat (with_reducible first | apply Below.refl _ _ | apply Below.drew | apply pw_below_drewN | (apply Below.setCell; rotate_left; (dsimp only; omega)) | (apply Below.alloc; rotate_left; (first | omega | (simp only [Hand.sa, Hand.ss, Hand.sd, Hand.sn]; omega))))) (Nat.le_refl _)
  clear hb1
  have g_A := h_A
  have hB := hB'
  clear hB' h_A
  obtain ⟨z_A, z1_A, z2_A, y0_A, y1_A⟩ := Hand.hz g_A
  obtain ⟨c_A_0, f_A_0, c_A_1, f_A_1, c_A_2, f_A_2⟩ := Hand.hc3 g_A
  have zw : w.heap.size ≤ w1.heap.size := hB.size
  have HG := Lib.hid (And.intro g_A (hB))
  clear g_A hB
  go_wp2_with fail
  with_reducible refine (M2.out _).mono ?_
  rintro e w2 ⟨rfl, hb2⟩
  obtain ⟨g_A, hB⟩ := HG.out
  have h_A : w2.heap[w.heap.size]? = some (.cells #[.int .i64 n, .int .i64 d, .bool false] 23 (0, 0)) := by
    refine Hand.kb hb2 ?_; first | with_reducible exact g_A | (simp (disch := first | omega | (simp only [Hand.sa, Hand.ss, Hand.sd, Hand.sn]; first | done | omega)) only [Hand.q2, Hand.q1, Hand.q5, Hand.q6, Hand.q4, Hand.q3, g_A] <;> rfl)
  have hB' : Below w.heap.size w w2 := Hand.stepB hb2 (by repeat (with_reducible first | apply hB | apply Below.drew | apply pw_below_drewN | (apply Below.setCell; rotate_left; (dsimp only; omega)) | (apply Below.alloc; rotate_left; (first | omega | (simp only [Hand.sa, Hand.ss, Hand.sd, Hand.sn]; omega))))) (Nat.le_refl _)
  clear HG hB g_A zw z_A z1_A z2_A y0_A y1_A c_A_0 f_A_0 c_A_1 f_A_1 c_A_2 f_A_2
  clear hb2
  have g_A := h_A
  have hB := hB'
  clear hB' h_A
  obtain ⟨z_A, z1_A, z2_A, y0_A, y1_A⟩ := Hand.hz g_A
  obtain ⟨c_A_0, f_A_0, c_A_1, f_A_1, c_A_2, f_A_2⟩ := Hand.hc3 g_A
  have zw : w.heap.size ≤ w2.heap.size := hB.size
  have HG := Lib.hid (And.intro g_A (hB))
  clear g_A hB
  go_wp2_with fail
  with_reducible refine (M3.out _).mono ?_
  rintro e w3 ⟨rfl, hb3⟩
  obtain ⟨g_A, hB⟩ := HG.out
  have h_A : w3.heap[w.heap.size]? = some (.cells #[.int .i64 n, .int .i64 d, .bool false] 23 (0, 0)) := by
    refine Hand.kb hb3 ?_; first | with_reducible exact g_A | (simp (disch := first | omega | (simp only [Hand.sa, Hand.ss, Hand.sd, Hand.sn]; first | done | omega)) only [Hand.q2, Hand.q1, Hand.q5, Hand.q6, Hand.q4, Hand.q3, g_A] <;> rfl)
  have hB' : Below w.heap.size w w3 := Hand.stepB hb3 (by repeat (with_reducible first | apply hB | apply Below.drew | apply pw_below_drewN | (apply Below.setCell; rotate_left; (dsimp only; omega)) | (apply Below.alloc; rotate_left; (first | omega | (simp only [Hand.sa, Hand.ss, Hand.sd, Hand.sn]; omega))))) (Nat.le_refl _)
  clear HG hB g_A zw z_A z1_A z2_A y0_A y1_A c_A_0 f_A_0 c_A_1 f_A_1 c_A_2 f_A_2
  clear hb3
  have g_A := h_A
  have hB := hB'
  clear hB' h_A
  obtain ⟨z_A, z1_A, z2_A, y0_A, y1_A⟩ := Hand.hz g_A
  obtain ⟨c_A_0, f_A_0, c_A_1, f_A_1, c_A_2, f_A_2⟩ := Hand.hc3 g_A
  have zw : w.heap.size ≤ w3.heap.size := hB.size
  have HG := Lib.hid (And.intro g_A (hB))
  clear g_A hB
  go_wp2_with fail
  with_reducible refine (M4.out _).mono ?_
  rintro e w4 ⟨rfl, hb4⟩
  obtain ⟨g_A, hB⟩ := HG.out
  have h_A : w4.heap[w.heap.size]? = some (.cells #[.int .i64 n, .int .i64 d, .bool false] 23 (0, 0)) := by
    refine Hand.kb hb4 ?_; first | with_reducible exact g_A | (simp (disch := first | omega | (simp only [Hand.sa, Hand.ss, Hand.sd, Hand.sn]; first | done | omega)) only [Hand.q2, Hand.q1, Hand.q5, Hand.q6, Hand.q4, Hand.q3, g_A] <;> rfl)
  have hB' : Below w.heap.size w w4 := Hand.stepB hb4 (by repeat (with_reducible first | apply hB | apply Below.drew | apply pw_below_drewN | (apply Below.setCell; rotate_left; (dsimp only; omega)) | (apply Below.alloc; rotate_left; (first | omega | (simp only [Hand.sa, Hand.ss, Hand.sd, Hand.sn]; omega))))) (Nat.le_refl _)
  clear HG hB g_A zw z_A z1_A z2_A y0_A y1_A c_A_0 f_A_0 c_A_1 f_A_1 c_A_2 f_A_2
  clear hb4
  have g_A := h_A
  have hB := hB'
  clear hB' h_A
  obtain ⟨z_A, z1_A, z2_A, y0_A, y1_A⟩ := Hand.hz g_A
  obtain ⟨c_A_0, f_A_0, c_A_1, f_A_1, c_A_2, f_A_2⟩ := Hand.hc3 g_A
  have zw : w.heap.size ≤ w4.heap.size := hB.size
  have HG := Lib.hid (And.intro g_A (hB))
  clear g_A hB
  go_wp2_with fail
  with_reducible refine (M4.out _).mono ?_
  rintro e w5 ⟨rfl, hb5⟩
  obtain ⟨g_A, hB⟩ := HG.out
  have h_A : w5.heap[w.heap.size]? = some (.cells #[.int .i64 n, .int .i64 d, .bool false] 23 (0, 0)) := by
    refine Hand.kb hb5 ?_; first | with_reducible exact g_A | (simp (disch := first | omega | (simp only [Hand.sa, Hand.ss, Hand.sd, Hand.sn]; first | done | omega)) only [Hand.q2, Hand.q1, Hand.q5, Hand.q6, Hand.q4, Hand.q3, g_A] <;> rfl)
  have hB' : Below w.heap.size w w5 := Hand.stepB hb5 (by repeat (with_reducible first | apply hB | apply Below.drew | apply pw_below_drewN | (apply Below.setCell; rotate_left; (dsimp only; omega)) | (apply Below.alloc; rotate_left; (first | omega | (simp only [Hand.sa, Hand.ss, Hand.sd, Hand.sn]; omega))))) (Nat.le_refl _)
  clear HG hB g_A zw z_A z1_A z2_A y0_A y1_A c_A_0 f_A_0 c_A_1 f_A_1 c_A_2 f_A_2
  clear hb5
  have g_A := h_A
  have hB := hB'
  clear hB' h_A
  obtain ⟨z_A, z1_A, z2_A, y0_A, y1_A⟩ := Hand.hz g_A
  obtain ⟨c_A_0, f_A_0, c_A_1, f_A_1, c_A_2, f_A_2⟩ := Hand.hc3 g_A
  have zw : w.heap.size ≤ w5.heap.size := hB.size
  have HG := Lib.hid (And.intro g_A (hB))
  clear g_A hB
  go_wp2
  have G5 := Lib.hid HG.out
  clear HG zw z_A z1_A z2_A y0_A y1_A c_A_0 f_A_0 c_A_1 f_A_1 c_A_2 f_A_2
  go_loopw [1, 7] (fun x y wr => loopL w wr n d false q (fr % T) x y) (fun x _ _ => (intOf x).toNat)
  case atStart => exact ⟨0, fr % T, rfl, rfl, ⟨by decide, by show (0 : Int) + fr % T = fr % T; omega, r00⟩, by omega, G5.out.1, G5.out.2⟩
  case round =>
    obtain ⟨m, r, rfl, rfl, q1, hr1, g_A, hB⟩ := hrel
    have r0' := q1.2.2
    have m9' := q1.1
    have o1 := HO.out (m : Int)
    have o2 := HQ.out m
    obtain ⟨om, hom⟩ : ∃ om, outS n d false (m : Int) = om := ⟨_, rfl⟩
    rw [hom] at o1 o2
    have HQM := Lib.hid o2
    have HOM := Lib.hid hom
    have Q1 := Lib.hid q1
    clear q1 o2 hom
    obtain ⟨z_A, z1_A, z2_A, y0_A, y1_A⟩ := Hand.hz g_A
    obtain ⟨c_A_0, f_A_0, c_A_1, f_A_1, c_A_2, f_A_2⟩ := Hand.hc3 g_A
    have zw : w.heap.size ≤ wr.heap.size := hB.size
    have HG := Lib.hid (And.intro g_A (hB))
    clear g_A hB
    go_wp2_with fail
    with_reducible refine (M5.out _ _ (by omega)).mono ?_
    rintro e w6 ⟨rfl, hb6⟩
    rw [HOM.out]
    obtain ⟨g_A, hB⟩ := HG.out
    have h_A : w6.heap[w.heap.size]? = some (.cells #[.int .i64 n, .int .i64 d, .bool false] 23 (0, 0)) := by
      refine Hand.kb hb6 ?_; first | with_reducible exact g_A | (simp (disch := first | omega | (simp only [Hand.sa, Hand.ss, Hand.sd, Hand.sn]; first | done | omega)) only [Hand.q2, Hand.q1, Hand.q5, Hand.q6, Hand.q4, Hand.q3, g_A] <;> rfl)
    have hB' : Below w.heap.size w w6 := Hand.stepB hb6 (by repeat (with_reducible first | apply hB | apply Below.drew | apply pw_below_drewN | (apply Below.setCell; rotate_left; (dsimp only; omega)) | (apply Below.alloc; rotate_left; (first | omega | (simp only [Hand.sa, Hand.ss, Hand.sd, Hand.sn]; omega))))) (Nat.le_refl _)
    clear HG hB g_A zw z_A z1_A z2_A y0_A y1_A c_A_0 f_A_0 c_A_1 f_A_1 c_A_2 f_A_2
    clear hb6
    have g_A := h_A
    have hB := hB'
    clear hB' h_A
    obtain ⟨z_A, z1_A, z2_A, y0_A, y1_A⟩ := Hand.hz g_A
    obtain ⟨c_A_0, f_A_0, c_A_1, f_A_1, c_A_2, f_A_2⟩ := Hand.hc3 g_A
    have zw : w.heap.size ≤ w6.heap.size := hB.size
    have HG := Lib.hid (And.intro g_A (hB))
    clear g_A hB
    by_cases hge : 60 * f - om ≤ r
    · go_wp2_with fail
      with_reducible refine (M5.out _ _ (by omega)).mono ?_
      rintro e w7 ⟨rfl, hb7⟩
      rw [HOM.out]
      obtain ⟨g_A, hB⟩ := HG.out
      have h_A : w7.heap[w.heap.size]? = some (.cells #[.int .i64 n, .int .i64 d, .bool false] 23 (0, 0)) := by
        refine Hand.kb hb7 ?_; first | with_reducible exact g_A | (simp (disch := first | omega | (simp only [Hand.sa, Hand.ss, Hand.sd, Hand.sn]; first | done | omega)) only [Hand.q2, Hand.q1, Hand.q5, Hand.q6, Hand.q4, Hand.q3, g_A] <;> rfl)
      have hB' : Below w.heap.size w w7 := Hand.stepB hb7 (by repeat (with_reducible first | apply hB | apply Below.drew | apply pw_below_drewN | (apply Below.setCell; rotate_left; (dsimp only; omega)) | (apply Below.alloc; rotate_left; (first | omega | (simp only [Hand.sa, Hand.ss, Hand.sd, Hand.sn]; omega))))) (Nat.le_refl _)
      clear HG hB g_A zw z_A z1_A z2_A y0_A y1_A c_A_0 f_A_0 c_A_1 f_A_1 c_A_2 f_A_2
      clear hb7
      have g_A := h_A
      have hB := hB'
      clear hB' h_A
      obtain ⟨z_A, z1_A, z2_A, y0_A, y1_A⟩ := Hand.hz g_A
      obtain ⟨c_A_0, f_A_0, c_A_1, f_A_1, c_A_2, f_A_2⟩ := Hand.hc3 g_A
      have zw : w.heap.size ≤ w7.heap.size := hB.size
      have HG := Lib.hid (And.intro g_A (hB))
      clear g_A hB
      go_wp2
      obtain ⟨g_A, hB⟩ := HG.out
      have KEY : loopL w w7 n d false q (fr % T) (.int .i64 (r - 60 * f + om)) (.int .i64 ((m : Int) + 1)) := ⟨m + 1, r - 60 * f + om, rfl, by first | rfl | go_num, by have := HS.out m r Q1.out (by rw [HQM.out]; exact hge); rw [HQM.out] at this; rw [show r - 60 * f + om = r - (60 * f - om) by omega]; exact this, by omega, g_A, hB⟩
      go_roundw
      case rel => first | exact KEY | ((repeat apply Exists.intro); exact ⟨KEY, rfl⟩)
      case measure => simp [intOf]; omega
    · have hge : r < 60 * f - om := by omega
      obtain ⟨M, hM⟩ : ∃ M, (m : Int) + 10 * (fr / T) = M := ⟨_, rfl⟩
      obtain ⟨K, hK⟩ : ∃ K, r + om = K := ⟨_, rfl⟩
      obtain ⟨e1, e2, e3⟩ := HF.out m r Q1.out (by rw [HQM.out]; exact hge)
      have M0 : 0 ≤ M := by omega
      have M1' : M ≤ 900000000 := by omega
      rw [HOM.out] at e1 e2 e3
      rw [hM, hK] at e1
      rw [hK] at e2 e3
      have K1 : K ≤ 100000000 := by omega
      have z0 : 0 ≤ K / f := Int.ediv_nonneg e2 (by omega)
      have z1 : K / f ≤ K := Int.ediv_le_self _ e2
      have z2 : 0 ≤ K % f := Int.emod_nonneg _ (by omega)
      have z3 : K % f < f := Int.emod_lt_of_pos _ (by omega)
      obtain ⟨S1, hS1⟩ : ∃ S, bs (digL (M / 60) 2) = S := ⟨_, rfl⟩
      obtain ⟨S2, hS2⟩ : ∃ S, bs (digL (M % 60) 2) = S := ⟨_, rfl⟩
      obtain ⟨S3, hS3⟩ : ∃ S, bs (digL (K / f) 2) = S := ⟨_, rfl⟩
      obtain ⟨S4, hS4⟩ : ∃ S, bs (digL (K % f) (wide f)) = S := ⟨_, rfl⟩
      have m6 := rdigits2 (M / 60) (by omega) (by omega)
      have m7 := rdigits2 (M % 60) (by omega) (by omega)
      have m8 := rdigits2 (K / f) z0 (by omega)
      have m9 := rdigits_any (K % f) (wide f) (wide_one f) (wide_le f) z2 (by omega)
      have m10 := rwide_any f
      rw [hS1] at m6
      rw [hS2] at m7
      rw [hS3] at m8
      rw [hS4] at m9
      have q1 : S1.size ≤ 21 := by rw [← hS1]; exact digL_sz (by omega) (by omega) (by decide)
      have q2 : S2.size ≤ 21 := by rw [← hS2]; exact digL_sz (by omega) (by omega) (by decide)
      have q3 : S3.size ≤ 21 := by rw [← hS3]; exact digL_sz (by omega) (by omega) (by decide)
      have q4 : S4.size ≤ 21 := by rw [← hS4]; exact digL_sz (by omega) (by omega) (wide_le f)
      have hR : bs X = S1 ++ (⟨#[58]⟩ : ByteArray) ++ S2 ++ (⟨#[58]⟩ : ByteArray) ++ S3 ++ (⟨#[58]⟩ : ByteArray) ++ S4 := by
        rw [HX.out M K e1 e2 e3, ← hS1, ← hS2, ← hS3, ← hS4]; unfold labT; rw [show (⟨#[58]⟩ : ByteArray) = bs [58] from rfl]; simp only [if_true, Bool.false_eq_true, if_false, bs_cat, List.append_assoc, List.cons_append, List.nil_append]
      obtain ⟨wd, hwd⟩ : ∃ wd : Int, (wide f : Int) = wd := ⟨_, rfl⟩
      rw [hwd] at m9 m10
      obtain ⟨a1, ha1⟩ : ∃ a, M / 60 = a := ⟨_, rfl⟩
      obtain ⟨a2, ha2⟩ : ∃ a, M % 60 = a := ⟨_, rfl⟩
      obtain ⟨a3, ha3⟩ : ∃ a, K / f = a := ⟨_, rfl⟩
      obtain ⟨a4, ha4⟩ : ∃ a, K % f = a := ⟨_, rfl⟩
      rw [ha1] at m6
      rw [ha2] at m7
      rw [ha3] at m8
      rw [ha4] at m9
      have f1' : IntKind.i64.wrap (M.tdiv 60) = a1 := by rw [Int.tdiv_eq_ediv_of_nonneg M0, ha1, IntKind.wrap_i64]; omega
      have f2' : M.tmod 60 = a2 := by rw [Int.tmod_eq_emod_of_nonneg M0, ha2]
      have f3' : IntKind.i64.wrap (K.tdiv f) = a3 := by rw [Int.tdiv_eq_ediv_of_nonneg e2, ha3, IntKind.wrap_i64]; omega
      have f4' : K.tmod f = a4 := by rw [Int.tmod_eq_emod_of_nonneg e2, ha4]
      have F1 := Lib.hid f1'
      have F2 := Lib.hid f2'
      have F3 := Lib.hid f3'
      have F4 := Lib.hid f4'
      have M6 := Lib.hid m6
      have M7 := Lib.hid m7
      have M8 := Lib.hid m8
      have M9 := Lib.hid m9
      have M10 := Lib.hid m10
      have HR := Lib.hid hR
      clear m6 m7 m8 m9 m10 hR f1' f2' f3' f4' hS1 hS2 hS3 hS4 ha1 ha2 ha3 ha4 hwd e1 z0 z1 z2 z3
      go_wp2_with fail
      with_reducible refine (M5.out _ _ (by omega)).mono ?_
      rintro e w8 ⟨rfl, hb8⟩
      rw [HOM.out]
      obtain ⟨g_A, hB⟩ := HG.out
      have h_A : w8.heap[w.heap.size]? = some (.cells #[.int .i64 n, .int .i64 d, .bool false] 23 (0, 0)) := by
        refine Hand.kb hb8 ?_; first | with_reducible exact g_A | (simp (disch := first | omega | (simp only [Hand.sa, Hand.ss, Hand.sd, Hand.sn]; first | done | omega)) only [Hand.q2, Hand.q1, Hand.q5, Hand.q6, Hand.q4, Hand.q3, g_A] <;> rfl)
      have hB' : Below w.heap.size w w8 := Hand.stepB hb8 (by repeat (with_reducible first | apply hB | apply Below.drew | apply pw_below_drewN | (apply Below.setCell; rotate_left; (dsimp only; omega)) | (apply Below.alloc; rotate_left; (first | omega | (simp only [Hand.sa, Hand.ss, Hand.sd, Hand.sn]; omega))))) (Nat.le_refl _)
      clear HG hB g_A zw z_A z1_A z2_A y0_A y1_A c_A_0 f_A_0 c_A_1 f_A_1 c_A_2 f_A_2
      clear hb8
      have g_A := h_A
      have hB := hB'
      clear hB' h_A
      obtain ⟨z_A, z1_A, z2_A, y0_A, y1_A⟩ := Hand.hz g_A
      obtain ⟨c_A_0, f_A_0, c_A_1, f_A_1, c_A_2, f_A_2⟩ := Hand.hc3 g_A
      have zw : w.heap.size ≤ w8.heap.size := hB.size
      have HG := Lib.hid (And.intro g_A (hB))
      clear g_A hB
      go_wp2
      have e_1 := F1.out
      have e_2 := F2.out
      have e_3 := F3.out
      have e_4 := F4.out
      have hf2 : ¬ f = 0 := by omega
      have p0 : (9223372036854775807 < S1.size + 1) = False := eq_false (by omega)
      have p1 : (9223372036854775807 < S1.size + 1 + S2.size) = False := eq_false (by omega)
      have p2 : (9223372036854775807 < S1.size + 1 + S2.size + 1) = False := eq_false (by omega)
      have p3 : (9223372036854775807 < S1.size + 1 + S2.size + 1 + S3.size) = False := eq_false (by omega)
      have p4 : (9223372036854775807 < S1.size + 1 + S2.size + 1 + S3.size + 1) = False := eq_false (by omega)
      have p5 : (9223372036854775807 < S1.size + 1 + S2.size + 1 + S3.size + 1 + S4.size) = False := eq_false (by omega)
      have HBW := Lib.hid (HG.out.2)
      have HK := Lib.hid (And.intro c_A_0 (And.intro c_A_1 (c_A_2)))
      have BD : Below w8.heap.size w8 w8.drew := Below.drew (Below.refl _ _)
      have BR : Below w8.heap.size w8 w8 := Below.refl _ _
      go_region_held3 (fun w_ => Below w.heap.size w w_ ∧ w_.cell? ⟨w.heap.size, 0, none⟩ = some (.int .i64 n) ∧ w_.cell? ⟨w.heap.size, 1, none⟩ = some (.int .i64 d) ∧ w_.cell? ⟨w.heap.size, 2, none⟩ = some (.bool false)) (first | with_reducible (refine ⟨?_, (Below.cell BR (p := ⟨w.heap.size, 0, none⟩) z_A).trans (HK.out.1), (Below.cell BR (p := ⟨w.heap.size, 1, none⟩) z_A).trans (HK.out.2.1), (Below.cell BR (p := ⟨w.heap.size, 2, none⟩) z_A).trans (HK.out.2.2)⟩; apply (HBW.out.trans (Below.mono BR zw))) | with_reducible (refine ⟨?_, (Below.cell BD (p := ⟨w.heap.size, 0, none⟩) z_A).trans (HK.out.1), (Below.cell BD (p := ⟨w.heap.size, 1, none⟩) z_A).trans (HK.out.2.1), (Below.cell BD (p := ⟨w.heap.size, 2, none⟩) z_A).trans (HK.out.2.2)⟩; apply (HBW.out.trans (Below.mono BD zw))) | with_reducible (refine ⟨?_, (Below.cell BB (p := ⟨w.heap.size, 0, none⟩) z_A).trans (HK.out.1), (Below.cell BB (p := ⟨w.heap.size, 1, none⟩) z_A).trans (HK.out.2.1), (Below.cell BB (p := ⟨w.heap.size, 2, none⟩) z_A).trans (HK.out.2.2)⟩; apply (HBW.out.trans (Below.mono BB zw))) | (refine ⟨?_, ?_, ?_, ?_⟩; (focus (repeat (with_reducible first | apply (HBW.out.trans (Below.mono BB zw)) | apply Below.drew | (apply Below.setCell; rotate_left; (dsimp only; omega)) | (apply Below.alloc; rotate_left; (first | omega | (simp only [Hand.sa, Hand.ss, Hand.sd, Hand.sn]; omega)))))); (repeat (with_reducible first | exact (Below.cell BB (p := ⟨w.heap.size, 0, none⟩) z_A).trans (HK.out.1) | refine Hand.cell_alloc ?_ | refine Hand.cell_drew ?_ | refine Hand.cell_far (by omega) ?_)); (repeat (with_reducible first | exact (Below.cell BB (p := ⟨w.heap.size, 1, none⟩) z_A).trans (HK.out.2.1) | refine Hand.cell_alloc ?_ | refine Hand.cell_drew ?_ | refine Hand.cell_far (by omega) ?_)); (repeat (with_reducible first | exact (Below.cell BB (p := ⟨w.heap.size, 2, none⟩) z_A).trans (HK.out.2.2) | refine Hand.cell_alloc ?_ | refine Hand.cell_drew ?_ | refine Hand.cell_far (by omega) ?_)))) (first | (go_at_call 25; ((with_reducible refine (M6.out _).mono ?_); rintro e w10 ⟨rfl, hb_⟩; have BB : Below w8.heap.size w8 w10 := Hand.stepB hb_ (by assumption) (Nat.le_refl _); have zB_w10 := Below.size BB; clear hb_)) | (go_at_call 25; ((with_reducible refine (M7.out _).mono ?_); rintro e w11 ⟨rfl, hb_⟩; have BB : Below w8.heap.size w8 w11 := Hand.stepB hb_ (by assumption) (Nat.le_refl _); have zB_w11 := Below.size BB; clear hb_)) | (go_at_call 25; ((with_reducible refine (M8.out _).mono ?_); rintro e w12 ⟨rfl, hb_⟩; have BB : Below w8.heap.size w8 w12 := Hand.stepB hb_ (by assumption) (Nat.le_refl _); have zB_w12 := Below.size BB; clear hb_)) | (go_at_call 26; ((with_reducible refine (M10.out _).mono ?_); rintro e w13 ⟨rfl, hb_⟩; have BB : Below w8.heap.size w8 w13 := Hand.stepB hb_ (by assumption) (Nat.le_refl _); have zB_w13 := Below.size BB; clear hb_)) | (go_at_call 25; ((with_reducible refine (M9.out _).mono ?_); rintro e w14 ⟨rfl, hb_⟩; have BB : Below w8.heap.size w8 w14 := Hand.stepB hb_ (by assumption) (Nat.le_refl _); have zB_w14 := Below.size BB; clear hb_)))
      go_wp2
      go_ret2
      obtain ⟨g_A, hB⟩ := HG.out
      exact ⟨by rw [HR.out]; rfl, hB.trans (Below.mono BB zw)⟩
set_option maxHeartbeats 4000000 in
set_option maxRecDepth 100000 in
theorem rlabel_true (n d fr l f D T tens r0 : Int) (X : List UInt8) (q : Nat → Int) (h : decide (fr < 0) = false) (h2 : decide (l < fr) = false) (fr0 : 0 ≤ fr) (fr1 : fr ≤ 86400000) (f0 : 1 ≤ f) (f1 : f ≤ 240) (D0 : 0 ≤ D) (D1 : D ≤ 4) (hT : 600 * f - 9 * D = T) (ht' : fr / T = tens) (hr : fr % T = r0) (t0 : 0 ≤ tens) (t1 : tens ≤ 86400000) (r00 : 0 ≤ r0) (r01 : r0 < T)
    (hq : ∀ m : Nat, q m = 60 * f - outS n d true m) (ho : ∀ m : Int, 0 ≤ outS n d true m ∧ outS n d true m ≤ 4) (hs : ∀ m r, stepP q r0 m r → q m ≤ r → stepP q r0 (m + 1) (r - q m))
    (hf : ∀ m r, stepP q r0 m r → r < q m → num n d true fr = 60 * f * ((m : Int) + 10 * tens) + (r + outS n d true m) ∧ 0 ≤ r + outS n d true m ∧ r + outS n d true m < 60 * f)
    (hX : ∀ M K, num n d true fr = 60 * f * M + K → 0 ≤ K → K < 60 * f → X = labT true (M / 60) (M % 60) (K / f) (K % f) (wide f)) (w : World)
    (m1 : ∀ w, Calls Tryz.prog 16 #[rate n d true] w fun e w' => e = .returned (.int .i64 0) ∧ Below w.heap.size w w')
    (m2 : ∀ w, Calls Tryz.prog 21 #[rate n d true] w fun e w' => e = .returned (.int .i64 l) ∧ Below w.heap.size w w')
    (m3 : ∀ w, Calls Tryz.prog 22 #[rate n d true] w fun e w' => e = .returned (.int .i64 f) ∧ Below w.heap.size w w')
    (m4 : ∀ w, Calls Tryz.prog 23 #[rate n d true] w fun e w' => e = .returned (.int .i64 D) ∧ Below w.heap.size w w')
    (m5 : ∀ (m : Int) w, 0 ≤ m → Calls Tryz.prog 24 #[rate n d true, .int .i64 m] w fun e w' => e = .returned (.int .i64 (outS n d true m)) ∧ Below w.heap.size w w') :
    Calls Tryz.prog 6 #[rate n d true, .int .i64 fr] w fun e w' => e = .returned (.tuple #[.string (bs X), .int .i64 0]) ∧ Below w.heap.size w w' := by
  have HF := Lib.hid hf
  have HS := Lib.hid hs
  have HX := Lib.hid hX
  have HQ := Lib.hid hq
  have HO := Lib.hid ho
  have T0 : ¬ T = 0 := by omega
  have T1 : 0 < T := by omega
  subst hr
  subst ht'
  have M1 := Lib.hid m1
  have M2 := Lib.hid m2
  have M3 := Lib.hid m3
  have M4 := Lib.hid m4
  have M5 := Lib.hid m5
  clear m1 m2 m3 m4 m5 hf hs hX hq ho
  go_enter Tryz.func6, Tryz.ntmps6
  go_wp2_with fail
  with_reducible refine (M1.out _).mono ?_
  rintro e w1 ⟨rfl, hb1⟩
  have h_A : w1.heap[w.heap.size]? = some (.cells #[.int .i64 n, .int .i64 d, .bool true] 23 (0, 0)) := by
    refine Hand.kb hb1 ?_; simp (disch := first | omega | (simp only [Hand.sa, Hand.ss, Hand.sd, Hand.sn]; first | done | omega)) only [Hand.q2, Hand.q1, Hand.q5, Hand.q6, Hand.q4, Hand.q3] <;> rfl
  have hB' : Below w.heap.size w w1 := Hand.stepB hb1 (by repeat (with_reducible first | apply Below.refl _ _ | apply Below.drew | apply pw_below_drewN | (apply Below.setCell; rotate_left; (dsimp only; omega)) | (apply Below.alloc; rotate_left; (first | omega | (simp only [Hand.sa, Hand.ss, Hand.sd, Hand.sn]; omega))))) (Nat.le_refl _)
  clear hb1
  have g_A := h_A
  have hB := hB'
  clear hB' h_A
  obtain ⟨z_A, z1_A, z2_A, y0_A, y1_A⟩ := Hand.hz g_A
  obtain ⟨c_A_0, f_A_0, c_A_1, f_A_1, c_A_2, f_A_2⟩ := Hand.hc3 g_A
  have zw : w.heap.size ≤ w1.heap.size := hB.size
  have HG := Lib.hid (And.intro g_A (hB))
  clear g_A hB
  go_wp2_with fail
  with_reducible refine (M2.out _).mono ?_
  rintro e w2 ⟨rfl, hb2⟩
  obtain ⟨g_A, hB⟩ := HG.out
  have h_A : w2.heap[w.heap.size]? = some (.cells #[.int .i64 n, .int .i64 d, .bool true] 23 (0, 0)) := by
    refine Hand.kb hb2 ?_; first | with_reducible exact g_A | (simp (disch := first | omega | (simp only [Hand.sa, Hand.ss, Hand.sd, Hand.sn]; first | done | omega)) only [Hand.q2, Hand.q1, Hand.q5, Hand.q6, Hand.q4, Hand.q3, g_A] <;> rfl)
  have hB' : Below w.heap.size w w2 := Hand.stepB hb2 (by repeat (with_reducible first | apply hB | apply Below.drew | apply pw_below_drewN | (apply Below.setCell; rotate_left; (dsimp only; omega)) | (apply Below.alloc; rotate_left; (first | omega | (simp only [Hand.sa, Hand.ss, Hand.sd, Hand.sn]; omega))))) (Nat.le_refl _)
  clear HG hB g_A zw z_A z1_A z2_A y0_A y1_A c_A_0 f_A_0 c_A_1 f_A_1 c_A_2 f_A_2
  clear hb2
  have g_A := h_A
  have hB := hB'
  clear hB' h_A
  obtain ⟨z_A, z1_A, z2_A, y0_A, y1_A⟩ := Hand.hz g_A
  obtain ⟨c_A_0, f_A_0, c_A_1, f_A_1, c_A_2, f_A_2⟩ := Hand.hc3 g_A
  have zw : w.heap.size ≤ w2.heap.size := hB.size
  have HG := Lib.hid (And.intro g_A (hB))
  clear g_A hB
  go_wp2_with fail
  with_reducible refine (M3.out _).mono ?_
  rintro e w3 ⟨rfl, hb3⟩
  obtain ⟨g_A, hB⟩ := HG.out
  have h_A : w3.heap[w.heap.size]? = some (.cells #[.int .i64 n, .int .i64 d, .bool true] 23 (0, 0)) := by
    refine Hand.kb hb3 ?_; first | with_reducible exact g_A | (simp (disch := first | omega | (simp only [Hand.sa, Hand.ss, Hand.sd, Hand.sn]; first | done | omega)) only [Hand.q2, Hand.q1, Hand.q5, Hand.q6, Hand.q4, Hand.q3, g_A] <;> rfl)
  have hB' : Below w.heap.size w w3 := Hand.stepB hb3 (by repeat (with_reducible first | apply hB | apply Below.drew | apply pw_below_drewN | (apply Below.setCell; rotate_left; (dsimp only; omega)) | (apply Below.alloc; rotate_left; (first | omega | (simp only [Hand.sa, Hand.ss, Hand.sd, Hand.sn]; omega))))) (Nat.le_refl _)
  clear HG hB g_A zw z_A z1_A z2_A y0_A y1_A c_A_0 f_A_0 c_A_1 f_A_1 c_A_2 f_A_2
  clear hb3
  have g_A := h_A
  have hB := hB'
  clear hB' h_A
  obtain ⟨z_A, z1_A, z2_A, y0_A, y1_A⟩ := Hand.hz g_A
  obtain ⟨c_A_0, f_A_0, c_A_1, f_A_1, c_A_2, f_A_2⟩ := Hand.hc3 g_A
  have zw : w.heap.size ≤ w3.heap.size := hB.size
  have HG := Lib.hid (And.intro g_A (hB))
  clear g_A hB
  go_wp2_with fail
  with_reducible refine (M4.out _).mono ?_
  rintro e w4 ⟨rfl, hb4⟩
  obtain ⟨g_A, hB⟩ := HG.out
  have h_A : w4.heap[w.heap.size]? = some (.cells #[.int .i64 n, .int .i64 d, .bool true] 23 (0, 0)) := by
    refine Hand.kb hb4 ?_; first | with_reducible exact g_A | (simp (disch := first | omega | (simp only [Hand.sa, Hand.ss, Hand.sd, Hand.sn]; first | done | omega)) only [Hand.q2, Hand.q1, Hand.q5, Hand.q6, Hand.q4, Hand.q3, g_A] <;> rfl)
  have hB' : Below w.heap.size w w4 := Hand.stepB hb4 (by repeat (with_reducible first | apply hB | apply Below.drew | apply pw_below_drewN | (apply Below.setCell; rotate_left; (dsimp only; omega)) | (apply Below.alloc; rotate_left; (first | omega | (simp only [Hand.sa, Hand.ss, Hand.sd, Hand.sn]; omega))))) (Nat.le_refl _)
  clear HG hB g_A zw z_A z1_A z2_A y0_A y1_A c_A_0 f_A_0 c_A_1 f_A_1 c_A_2 f_A_2
  clear hb4
  have g_A := h_A
  have hB := hB'
  clear hB' h_A
  obtain ⟨z_A, z1_A, z2_A, y0_A, y1_A⟩ := Hand.hz g_A
  obtain ⟨c_A_0, f_A_0, c_A_1, f_A_1, c_A_2, f_A_2⟩ := Hand.hc3 g_A
  have zw : w.heap.size ≤ w4.heap.size := hB.size
  have HG := Lib.hid (And.intro g_A (hB))
  clear g_A hB
  go_wp2_with fail
  with_reducible refine (M4.out _).mono ?_
  rintro e w5 ⟨rfl, hb5⟩
  obtain ⟨g_A, hB⟩ := HG.out
  have h_A : w5.heap[w.heap.size]? = some (.cells #[.int .i64 n, .int .i64 d, .bool true] 23 (0, 0)) := by
    refine Hand.kb hb5 ?_; first | with_reducible exact g_A | (simp (disch := first | omega | (simp only [Hand.sa, Hand.ss, Hand.sd, Hand.sn]; first | done | omega)) only [Hand.q2, Hand.q1, Hand.q5, Hand.q6, Hand.q4, Hand.q3, g_A] <;> rfl)
  have hB' : Below w.heap.size w w5 := Hand.stepB hb5 (by repeat (with_reducible first | apply hB | apply Below.drew | apply pw_below_drewN | (apply Below.setCell; rotate_left; (dsimp only; omega)) | (apply Below.alloc; rotate_left; (first | omega | (simp only [Hand.sa, Hand.ss, Hand.sd, Hand.sn]; omega))))) (Nat.le_refl _)
  clear HG hB g_A zw z_A z1_A z2_A y0_A y1_A c_A_0 f_A_0 c_A_1 f_A_1 c_A_2 f_A_2
  clear hb5
  have g_A := h_A
  have hB := hB'
  clear hB' h_A
  obtain ⟨z_A, z1_A, z2_A, y0_A, y1_A⟩ := Hand.hz g_A
  obtain ⟨c_A_0, f_A_0, c_A_1, f_A_1, c_A_2, f_A_2⟩ := Hand.hc3 g_A
  have zw : w.heap.size ≤ w5.heap.size := hB.size
  have HG := Lib.hid (And.intro g_A (hB))
  clear g_A hB
  go_wp2
  have G5 := Lib.hid HG.out
  clear HG zw z_A z1_A z2_A y0_A y1_A c_A_0 f_A_0 c_A_1 f_A_1 c_A_2 f_A_2
  go_loopw [1, 7] (fun x y wr => loopL w wr n d true q (fr % T) x y) (fun x _ _ => (intOf x).toNat)
  case atStart => exact ⟨0, fr % T, rfl, rfl, ⟨by decide, by show (0 : Int) + fr % T = fr % T; omega, r00⟩, by omega, G5.out.1, G5.out.2⟩
  case round =>
    obtain ⟨m, r, rfl, rfl, q1, hr1, g_A, hB⟩ := hrel
    have r0' := q1.2.2
    have m9' := q1.1
    have o1 := HO.out (m : Int)
    have o2 := HQ.out m
    obtain ⟨om, hom⟩ : ∃ om, outS n d true (m : Int) = om := ⟨_, rfl⟩
    rw [hom] at o1 o2
    have HQM := Lib.hid o2
    have HOM := Lib.hid hom
    have Q1 := Lib.hid q1
    clear q1 o2 hom
    obtain ⟨z_A, z1_A, z2_A, y0_A, y1_A⟩ := Hand.hz g_A
    obtain ⟨c_A_0, f_A_0, c_A_1, f_A_1, c_A_2, f_A_2⟩ := Hand.hc3 g_A
    have zw : w.heap.size ≤ wr.heap.size := hB.size
    have HG := Lib.hid (And.intro g_A (hB))
    clear g_A hB
    go_wp2_with fail
    with_reducible refine (M5.out _ _ (by omega)).mono ?_
    rintro e w6 ⟨rfl, hb6⟩
    rw [HOM.out]
    obtain ⟨g_A, hB⟩ := HG.out
    have h_A : w6.heap[w.heap.size]? = some (.cells #[.int .i64 n, .int .i64 d, .bool true] 23 (0, 0)) := by
      refine Hand.kb hb6 ?_; first | with_reducible exact g_A | (simp (disch := first | omega | (simp only [Hand.sa, Hand.ss, Hand.sd, Hand.sn]; first | done | omega)) only [Hand.q2, Hand.q1, Hand.q5, Hand.q6, Hand.q4, Hand.q3, g_A] <;> rfl)
    have hB' : Below w.heap.size w w6 := Hand.stepB hb6 (by repeat (with_reducible first | apply hB | apply Below.drew | apply pw_below_drewN | (apply Below.setCell; rotate_left; (dsimp only; omega)) | (apply Below.alloc; rotate_left; (first | omega | (simp only [Hand.sa, Hand.ss, Hand.sd, Hand.sn]; omega))))) (Nat.le_refl _)
    clear HG hB g_A zw z_A z1_A z2_A y0_A y1_A c_A_0 f_A_0 c_A_1 f_A_1 c_A_2 f_A_2
    clear hb6
    have g_A := h_A
    have hB := hB'
    clear hB' h_A
    obtain ⟨z_A, z1_A, z2_A, y0_A, y1_A⟩ := Hand.hz g_A
    obtain ⟨c_A_0, f_A_0, c_A_1, f_A_1, c_A_2, f_A_2⟩ := Hand.hc3 g_A
    have zw : w.heap.size ≤ w6.heap.size := hB.size
    have HG := Lib.hid (And.intro g_A (hB))
    clear g_A hB
    by_cases hge : 60 * f - om ≤ r
    · go_wp2_with fail
      with_reducible refine (M5.out _ _ (by omega)).mono ?_
      rintro e w7 ⟨rfl, hb7⟩
      rw [HOM.out]
      obtain ⟨g_A, hB⟩ := HG.out
      have h_A : w7.heap[w.heap.size]? = some (.cells #[.int .i64 n, .int .i64 d, .bool true] 23 (0, 0)) := by
        refine Hand.kb hb7 ?_; first | with_reducible exact g_A | (simp (disch := first | omega | (simp only [Hand.sa, Hand.ss, Hand.sd, Hand.sn]; first | done | omega)) only [Hand.q2, Hand.q1, Hand.q5, Hand.q6, Hand.q4, Hand.q3, g_A] <;> rfl)
      have hB' : Below w.heap.size w w7 := Hand.stepB hb7 (by repeat (with_reducible first | apply hB | apply Below.drew | apply pw_below_drewN | (apply Below.setCell; rotate_left; (dsimp only; omega)) | (apply Below.alloc; rotate_left; (first | omega | (simp only [Hand.sa, Hand.ss, Hand.sd, Hand.sn]; omega))))) (Nat.le_refl _)
      clear HG hB g_A zw z_A z1_A z2_A y0_A y1_A c_A_0 f_A_0 c_A_1 f_A_1 c_A_2 f_A_2
      clear hb7
      have g_A := h_A
      have hB := hB'
      clear hB' h_A
      obtain ⟨z_A, z1_A, z2_A, y0_A, y1_A⟩ := Hand.hz g_A
      obtain ⟨c_A_0, f_A_0, c_A_1, f_A_1, c_A_2, f_A_2⟩ := Hand.hc3 g_A
      have zw : w.heap.size ≤ w7.heap.size := hB.size
      have HG := Lib.hid (And.intro g_A (hB))
      clear g_A hB
      go_wp2
      obtain ⟨g_A, hB⟩ := HG.out
      have KEY : loopL w w7 n d true q (fr % T) (.int .i64 (r - 60 * f + om)) (.int .i64 ((m : Int) + 1)) := ⟨m + 1, r - 60 * f + om, rfl, by first | rfl | go_num, by have := HS.out m r Q1.out (by rw [HQM.out]; exact hge); rw [HQM.out] at this; rw [show r - 60 * f + om = r - (60 * f - om) by omega]; exact this, by omega, g_A, hB⟩
      go_roundw
      case rel => first | exact KEY | ((repeat apply Exists.intro); exact ⟨KEY, rfl⟩)
      case measure => simp [intOf]; omega
    · have hge : r < 60 * f - om := by omega
      obtain ⟨M, hM⟩ : ∃ M, (m : Int) + 10 * (fr / T) = M := ⟨_, rfl⟩
      obtain ⟨K, hK⟩ : ∃ K, r + om = K := ⟨_, rfl⟩
      obtain ⟨e1, e2, e3⟩ := HF.out m r Q1.out (by rw [HQM.out]; exact hge)
      have M0 : 0 ≤ M := by omega
      have M1' : M ≤ 900000000 := by omega
      rw [HOM.out] at e1 e2 e3
      rw [hM, hK] at e1
      rw [hK] at e2 e3
      have K1 : K ≤ 100000000 := by omega
      have z0 : 0 ≤ K / f := Int.ediv_nonneg e2 (by omega)
      have z1 : K / f ≤ K := Int.ediv_le_self _ e2
      have z2 : 0 ≤ K % f := Int.emod_nonneg _ (by omega)
      have z3 : K % f < f := Int.emod_lt_of_pos _ (by omega)
      obtain ⟨S1, hS1⟩ : ∃ S, bs (digL (M / 60) 2) = S := ⟨_, rfl⟩
      obtain ⟨S2, hS2⟩ : ∃ S, bs (digL (M % 60) 2) = S := ⟨_, rfl⟩
      obtain ⟨S3, hS3⟩ : ∃ S, bs (digL (K / f) 2) = S := ⟨_, rfl⟩
      obtain ⟨S4, hS4⟩ : ∃ S, bs (digL (K % f) (wide f)) = S := ⟨_, rfl⟩
      have m6 := rdigits2 (M / 60) (by omega) (by omega)
      have m7 := rdigits2 (M % 60) (by omega) (by omega)
      have m8 := rdigits2 (K / f) z0 (by omega)
      have m9 := rdigits_any (K % f) (wide f) (wide_one f) (wide_le f) z2 (by omega)
      have m10 := rwide_any f
      rw [hS1] at m6
      rw [hS2] at m7
      rw [hS3] at m8
      rw [hS4] at m9
      have q1 : S1.size ≤ 21 := by rw [← hS1]; exact digL_sz (by omega) (by omega) (by decide)
      have q2 : S2.size ≤ 21 := by rw [← hS2]; exact digL_sz (by omega) (by omega) (by decide)
      have q3 : S3.size ≤ 21 := by rw [← hS3]; exact digL_sz (by omega) (by omega) (by decide)
      have q4 : S4.size ≤ 21 := by rw [← hS4]; exact digL_sz (by omega) (by omega) (wide_le f)
      have hR : bs X = S1 ++ (⟨#[58]⟩ : ByteArray) ++ S2 ++ (⟨#[58]⟩ : ByteArray) ++ S3 ++ (⟨#[59]⟩ : ByteArray) ++ S4 := by
        rw [HX.out M K e1 e2 e3, ← hS1, ← hS2, ← hS3, ← hS4]; unfold labT; rw [show (⟨#[58]⟩ : ByteArray) = bs [58] from rfl, show (⟨#[59]⟩ : ByteArray) = bs [59] from rfl]; simp only [if_true, Bool.false_eq_true, if_false, bs_cat, List.append_assoc, List.cons_append, List.nil_append]
      obtain ⟨wd, hwd⟩ : ∃ wd : Int, (wide f : Int) = wd := ⟨_, rfl⟩
      rw [hwd] at m9 m10
      obtain ⟨a1, ha1⟩ : ∃ a, M / 60 = a := ⟨_, rfl⟩
      obtain ⟨a2, ha2⟩ : ∃ a, M % 60 = a := ⟨_, rfl⟩
      obtain ⟨a3, ha3⟩ : ∃ a, K / f = a := ⟨_, rfl⟩
      obtain ⟨a4, ha4⟩ : ∃ a, K % f = a := ⟨_, rfl⟩
      rw [ha1] at m6
      rw [ha2] at m7
      rw [ha3] at m8
      rw [ha4] at m9
      have f1' : IntKind.i64.wrap (M.tdiv 60) = a1 := by rw [Int.tdiv_eq_ediv_of_nonneg M0, ha1, IntKind.wrap_i64]; omega
      have f2' : M.tmod 60 = a2 := by rw [Int.tmod_eq_emod_of_nonneg M0, ha2]
      have f3' : IntKind.i64.wrap (K.tdiv f) = a3 := by rw [Int.tdiv_eq_ediv_of_nonneg e2, ha3, IntKind.wrap_i64]; omega
      have f4' : K.tmod f = a4 := by rw [Int.tmod_eq_emod_of_nonneg e2, ha4]
      have F1 := Lib.hid f1'
      have F2 := Lib.hid f2'
      have F3 := Lib.hid f3'
      have F4 := Lib.hid f4'
      have M6 := Lib.hid m6
      have M7 := Lib.hid m7
      have M8 := Lib.hid m8
      have M9 := Lib.hid m9
      have M10 := Lib.hid m10
      have HR := Lib.hid hR
      clear m6 m7 m8 m9 m10 hR f1' f2' f3' f4' hS1 hS2 hS3 hS4 ha1 ha2 ha3 ha4 hwd e1 z0 z1 z2 z3
      go_wp2_with fail
      with_reducible refine (M5.out _ _ (by omega)).mono ?_
      rintro e w8 ⟨rfl, hb8⟩
      rw [HOM.out]
      obtain ⟨g_A, hB⟩ := HG.out
      have h_A : w8.heap[w.heap.size]? = some (.cells #[.int .i64 n, .int .i64 d, .bool true] 23 (0, 0)) := by
        refine Hand.kb hb8 ?_; first | with_reducible exact g_A | (simp (disch := first | omega | (simp only [Hand.sa, Hand.ss, Hand.sd, Hand.sn]; first | done | omega)) only [Hand.q2, Hand.q1, Hand.q5, Hand.q6, Hand.q4, Hand.q3, g_A] <;> rfl)
      have hB' : Below w.heap.size w w8 := Hand.stepB hb8 (by repeat (with_reducible first | apply hB | apply Below.drew | apply pw_below_drewN | (apply Below.setCell; rotate_left; (dsimp only; omega)) | (apply Below.alloc; rotate_left; (first | omega | (simp only [Hand.sa, Hand.ss, Hand.sd, Hand.sn]; omega))))) (Nat.le_refl _)
      clear HG hB g_A zw z_A z1_A z2_A y0_A y1_A c_A_0 f_A_0 c_A_1 f_A_1 c_A_2 f_A_2
      clear hb8
      have g_A := h_A
      have hB := hB'
      clear hB' h_A
      obtain ⟨z_A, z1_A, z2_A, y0_A, y1_A⟩ := Hand.hz g_A
      obtain ⟨c_A_0, f_A_0, c_A_1, f_A_1, c_A_2, f_A_2⟩ := Hand.hc3 g_A
      have zw : w.heap.size ≤ w8.heap.size := hB.size
      have HG := Lib.hid (And.intro g_A (hB))
      clear g_A hB
      go_wp2
      have e_1 := F1.out
      have e_2 := F2.out
      have e_3 := F3.out
      have e_4 := F4.out
      have hf2 : ¬ f = 0 := by omega
      have p0 : (9223372036854775807 < S1.size + 1) = False := eq_false (by omega)
      have p1 : (9223372036854775807 < S1.size + 1 + S2.size) = False := eq_false (by omega)
      have p2 : (9223372036854775807 < S1.size + 1 + S2.size + 1) = False := eq_false (by omega)
      have p3 : (9223372036854775807 < S1.size + 1 + S2.size + 1 + S3.size) = False := eq_false (by omega)
      have p4 : (9223372036854775807 < S1.size + 1 + S2.size + 1 + S3.size + 1) = False := eq_false (by omega)
      have p5 : (9223372036854775807 < S1.size + 1 + S2.size + 1 + S3.size + 1 + S4.size) = False := eq_false (by omega)
      have HBW := Lib.hid (HG.out.2)
      have HK := Lib.hid (And.intro c_A_0 (And.intro c_A_1 (c_A_2)))
      have BD : Below w8.heap.size w8 w8.drew := Below.drew (Below.refl _ _)
      have BR : Below w8.heap.size w8 w8 := Below.refl _ _
      go_region_held3 (fun w_ => Below w.heap.size w w_ ∧ w_.cell? ⟨w.heap.size, 0, none⟩ = some (.int .i64 n) ∧ w_.cell? ⟨w.heap.size, 1, none⟩ = some (.int .i64 d) ∧ w_.cell? ⟨w.heap.size, 2, none⟩ = some (.bool true)) (first | with_reducible (refine ⟨?_, (Below.cell BR (p := ⟨w.heap.size, 0, none⟩) z_A).trans (HK.out.1), (Below.cell BR (p := ⟨w.heap.size, 1, none⟩) z_A).trans (HK.out.2.1), (Below.cell BR (p := ⟨w.heap.size, 2, none⟩) z_A).trans (HK.out.2.2)⟩; apply (HBW.out.trans (Below.mono BR zw))) | with_reducible (refine ⟨?_, (Below.cell BD (p := ⟨w.heap.size, 0, none⟩) z_A).trans (HK.out.1), (Below.cell BD (p := ⟨w.heap.size, 1, none⟩) z_A).trans (HK.out.2.1), (Below.cell BD (p := ⟨w.heap.size, 2, none⟩) z_A).trans (HK.out.2.2)⟩; apply (HBW.out.trans (Below.mono BD zw))) | with_reducible (refine ⟨?_, (Below.cell BB (p := ⟨w.heap.size, 0, none⟩) z_A).trans (HK.out.1), (Below.cell BB (p := ⟨w.heap.size, 1, none⟩) z_A).trans (HK.out.2.1), (Below.cell BB (p := ⟨w.heap.size, 2, none⟩) z_A).trans (HK.out.2.2)⟩; apply (HBW.out.trans (Below.mono BB zw))) | (refine ⟨?_, ?_, ?_, ?_⟩; (focus (repeat (with_reducible first | apply (HBW.out.trans (Below.mono BB zw)) | apply Below.drew | (apply Below.setCell; rotate_left; (dsimp only; omega)) | (apply Below.alloc; rotate_left; (first | omega | (simp only [Hand.sa, Hand.ss, Hand.sd, Hand.sn]; omega)))))); (repeat (with_reducible first | exact (Below.cell BB (p := ⟨w.heap.size, 0, none⟩) z_A).trans (HK.out.1) | refine Hand.cell_alloc ?_ | refine Hand.cell_drew ?_ | refine Hand.cell_far (by omega) ?_)); (repeat (with_reducible first | exact (Below.cell BB (p := ⟨w.heap.size, 1, none⟩) z_A).trans (HK.out.2.1) | refine Hand.cell_alloc ?_ | refine Hand.cell_drew ?_ | refine Hand.cell_far (by omega) ?_)); (repeat (with_reducible first | exact (Below.cell BB (p := ⟨w.heap.size, 2, none⟩) z_A).trans (HK.out.2.2) | refine Hand.cell_alloc ?_ | refine Hand.cell_drew ?_ | refine Hand.cell_far (by omega) ?_)))) (first | (go_at_call 25; ((with_reducible refine (M6.out _).mono ?_); rintro e w10 ⟨rfl, hb_⟩; have BB : Below w8.heap.size w8 w10 := Hand.stepB hb_ (by assumption) (Nat.le_refl _); have zB_w10 := Below.size BB; clear hb_)) | (go_at_call 25; ((with_reducible refine (M7.out _).mono ?_); rintro e w11 ⟨rfl, hb_⟩; have BB : Below w8.heap.size w8 w11 := Hand.stepB hb_ (by assumption) (Nat.le_refl _); have zB_w11 := Below.size BB; clear hb_)) | (go_at_call 25; ((with_reducible refine (M8.out _).mono ?_); rintro e w12 ⟨rfl, hb_⟩; have BB : Below w8.heap.size w8 w12 := Hand.stepB hb_ (by assumption) (Nat.le_refl _); have zB_w12 := Below.size BB; clear hb_)) | (go_at_call 26; ((with_reducible refine (M10.out _).mono ?_); rintro e w13 ⟨rfl, hb_⟩; have BB : Below w8.heap.size w8 w13 := Hand.stepB hb_ (by assumption) (Nat.le_refl _); have zB_w13 := Below.size BB; clear hb_)) | (go_at_call 25; ((with_reducible refine (M9.out _).mono ?_); rintro e w14 ⟨rfl, hb_⟩; have BB : Below w8.heap.size w8 w14 := Hand.stepB hb_ (by assumption) (Nat.le_refl _); have zB_w14 := Below.size BB; clear hb_)))
      go_wp2
      go_ret2
      obtain ⟨g_A, hB⟩ := HG.out
      exact ⟨by rw [HR.out]; rfl, hB.trans (Below.mono BB zw)⟩
end Go.Proofs.YtghiibdhibcbaaaGreatDoor.PA
namespace Go.Proofs.YtghiibdhibcbaaaGreatDoor.PA
open Go Go.RowKit Go.Proofs.YtghiibdhibcbaaaGreatDoor.CS
set_option linter.unusedSimpArgs false
set_option linter.unusedVariables false
theorem outS_le (n d m : Int) (dr : Bool) : 0 ≤ outS n d dr m ∧ outS n d dr m ≤ 4 := by
  have := @drop_le n d dr
  unfold outS
  split <;> omega
theorem rlabel_any (n d fr : Int) (dr : Bool) (w : World) :
    Calls Tryz.prog 6 #[rate n d dr, .int .i64 fr] w fun e w' => e = .returned (.tuple #[.string (bs (lblS n d dr fr).1), .int .i64 (lblS n d dr fr).2]) ∧ Below w.heap.size w w' := by
  have m1 := rcheck_any n d dr
  unfold checkS at m1
  unfold lblS
  by_cases h : okR n d dr = true
  · rw [if_pos h] at m1 ⊢
    have o := okR_iff.mp h
    have m2 := rlast_any n d dr o
    by_cases hf : inF n d fr = true
    · rw [if_pos hf]
      obtain ⟨b0, b1, b2, b3, b4⟩ := fr_le o hf
      obtain ⟨c0, c1⟩ := inF_iff.mp hf
      obtain ⟨f0, f1⟩ := full_le o
      obtain ⟨D0, D1⟩ := @drop_le n d dr
      have t0 : 0 ≤ fr / (600 * full n d - 9 * drop n d dr) := Int.ediv_nonneg b0 (by omega)
      have t1 : fr / (600 * full n d - 9 * drop n d dr) ≤ fr := Int.ediv_le_self _ b0
      have r0 : 0 ≤ fr % (600 * full n d - 9 * drop n d dr) := Int.emod_nonneg _ (by omega)
      have r1 : fr % (600 * full n d - 9 * drop n d dr) < 600 * full n d - 9 * drop n d dr := Int.emod_lt_of_pos _ (by omega)
      have q0 : (fun m : Nat => 60 * full n d - outS n d dr (m : Int)) 0 = 60 * full n d := by
        show 60 * full n d - outS n d dr 0 = _
        rw [outS_0]; omega
      have qp : ∀ m : Nat, 1 ≤ m → m ≤ 9 → (fun m : Nat => 60 * full n d - outS n d dr (m : Int)) m = 60 * full n d - drop n d dr := fun m a b => by
        show 60 * full n d - outS n d dr (m : Int) = _
        rw [outS_p n d dr a b]
      have hs := fun m r => stepP_next (m := m) (r := r) q0 qp r1
      have hn := fun m r => num_parts (fr := fr) o (q := fun m : Nat => 60 * full n d - outS n d dr (m : Int)) (fun m => rfl) (m := m) (r := r)
      have hx := fun M K (a : num n d dr fr = 60 * full n d * M + K) b c => labL_parts o a b c
      cases dr
      · exact rlabel_false n d fr _ _ _ _ _ _ _ (fun m : Nat => 60 * full n d - outS n d false (m : Int)) (decide_eq_false (by omega)) (decide_eq_false (by omega)) b0 b1 f0 f1 D0 D1 rfl rfl rfl t0 (by omega) r0 r1 (fun m => rfl) (fun m => outS_le n d m _) hs hn hx w m1 m2 (rfull_any n d _ o) (rleft_any n d _ o) (fun m w hm => rout_any n d m _ o hm w)
      · exact rlabel_true n d fr _ _ _ _ _ _ _ (fun m : Nat => 60 * full n d - outS n d true (m : Int)) (decide_eq_false (by omega)) (decide_eq_false (by omega)) b0 b1 f0 f1 D0 D1 rfl rfl rfl t0 (by omega) r0 r1 (fun m => rfl) (fun m => outS_le n d m _) hs hn hx w m1 m2 (rfull_any n d _ o) (rleft_any n d _ o) (fun m w hm => rout_any n d m _ o hm w)
    · rw [if_neg hf]
      by_cases h0 : fr < 0
      · exact rlabel_neg n d fr dr (decide_eq_true h0) w m1
      · have h1 : last n d < fr := by
          rw [inF_iff] at hf; omega
        exact rlabel_far n d fr _ dr (decide_eq_false h0) (decide_eq_true h1) w m1 m2
  · rw [if_neg h] at m1 ⊢
    exact rlabel_bad n d 14 fr dr (by decide) w m1
end Go.Proofs.YtghiibdhibcbaaaGreatDoor.PA
namespace Go.Proofs.YtghiibdhibcbaaaGreatDoor.PA
open Go Go.Proofs.YtghiibdhibcbaaaGreatDoor.CS
set_option linter.unusedSimpArgs false
set_option linter.unusedVariables false
theorem isD_dg (n : Nat) : isD (dg n) = true := by unfold isD; rw [dg_nat]; simp; omega
/-- digits, as a reader takes them -/
structure Digs (l : List UInt8) (k : Nat) (v : Int) : Prop where
  len : l.length = k
  no : noD l = false
  val : vg l = v
theorem digs2 {n : Int} (h0 : 0 ≤ n) (h1 : n < 100) : Digs (digL n 2) 2 n := by
  rw [digL2 h0 h1]
  refine ⟨rfl, by simp [noD, isD_dg], ?_⟩
  show 10 * (10 * 0 + (((dg (n.toNat / 10)).toNat : Int) - 48) % 256) + (((dg n.toNat).toNat : Int) - 48) % 256 = n
  rw [dg_nat, dg_nat]; omega
theorem digs3 {n : Int} (h0 : 0 ≤ n) (h1 : n < 1000) : Digs (digL n 3) 3 n := by
  rw [digL3 h0 h1]
  refine ⟨rfl, by simp [noD, isD_dg], ?_⟩
  show 10 * (10 * (10 * 0 + (((dg (n.toNat / 100)).toNat : Int) - 48) % 256) + (((dg (n.toNat / 10)).toNat : Int) - 48) % 256) + (((dg n.toNat).toNat : Int) - 48) % 256 = n
  rw [dg_nat, dg_nat, dg_nat]; omega
theorem digs1 {n : Int} (h0 : 0 ≤ n) (h1 : n < 10) : Digs (digL n 1) 1 n := by
  rw [digL1 h0 h1]
  refine ⟨rfl, by simp [noD, isD_dg], ?_⟩
  show 10 * 0 + (((dg n.toNat).toNat : Int) - 48) % 256 = n
  rw [dg_nat]; omega
theorem digs_eq {n : Int} {a b : Nat} (h : digL n a = digL n b) {k : Nat} {v : Int} (d : Digs (digL n a) k v) : Digs (digL n b) k v := by rw [← h]; exact d
/-- hours in two digits, or in three -/
theorem digsH {n : Int} (h0 : 0 ≤ n) (h1 : n < 1000) : ∃ k, (k = 2 ∨ k = 3 ∧ (digL n 2).head? ≠ some 48) ∧ Digs (digL n 2) k n := by
  by_cases h : n < 100
  · exact ⟨2, .inl rfl, digs2 h0 h⟩
  · have e : digL n 3 = digL n 2 := by rw [digL3 h0 h1, digL23 (by omega) h1]
    refine ⟨3, .inr ⟨rfl, ?_⟩, digs_eq e (digs3 h0 h1)⟩
    rw [digL23 (by omega) h1]
    simp only [List.head?_cons, ne_eq, Option.some.injEq]
    intro e
    have := congrArg UInt8.toNat e
    rw [dg_nat] at this
    have h48 : (48 : UInt8).toNat = 48 := rfl
    omega
/-- the minute and the rest are there -/
theorem step_ex {F D r0 : Int} {q : Nat → Int} (h0 : q 0 = 60 * F) (hq : ∀ m, 1 ≤ m → m ≤ 9 → q m = 60 * F - D) (hr : r0 < 600 * F - 9 * D) (hp : 0 < 60 * F - D) (hF : 0 < F) (r00 : 0 ≤ r0) : ∃ m r, stepP q r0 m r ∧ r < q m := by
  have go : ∀ (N : Nat) (m : Nat) (r : Int), r.toNat ≤ N → stepP q r0 m r → ∃ m r, stepP q r0 m r ∧ r < q m := by
    intro N
    induction N with
    | zero =>
      intro m r hN h
      refine ⟨m, r, h, ?_⟩
      have := h.2.2
      rcases Nat.eq_zero_or_pos m with rfl | hm
      · rw [h0]; omega
      · rw [hq m hm h.1]; omega
    | succ N ih =>
      intro m r hN h
      by_cases hl : r < q m
      · exact ⟨m, r, h, hl⟩
      · have hpos : 0 < q m := by
          rcases Nat.eq_zero_or_pos m with rfl | hm
          · rw [h0]; omega
          · rw [hq m hm h.1]; exact hp
        exact ih (m + 1) (r - q m) (by omega) (stepP_next h0 hq hr h (by omega))
  exact go r0.toNat 0 r0 (Nat.le_refl _) ⟨by decide, by show (0 : Int) + r0 = r0; omega, r00⟩
/-- a frame's number, and back: minutes M, the rest K -/
theorem num_read {n d fr : Int} {dr : Bool} (o : Ok n d dr) (h0 : 0 ≤ fr) : ∃ M K, num n d dr fr = 60 * full n d * M + K ∧ 0 ≤ K ∧ K < 60 * full n d ∧ 0 ≤ M ∧ fr = num n d dr fr - drop n d dr * (M - M / 10) ∧ (M % 10 ≠ 0 → drop n d dr ≤ K) := by
  obtain ⟨f0, f1⟩ := full_le o
  obtain ⟨D0, D1⟩ := @drop_le n d dr
  have q0 : (fun m : Nat => 60 * full n d - outS n d dr (m : Int)) 0 = 60 * full n d := by
    show 60 * full n d - outS n d dr 0 = _
    rw [outS_0]; omega
  have qp : ∀ m : Nat, 1 ≤ m → m ≤ 9 → (fun m : Nat => 60 * full n d - outS n d dr (m : Int)) m = 60 * full n d - drop n d dr := fun m a b => by
    show 60 * full n d - outS n d dr (m : Int) = _
    rw [outS_p n d dr a b]
  have r0 : 0 ≤ fr % (600 * full n d - 9 * drop n d dr) := Int.emod_nonneg _ (by omega)
  have r1 : fr % (600 * full n d - 9 * drop n d dr) < 600 * full n d - 9 * drop n d dr := Int.emod_lt_of_pos _ (by omega)
  have t0 : 0 ≤ fr / (600 * full n d - 9 * drop n d dr) := Int.ediv_nonneg h0 (by omega)
  obtain ⟨m, r, hs, hl⟩ := step_ex q0 qp r1 (by omega) (by omega) r0
  obtain ⟨e1, e2, e3⟩ := num_parts (fr := fr) o (q := fun m : Nat => 60 * full n d - outS n d dr (m : Int)) (fun m => rfl) hs hl
  obtain ⟨s1, s2, s3⟩ := hs
  have e0 : (600 * full n d - 9 * drop n d dr) * (fr / (600 * full n d - 9 * drop n d dr)) + fr % (600 * full n d - 9 * drop n d dr) = fr := Int.mul_ediv_add_emod _ _
  refine ⟨_, _, e1, e2, e3, by omega, ?_, ?_⟩
  · obtain ⟨F, hF⟩ : ∃ F, full n d = F := ⟨_, rfl⟩
    obtain ⟨D, hD⟩ : ∃ D, drop n d dr = D := ⟨_, rfl⟩
    rw [hF] at f0 f1 q0 qp s2 e0 e1 r0 r1 t0 ⊢
    rw [hD] at D0 D1 qp s2 e0 e1 r0 r1 t0 ⊢
    obtain ⟨T, hT⟩ : ∃ T, fr / (600 * F - 9 * D) = T := ⟨_, rfl⟩
    obtain ⟨R, hR⟩ : ∃ R, fr % (600 * F - 9 * D) = R := ⟨_, rfl⟩
    rw [hT] at e0 e1 t0 ⊢
    rw [hR] at e0 s2
    rw [e1]
    have em : ((m : Int) + 10 * T) - ((m : Int) + 10 * T) / 10 = m + 9 * T := by omega
    rw [em]
    have g1 : (600 * F - 9 * D) * T = 600 * (F * T) - 9 * (D * T) := by grind
    have g2 : 60 * F * ((m : Int) + 10 * T) = 60 * (F * (m : Int)) + 600 * (F * T) := by grind
    have g3 : D * ((m : Int) + 9 * T) = D * (m : Int) + 9 * (D * T) := by grind
    rcases Nat.eq_zero_or_pos m with rfl | hm
    · have hc : consq (fun m : Nat => 60 * F - outS n d dr (m : Int)) 0 = 0 := rfl
      rw [hc] at s2
      have ho : outS n d dr ((0 : Nat) : Int) = 0 := outS_0 n d dr
      rw [g2, g3, ho]
      simp only [Int.natCast_zero, Int.mul_zero]
      omega
    · have ho := outS_p n d dr hm s1
      obtain ⟨j, rfl⟩ : ∃ j, m = j + 1 := ⟨m - 1, by omega⟩
      have hc := consq_eq F D _ q0 qp j (by omega)
      rw [hc] at s2
      rw [g2, g3, ho, hD]
      have g4 : (j : Int) * (60 * F - D) = 60 * (F * (j : Int)) - D * (j : Int) := by grind
      have g5 : F * ((j + 1 : Nat) : Int) = F * (j : Int) + F := by rw [Int.natCast_succ]; grind
      have g6 : D * ((j + 1 : Nat) : Int) = D * (j : Int) + D := by rw [Int.natCast_succ]; grind
      rw [g5, g6]
      omega
  · intro hm
    have hm1 : 1 ≤ m := by omega
    rw [outS_p n d dr hm1 s1]; omega
end Go.Proofs.YtghiibdhibcbaaaGreatDoor.PA
namespace Go.Proofs.YtghiibdhibcbaaaGreatDoor.PA
open Go Go.RowKit Go.Proofs.YtghiibdhibcbaaaGreatDoor.CS Go.ChangeShapes Go.WideShapes
set_option linter.unusedVariables false
theorem len2 {a : Int} (h0 : 0 ≤ a) (h1 : a < 100) : (digL a 2).length = 2 := (digs2 h0 h1).len
/-- two labels: the same width, rising; or the shorter one ahead -/
def before (a b : List UInt8) : Prop := a.length < b.length ∨ (a.length = b.length ∧ Op.bytesLess a b = true)
theorem lenw {a f : Int} (h0 : 0 ≤ a) (h1 : a < f) (hf : f ≤ 240) : (digL a (wide f)).length = wide f := by
  unfold wide
  by_cases hw : f > 100
  · rw [if_pos hw]; exact (digs3 h0 (by omega)).len
  · rw [if_neg hw]; exact (digs2 h0 (by omega)).len
theorem minutes_few {n d fr M K : Int} {dr : Bool} (h : okR n d dr = true) (hf : inF n d fr = true) (e1 : num n d dr fr = 60 * full n d * M + K) (k0 : 0 ≤ K) (e2 : fr = num n d dr fr - drop n d dr * (M - M / 10)) : M ≤ 59999 := by
  have o := okR_iff.mp h
  obtain ⟨b0, b1, b2, b3, b4⟩ := fr_le o hf
  obtain ⟨f0, f1⟩ := full_le o
  rcases Int.lt_or_le M 60000 with hl | hl
  · omega
  · exfalso
    have hl2 := (last_le o).2.1
    have h60 : 60 * full n d * 60000 ≤ 60 * full n d * M := Int.mul_le_mul_of_nonneg_left hl (by omega)
    have hfu : n ≤ full n d * d := by
      have := Int.lt_ediv_add_one_mul_self (n + d - 1) (show 0 < d by have := o.d1; omega)
      unfold full
      have h3 : ((n + d - 1) / d + 1) * d = (n + d - 1) / d * d + d := by grind
      omega
    have hd1 := o.d1
    rcases o.kinds with ⟨rfl, hd⟩ | ⟨rfl, rfl, rfl, hd, hF⟩ | ⟨rfl, rfl, rfl, hd, hF⟩
    · rw [num_false] at e1
      have h5 : (3600000 * full n d) * d ≤ fr * d := Int.mul_le_mul_of_nonneg_right (by omega) (by omega)
      have h6 : (3600000 * full n d) * d = 3600000 * (full n d * d) := by grind
      have n1 := o.n1
      omega
    · rw [hF] at h60 e1; rw [hd] at e2; have := (inF_iff.mp hf).2; rw [last_30] at this; omega
    · rw [hF] at h60 e1; rw [hd] at e2; have := (inF_iff.mp hf).2; rw [last_60] at this; omega
end Go.Proofs.YtghiibdhibcbaaaGreatDoor.PA
