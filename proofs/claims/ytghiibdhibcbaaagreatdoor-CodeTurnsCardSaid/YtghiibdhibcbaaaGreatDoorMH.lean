/- The reference: common, Check, full, last, left, out, wide, grid, Grid. The reference: full, last, left, out, wide, grid, lowest, Grid, Time, Timed, Frame. The reference: Grid, Time, Timed, Frame told at all inputs. The reference: digits. -/
import Derived.Test.YtghiibdhibcbaaaGreatDoorMC
import Derived.Test.YtghiibdhibcbaaaGreatDoorMG
import Derived.StillTailTactics
import Derived.Laws.IdiomStrings
namespace Go.Proofs.YtghiibdhibcbaaaGreatDoor.PA
open Go Go.RowKit Go.Proofs.YtghiibdhibcbaaaGreatDoorW.PrintWords Go.Proofs.YtghiibdhibcbaaaGreatDoorW.PrintLast Go.Proofs.YtghiibdhibcbaaaGreatDoorW.PrintMore Go.Proofs.YtghiibdhibcbaaaGreatDoor.CS
set_option linter.unusedSimpArgs false
set_option linter.unusedVariables false
set_option maxHeartbeats 800000 in
set_option maxRecDepth 100000 in
theorem rcommon_any (x y : Nat) (hx : (x : Int) ≤ 9223372036854775807) (hy : (y : Int) ≤ 9223372036854775807) (w : World) :
    Calls Tryz.prog 47 #[.int .i64 (x : Int), .int .i64 (y : Int)] w fun e w' => e = .returned (.int .i64 (Nat.gcd x y : Int)) ∧ Below w.heap.size w w' := by
  go_enter Tryz.func47, Tryz.ntmps47
  go_wp2
  go_loopw [0, 1] (fun p q wr => ∃ a b k : Nat, p = .int .i64 a ∧ q = .int .i64 b ∧ Nat.gcd a b = Nat.gcd x y ∧ (a : Int) ≤ 9223372036854775807 ∧ (b : Int) ≤ 9223372036854775807 ∧ wr = w.drewN k) (fun _ q _ => (intOf q).toNat)
  case atStart => exact ⟨x, y, 0, rfl, rfl, rfl, hx, hy, rfl⟩
  case round =>
    obtain ⟨a, b, k, rfl, rfl, hg, a2, b2, rfl⟩ := hrel
    have HG := Lib.hid hg
    clear hg
    by_cases hb : b = 0
    · subst hb
      go_wp2
      go_ret
      exact ⟨by rw [← HG.out, Nat.gcd_zero_right]; rfl, pw_below_drewN (Below.refl _ _) _⟩
    · have hb1 : ((b : Int) == 0) = false := by simp; omega
      have hb2 : ((b : Int) != 0) = true := by simp; omega
      go_wp2
      go_quiet (fail)
      go_wp2
      go_roundw
      case rel =>
        refine ⟨b, a % b, _, rfl, by first | rfl | go_num, ?_, b2, ?_, World.drewN_drewN _ _ _⟩
        · rw [← HG.out, Nat.gcd_comm b, Nat.gcd_comm a b, ← Nat.gcd_rec]
        · have := Nat.mod_lt a (show b > 0 by omega); omega
      case measure =>
        have := Nat.mod_lt a (show b > 0 by omega)
        simp [intOf]; omega
theorem common_of {a b : Int} (ha : 0 ≤ a) (ha1 : a ≤ 9223372036854775807) (hb : 0 ≤ b) (hb1 : b ≤ 9223372036854775807) (w : World) :
    Calls Tryz.prog 47 #[.int .i64 a, .int .i64 b] w fun e w' => e = .returned (.int .i64 (Nat.gcd a.natAbs b.natAbs : Int)) ∧ Below w.heap.size w w' := by
  have h := rcommon_any a.natAbs b.natAbs (by omega) (by omega) w
  rw [show ((a.natAbs : Nat) : Int) = a by omega, show ((b.natAbs : Nat) : Int) = b by omega] at h
  exact h
theorem checkS_of {n d : Int} {dr : Bool} {g : Nat} (n1 : 1 ≤ n) (n2 : n ≤ 240000) (d1 : 1 ≤ d) (d2 : d ≤ 1001) (hg : Nat.gcd n.natAbs d.natAbs = g) :
    checkS n d dr = if g = 1 ∧ d ≤ n ∧ n ≤ 240 * d ∧ (dr = true → d = 1001 ∧ (n = 30000 ∨ n = 60000)) then 0 else 14 := by
  unfold checkS
  have e : okR n d dr = true ↔ g = 1 ∧ d ≤ n ∧ n ≤ 240 * d ∧ (dr = true → d = 1001 ∧ (n = 30000 ∨ n = 60000)) := by
    rw [okR_iff, ← hg]
    exact ⟨fun h => ⟨h.g, h.le, h.ge, h.dr⟩, fun ⟨a, b, c, e⟩ => ⟨n1, n2, d1, d2, a, b, c, e⟩⟩
  by_cases h : okR n d dr = true
  · rw [if_pos h, if_pos (e.mp h)]
  · rw [if_neg h, if_neg (fun x => h (e.mpr x))]
set_option maxHeartbeats 1600000 in
set_option maxRecDepth 100000 in
theorem rcheck_false (n d R : Int) (g : Nat) (w : World) (n1 : 1 ≤ n) (n2 : n ≤ 240000) (d1 : 1 ≤ d) (d2 : d ≤ 1001) (g9 : (g : Int) ≤ 240000)
    (hR : (if g = 1 ∧ d ≤ n ∧ n ≤ 240 * d ∧ (false = true → d = 1001 ∧ (n = 30000 ∨ n = 60000)) then 0 else 14) = R)
    (m1 : ∀ w, Calls Tryz.prog 47 #[.int .i64 n, .int .i64 d] w fun e w' => e = .returned (.int .i64 (g : Int)) ∧ Below w.heap.size w w') :
    Calls Tryz.prog 16 #[rate n d false] w fun e w' => e = .returned (.int .i64 R) ∧ Below w.heap.size w w' := by
  have M1 := Lib.hid m1
  have HR := Lib.hid hR
  clear m1 hR
  have hgc : ((g : Int) != 1) = false ∧ g = 1 ∨ ((g : Int) != 1) = true ∧ g ≠ 1 := by
    by_cases hg1 : g = 1
    · exact .inl ⟨by simp [hg1], hg1⟩
    · exact .inr ⟨by simp; omega, hg1⟩
  rcases hgc with ⟨hg2, hg1⟩ | ⟨hg2, hg1⟩
  all_goals
    have HG1 := Lib.hid hg1
    clear hg1
    go_enter Tryz.func16, Tryz.ntmps16
    go_wp2_with fail
    with_reducible refine (M1.out _).mono ?_
    rintro e w1 ⟨rfl, hb1⟩
    have h_A : w1.heap[w.heap.size]? = some (.cells #[.int .i64 n, .int .i64 d, .bool false] 23 (0, 0)) := by
      refine Hand.kb hb1 ?_; simp (disch := first | omega | (simp only [Hand.sa, Hand.ss, Hand.sd, Hand.sn]; first | done | omega)) only [Hand.q2, Hand.q1, Hand.q5, Hand.q6, Hand.q4, Hand.q3] <;> rfl
    have hB' : Below w.heap.size w w1 := Hand.stepB hb1 (by repeat (with_reducible first | apply Below.refl _ _ | apply Below.drew | apply pw_below_drewN | (apply Below.setCell; rotate_left; (dsimp only; omega)) | (apply Below.alloc; rotate_left; (first | omega | (simp only [Hand.sa, Hand.ss, Hand.sd, Hand.sn]; omega))))) (Nat.le_refl _)
    clear hb1
    have g_A := h_A
    have hB := hB'
    clear hB' h_A
    obtain ⟨z_A, z1_A, z2_A, y0_A, y1_A⟩ := Hand.hz g_A
    obtain ⟨c_A_0, f_A_0, c_A_1, f_A_1, c_A_2, f_A_2⟩ := Hand.hc3 g_A
    have zw : w.heap.size ≤ w1.heap.size := hB.size
    have HG := Lib.hid (And.intro g_A (hB))
    clear g_A hB
    go_wp2
    all_goals
      go_ret
      obtain ⟨g_A, hB⟩ := HG.out
      refine ⟨?_, hB⟩
      have hg1 := HG1.out
      rw [← HR.out]
      first
        | (rw [if_pos ⟨by omega, by omega, by omega, by first | (intro h; cases h; done) | (intro _; omega)⟩]; rfl)
        | (rw [if_neg (fun hh => by obtain ⟨h3, h4, h5, h6⟩ := hh; first | omega | (have h7 := h6 (by first | rfl | trivial); omega))]; rfl)
set_option maxHeartbeats 1600000 in
set_option maxRecDepth 100000 in
theorem rcheck_true (n d R : Int) (g : Nat) (w : World) (n1 : 1 ≤ n) (n2 : n ≤ 240000) (d1 : 1 ≤ d) (d2 : d ≤ 1001) (g9 : (g : Int) ≤ 240000)
    (hR : (if g = 1 ∧ d ≤ n ∧ n ≤ 240 * d ∧ (true = true → d = 1001 ∧ (n = 30000 ∨ n = 60000)) then 0 else 14) = R)
    (m1 : ∀ w, Calls Tryz.prog 47 #[.int .i64 n, .int .i64 d] w fun e w' => e = .returned (.int .i64 (g : Int)) ∧ Below w.heap.size w w') :
    Calls Tryz.prog 16 #[rate n d true] w fun e w' => e = .returned (.int .i64 R) ∧ Below w.heap.size w w' := by
  have M1 := Lib.hid m1
  have HR := Lib.hid hR
  clear m1 hR
  have hgc : ((g : Int) != 1) = false ∧ g = 1 ∨ ((g : Int) != 1) = true ∧ g ≠ 1 := by
    by_cases hg1 : g = 1
    · exact .inl ⟨by simp [hg1], hg1⟩
    · exact .inr ⟨by simp; omega, hg1⟩
  rcases hgc with ⟨hg2, hg1⟩ | ⟨hg2, hg1⟩
  all_goals
    have HG1 := Lib.hid hg1
    clear hg1
    go_enter Tryz.func16, Tryz.ntmps16
    go_wp2_with fail
    with_reducible refine (M1.out _).mono ?_
    rintro e w1 ⟨rfl, hb1⟩
    have h_A : w1.heap[w.heap.size]? = some (.cells #[.int .i64 n, .int .i64 d, .bool true] 23 (0, 0)) := by
      refine Hand.kb hb1 ?_; simp (disch := first | omega | (simp only [Hand.sa, Hand.ss, Hand.sd, Hand.sn]; first | done | omega)) only [Hand.q2, Hand.q1, Hand.q5, Hand.q6, Hand.q4, Hand.q3] <;> rfl
    have hB' : Below w.heap.size w w1 := Hand.stepB hb1 (by repeat (with_reducible first | apply Below.refl _ _ | apply Below.drew | apply pw_below_drewN | (apply Below.setCell; rotate_left; (dsimp only; omega)) | (apply Below.alloc; rotate_left; (first | omega | (simp only [Hand.sa, Hand.ss, Hand.sd, Hand.sn]; omega))))) (Nat.le_refl _)
    clear hb1
    have g_A := h_A
    have hB := hB'
    clear hB' h_A
    obtain ⟨z_A, z1_A, z2_A, y0_A, y1_A⟩ := Hand.hz g_A
    obtain ⟨c_A_0, f_A_0, c_A_1, f_A_1, c_A_2, f_A_2⟩ := Hand.hc3 g_A
    have zw : w.heap.size ≤ w1.heap.size := hB.size
    have HG := Lib.hid (And.intro g_A (hB))
    clear g_A hB
    go_wp2
    all_goals
      go_ret
      obtain ⟨g_A, hB⟩ := HG.out
      refine ⟨?_, hB⟩
      have hg1 := HG1.out
      rw [← HR.out]
      first
        | (rw [if_pos ⟨by omega, by omega, by omega, by first | (intro h; cases h; done) | (intro _; omega)⟩]; rfl)
        | (have hx : (!n == 30000) = false ∨ (!n == 60000) = false := (by assumption); simp at hx; rw [if_pos ⟨by omega, by omega, by omega, fun _ => by omega⟩]; rfl)
        | (have hx : (!n == 30000) = true ∧ (!n == 60000) = true := (by assumption); simp at hx; rw [if_neg (fun hh => by obtain ⟨h3, h4, h5, h6⟩ := hh; have h7 := h6 (by first | rfl | trivial); omega)]; rfl)
        | (rw [if_neg (fun hh => by obtain ⟨h3, h4, h5, h6⟩ := hh; first | omega | (have h7 := h6 (by first | rfl | trivial); omega))]; rfl)
set_option maxHeartbeats 800000 in
set_option maxRecDepth 100000 in
theorem rcheck_out (n d : Int) (dr : Bool) (w : World) (h : n < 1 ∨ n > 240000 ∨ d < 1 ∨ d > 1001) :
    Calls Tryz.prog 16 #[rate n d dr] w fun e w' => e = .returned (.int .i64 14) ∧ Below w.heap.size w w' := by
  have hh := Lib.hid h
  clear h
  go_enter Tryz.func16, Tryz.ntmps16
  go_wp2_with fail
  all_goals first
    | (go_ret; exact ⟨rfl, (Below.refl _ _).alloc (Nat.le_refl _) _⟩)
    | (exfalso; have := hh.out; omega)
theorem rcheck_any (n d : Int) (dr : Bool) (w : World) :
    Calls Tryz.prog 16 #[rate n d dr] w fun e w' => e = .returned (.int .i64 (checkS n d dr)) ∧ Below w.heap.size w w' := by
  by_cases h : n < 1 ∨ n > 240000 ∨ d < 1 ∨ d > 1001
  · have e : checkS n d dr = 14 := by
      unfold checkS
      rw [if_neg (fun hh => by have := okR_iff.mp hh; obtain ⟨_, _, _, _, _, _, _, _⟩ := this; omega)]
    rw [e]; exact rcheck_out n d dr w h
  · have h1 : 1 ≤ n := by omega
    have h2 : 1 ≤ d := by omega
    have m1 := common_of (a := n) (b := d) (by omega) (by omega) (by omega) (by omega)
    have hg : Nat.gcd n.natAbs d.natAbs ≤ n.natAbs := Nat.gcd_le_left _ (by omega)
    have e := checkS_of (dr := dr) (n := n) (d := d) h1 (by omega) h2 (by omega) rfl
    cases dr
    · exact rcheck_false n d _ _ w h1 (by omega) h2 (by omega) (by omega) e.symm m1
    · exact rcheck_true n d _ _ w h1 (by omega) h2 (by omega) (by omega) e.symm m1
end Go.Proofs.YtghiibdhibcbaaaGreatDoor.PA
namespace Go.Proofs.YtghiibdhibcbaaaGreatDoor.PA
open Go Go.RowKit Go.Proofs.YtghiibdhibcbaaaGreatDoorW.PrintWords Go.Proofs.YtghiibdhibcbaaaGreatDoorW.PrintLast Go.Proofs.YtghiibdhibcbaaaGreatDoorW.PrintMore Go.Proofs.YtghiibdhibcbaaaGreatDoor.CS
set_option linter.unusedSimpArgs false
set_option linter.unusedVariables false
set_option maxHeartbeats 800000 in
set_option maxRecDepth 100000 in
theorem rfull_of (n d : Int) (dr : Bool) (n1 : 1 ≤ n) (n2 : n ≤ 240000) (d1 : 1 ≤ d) (d2 : d ≤ 1001) (w : World) :
    Calls Tryz.prog 22 #[rate n d dr] w fun e w' => e = .returned (.int .i64 ((n + d - 1) / d)) ∧ Below w.heap.size w w' := by
  have hd : ¬ d = 0 := by omega
  go_enter Tryz.func22, Tryz.ntmps22
  go_wp2
  go_ret
  exact ⟨rfl, bw (Below.refl _ _)⟩
set_option maxHeartbeats 800000 in
set_option maxRecDepth 100000 in
theorem rlast_of (n d : Int) (dr : Bool) (n1 : 1 ≤ n) (n2 : n ≤ 240000) (d1 : 1 ≤ d) (d2 : d ≤ 1001) (w : World) :
    Calls Tryz.prog 21 #[rate n d dr] w fun e w' => e = .returned (.int .i64 (360000 * n / d)) ∧ Below w.heap.size w w' := by
  have hd : ¬ d = 0 := by omega
  go_enter Tryz.func21, Tryz.ntmps21
  go_wp2
  go_ret
  exact ⟨rfl, bw (Below.refl _ _)⟩
set_option maxHeartbeats 800000 in
set_option maxRecDepth 100000 in
theorem rleft_no (n d : Int) (w : World) :
    Calls Tryz.prog 23 #[rate n d false] w fun e w' => e = .returned (.int .i64 0) ∧ Below w.heap.size w w' := by
  go_enter Tryz.func23, Tryz.ntmps23
  go_wp2
  go_ret
  exact ⟨rfl, bw (Below.refl _ _)⟩
set_option maxHeartbeats 800000 in
set_option maxRecDepth 100000 in
theorem rleft_yes (n d f : Int) (f0 : 0 ≤ f) (f1 : f ≤ 240) (w : World)
    (m1 : ∀ w, Calls Tryz.prog 22 #[rate n d true] w fun e w' => e = .returned (.int .i64 f) ∧ Below w.heap.size w w') :
    Calls Tryz.prog 23 #[rate n d true] w fun e w' => e = .returned (.int .i64 (f / 15)) ∧ Below w.heap.size w w' := by
  have M1 := Lib.hid m1
  clear m1
  go_enter Tryz.func23, Tryz.ntmps23
  go_wp2_with fail
  with_reducible refine (M1.out _).mono ?_
  rintro e w1 ⟨rfl, hb1⟩
  have h_A : w1.heap[w.heap.size]? = some (.cells #[.int .i64 n, .int .i64 d, .bool true] 23 (0, 0)) := by
    refine Hand.kb hb1 ?_; simp (disch := first | omega | (simp only [Hand.sa, Hand.ss, Hand.sd, Hand.sn]; first | done | omega)) only [Hand.q2, Hand.q1, Hand.q5, Hand.q6, Hand.q4, Hand.q3] <;> rfl
  have hB' : Below w.heap.size w w1 := Hand.stepB hb1 (by repeat (with_reducible first | apply Below.refl _ _ | apply Below.drew | apply pw_below_drewN | (apply Below.setCell; rotate_left; (dsimp only; omega)) | (apply Below.alloc; rotate_left; (first | omega | (simp only [Hand.sa, Hand.ss, Hand.sd, Hand.sn]; omega))))) (Nat.le_refl _)
  clear hb1
  have g_A := h_A
  have hB := hB'
  clear hB' h_A
  obtain ⟨z_A, z1_A, z2_A, y0_A, y1_A⟩ := Hand.hz g_A
  obtain ⟨c_A_0, f_A_0, c_A_1, f_A_1, c_A_2, f_A_2⟩ := Hand.hc3 g_A
  have zw : w.heap.size ≤ w1.heap.size := hB.size
  have HG := Lib.hid (And.intro g_A (hB))
  clear g_A hB
  go_wp2
  go_ret
  obtain ⟨g_A, hB⟩ := HG.out
  exact ⟨rfl, hB⟩
set_option maxHeartbeats 800000 in
set_option maxRecDepth 100000 in
theorem rout_0 (n d m : Int) (dr : Bool) (m0 : 0 ≤ m) (h : m % 10 = 0) (w : World) :
    Calls Tryz.prog 24 #[rate n d dr, .int .i64 m] w fun e w' => e = .returned (.int .i64 0) ∧ Below w.heap.size w w' := by
  go_enter Tryz.func24, Tryz.ntmps24
  go_wp2
  go_ret
  exact ⟨rfl, bw (Below.refl _ _)⟩
set_option maxHeartbeats 800000 in
set_option maxRecDepth 100000 in
theorem rout_1 (n d m g : Int) (dr : Bool) (m0 : 0 ≤ m) (h : ¬ m % 10 = 0) (w : World)
    (m1 : ∀ w, Calls Tryz.prog 23 #[rate n d dr] w fun e w' => e = .returned (.int .i64 g) ∧ Below w.heap.size w w') :
    Calls Tryz.prog 24 #[rate n d dr, .int .i64 m] w fun e w' => e = .returned (.int .i64 g) ∧ Below w.heap.size w w' := by
  have M1 := Lib.hid m1
  clear m1
  go_enter Tryz.func24, Tryz.ntmps24
  go_wp2_with fail
  with_reducible refine (M1.out _).mono ?_
  rintro e w1 ⟨rfl, hb1⟩
  have h_A : w1.heap[w.heap.size]? = some (.cells #[.int .i64 n, .int .i64 d, .bool dr] 23 (0, 0)) := by
    refine Hand.kb hb1 ?_; simp (disch := first | omega | (simp only [Hand.sa, Hand.ss, Hand.sd, Hand.sn]; first | done | omega)) only [Hand.q2, Hand.q1, Hand.q5, Hand.q6, Hand.q4, Hand.q3] <;> rfl
  have hB' : Below w.heap.size w w1 := Hand.stepB hb1 (by repeat (with_reducible first | apply Below.refl _ _ | apply Below.drew | apply pw_below_drewN | (apply Below.setCell; rotate_left; (dsimp only; omega)) | (apply Below.alloc; rotate_left; (first | omega | (simp only [Hand.sa, Hand.ss, Hand.sd, Hand.sn]; omega))))) (Nat.le_refl _)
  clear hb1
  have g_A := h_A
  have hB := hB'
  clear hB' h_A
  obtain ⟨z_A, z1_A, z2_A, y0_A, y1_A⟩ := Hand.hz g_A
  obtain ⟨c_A_0, f_A_0, c_A_1, f_A_1, c_A_2, f_A_2⟩ := Hand.hc3 g_A
  have zw : w.heap.size ≤ w1.heap.size := hB.size
  have HG := Lib.hid (And.intro g_A (hB))
  clear g_A hB
  go_wp2
  go_ret
  obtain ⟨g_A, hB⟩ := HG.out
  exact ⟨rfl, hB⟩
set_option maxHeartbeats 800000 in
set_option maxRecDepth 100000 in
theorem rwide_3 (f : Int) (h : 100 < f) (w : World) :
    Calls Tryz.prog 26 #[.int .i64 f] w fun e w' => e = .returned (.int .i64 3) ∧ Below w.heap.size w w' := by
  go_enter Tryz.func26, Tryz.ntmps26
  go_wp2
  go_ret
  exact ⟨rfl, Below.refl _ _⟩
set_option maxHeartbeats 800000 in
set_option maxRecDepth 100000 in
theorem rwide_2 (f : Int) (h : f ≤ 100) (w : World) :
    Calls Tryz.prog 26 #[.int .i64 f] w fun e w' => e = .returned (.int .i64 2) ∧ Below w.heap.size w w' := by
  go_enter Tryz.func26, Tryz.ntmps26
  go_wp2
  go_ret
  exact ⟨rfl, Below.refl _ _⟩
set_option maxHeartbeats 800000 in
set_option maxRecDepth 100000 in
theorem rgrid_1  (w : World) :
    Calls Tryz.prog 27 #[.int .i64 1] w fun e w' => e = .returned (.int .i64 1000) ∧ Below w.heap.size w w' := by
  go_enter Tryz.func27, Tryz.ntmps27
  go_wp2
  go_ret
  exact ⟨rfl, bw (Below.refl _ _)⟩
set_option maxHeartbeats 800000 in
set_option maxRecDepth 100000 in
theorem rgrid_2  (w : World) :
    Calls Tryz.prog 27 #[.int .i64 2] w fun e w' => e = .returned (.int .i64 1000) ∧ Below w.heap.size w w' := by
  go_enter Tryz.func27, Tryz.ntmps27
  go_wp2
  go_ret
  exact ⟨rfl, bw (Below.refl _ _)⟩
set_option maxHeartbeats 800000 in
set_option maxRecDepth 100000 in
theorem rgrid_4  (w : World) :
    Calls Tryz.prog 27 #[.int .i64 4] w fun e w' => e = .returned (.int .i64 100) ∧ Below w.heap.size w w' := by
  go_enter Tryz.func27, Tryz.ntmps27
  go_wp2
  go_ret
  exact ⟨rfl, bw (Below.refl _ _)⟩
set_option maxHeartbeats 800000 in
set_option maxRecDepth 100000 in
theorem rgrid_0 (f : Int) (h1 : (f == 1) = false) (h2 : (f == 2) = false) (h4 : (f == 4) = false) (w : World) :
    Calls Tryz.prog 27 #[.int .i64 f] w fun e w' => e = .returned (.int .i64 0) ∧ Below w.heap.size w w' := by
  go_enter Tryz.func27, Tryz.ntmps27
  go_wp2
  go_ret
  exact ⟨rfl, bw (Below.refl _ _)⟩
set_option maxHeartbeats 800000 in
set_option maxRecDepth 100000 in
theorem rlowest_of (n d g p q : Int) (n0 : 0 ≤ n) (n1 : n ≤ 9000000000000000000) (d0 : 0 ≤ d) (d1 : d ≤ 9000000000000000000) (g0 : 1 ≤ g) (hp : n / g = p) (hq : d / g = q) (p0 : 0 ≤ p) (p1 : p ≤ 9000000000000000000) (q0 : 0 ≤ q) (q1 : q ≤ 9000000000000000000) (w : World)
    (m1 : ∀ w, Calls Tryz.prog 47 #[.int .i64 n, .int .i64 d] w fun e w' => e = .returned (.int .i64 g) ∧ Below w.heap.size w w') :
    Calls Tryz.prog 83 #[.int .i64 n, .int .i64 d] w fun e w' => e = .returned (.agg #[.int .i64 p, .int .i64 q]) ∧ Below w.heap.size w w' := by
  have hg2 : ¬ g = 0 := by omega
  have M1 := Lib.hid m1
  clear m1
  go_enter Tryz.func83, Tryz.ntmps83
  go_wp2_with fail
  with_reducible refine (M1.out _).mono ?_
  rintro e w1 ⟨rfl, hb1⟩
  have h_R : w1.heap[w.heap.size]? = some (.cells #[.int .i64 0, .int .i64 0] 30 (0, 0)) := by
    refine Hand.kb hb1 ?_; simp (disch := first | omega | (simp only [Hand.sa, Hand.ss, Hand.sd, Hand.sn]; first | done | omega)) only [Hand.q2, Hand.q1, Hand.q5, Hand.q6, Hand.q4, Hand.q3] <;> rfl
  have hB' : Below w.heap.size w w1 := Hand.stepB hb1 (by repeat (with_reducible first | apply Below.refl _ _ | apply Below.drew | apply pw_below_drewN | (apply Below.setCell; rotate_left; (dsimp only; omega)) | (apply Below.alloc; rotate_left; (first | omega | (simp only [Hand.sa, Hand.ss, Hand.sd, Hand.sn]; omega))))) (Nat.le_refl _)
  clear hb1
  have g_R := h_R
  have hB := hB'
  clear hB' h_R
  obtain ⟨z_R, z1_R, z2_R, y0_R, y1_R⟩ := Hand.hz g_R
  obtain ⟨c_R_0, f_R_0, c_R_1, f_R_1⟩ := Hand.hc2 g_R
  have zw : w.heap.size ≤ w1.heap.size := hB.size
  have HG := Lib.hid (And.intro g_R (hB))
  clear g_R hB
  go_wp2
  have e1 : IntKind.i64.wrap (n.tdiv g) = p := by rw [Int.tdiv_eq_ediv_of_nonneg n0, hp, IntKind.wrap_i64]; omega
  have e2 : IntKind.i64.wrap (d.tdiv g) = q := by rw [Int.tdiv_eq_ediv_of_nonneg d0, hq, IntKind.wrap_i64]; omega
  go_still_tail 7, (by kernel_rfl)
  change wpList _ _ _ _ _ w1.drew
  go_wp2
  obtain ⟨g_R, hB⟩ := HG.out
  refine bodyPost_ret (results_cell_row rfl _ _ (w.heap.size) 30 #[.int .i64 p, .int .i64 q] (0, 0) _ rfl ?_ Tryz.underlying30 rfl (by kernel_rfl)) rfl ⟨rfl, ?_⟩
  · simp (disch := omega) only [Hand.q5, Hand.q1, g_R]; rfl
  · exact Below.drew ((hB.setCell (by dsimp only; omega) _).setCell (by dsimp only; omega) _)
set_option maxHeartbeats 800000 in
set_option maxRecDepth 100000 in
theorem rtimed_out (a b : Int) (h : b < 1 ∨ b > 2147483648 ∨ a < -4611686018427387904 ∨ a > 4611686018427387904) (w : World) :
    Calls Tryz.prog 28 #[.agg #[.int .i64 a, .int .i64 b]] w fun e w' => e = .returned (.int .i64 12) ∧ Below w.heap.size w w' := by
  have HH := Lib.hid h
  clear h
  go_enter Tryz.func28, Tryz.ntmps28
  go_wp2_with fail
  all_goals first | (exfalso; have := HH.out; omega) | skip
  all_goals
    go_ret
    exact ⟨rfl, bw (Below.refl _ _)⟩
set_option maxHeartbeats 800000 in
set_option maxRecDepth 100000 in
theorem rtimed_gcdp (a b g : Int) (b1 : 1 ≤ b) (b2 : b ≤ 2147483648) (a1 : -4611686018427387904 ≤ a) (a2 : a ≤ 4611686018427387904) (s : 0 ≤ a) (q : (g == 1) = false) (w : World)
    (m1 : ∀ w, Calls Tryz.prog 47 #[.int .i64 a, .int .i64 b] w fun e w' => e = .returned (.int .i64 g) ∧ Below w.heap.size w w') :
    Calls Tryz.prog 28 #[.agg #[.int .i64 a, .int .i64 b]] w fun e w' => e = .returned (.int .i64 12) ∧ Below w.heap.size w w' := by
  have q2 : (g != 1) = true := by simpa using q
  have hb2 : ¬ b = 0 := by omega
  have M1 := Lib.hid m1
  clear m1
  go_enter Tryz.func28, Tryz.ntmps28
  go_wp2_with fail
  with_reducible refine (M1.out _).mono ?_
  rintro e w1 ⟨rfl, hb1⟩
  have h_T : w1.heap[w.heap.size]? = some (.cells #[.int .i64 a, .int .i64 b] 30 (0, 0)) := by
    refine Hand.kb hb1 ?_; simp (disch := first | omega | (simp only [Hand.sa, Hand.ss, Hand.sd, Hand.sn]; first | done | omega)) only [Hand.q2, Hand.q1, Hand.q5, Hand.q6, Hand.q4, Hand.q3] <;> rfl
  have hB' : Below w.heap.size w w1 := Hand.stepB hb1 (by repeat (with_reducible first | apply Below.refl _ _ | apply Below.drew | apply pw_below_drewN | (apply Below.setCell; rotate_left; (dsimp only; omega)) | (apply Below.alloc; rotate_left; (first | omega | (simp only [Hand.sa, Hand.ss, Hand.sd, Hand.sn]; omega))))) (Nat.le_refl _)
  clear hb1
  have g_T := h_T
  have hB := hB'
  clear hB' h_T
  obtain ⟨z_T, z1_T, z2_T, y0_T, y1_T⟩ := Hand.hz g_T
  obtain ⟨c_T_0, f_T_0, c_T_1, f_T_1⟩ := Hand.hc2 g_T
  have zw : w.heap.size ≤ w1.heap.size := hB.size
  have HG := Lib.hid (And.intro g_T (hB))
  clear g_T hB
  go_wp2
  go_ret
  obtain ⟨g_T, hB⟩ := HG.out
  exact ⟨rfl, hB⟩
set_option maxHeartbeats 800000 in
set_option maxRecDepth 100000 in
theorem rtimed_gridp (a b g : Int) (b1 : 1 ≤ b) (b2 : b ≤ 2147483648) (a1 : -4611686018427387904 ≤ a) (a2 : a ≤ 4611686018427387904) (s : 0 ≤ a) (q : (g == 1) = true) (q3 : 1048576 < b) (w : World)
    (m1 : ∀ w, Calls Tryz.prog 47 #[.int .i64 a, .int .i64 b] w fun e w' => e = .returned (.int .i64 g) ∧ Below w.heap.size w w') :
    Calls Tryz.prog 28 #[.agg #[.int .i64 a, .int .i64 b]] w fun e w' => e = .returned (.int .i64 12) ∧ Below w.heap.size w w' := by
  have q2 : (g != 1) = false := by simpa using q
  have hb2 : ¬ b = 0 := by omega
  have M1 := Lib.hid m1
  clear m1
  go_enter Tryz.func28, Tryz.ntmps28
  go_wp2_with fail
  with_reducible refine (M1.out _).mono ?_
  rintro e w1 ⟨rfl, hb1⟩
  have h_T : w1.heap[w.heap.size]? = some (.cells #[.int .i64 a, .int .i64 b] 30 (0, 0)) := by
    refine Hand.kb hb1 ?_; simp (disch := first | omega | (simp only [Hand.sa, Hand.ss, Hand.sd, Hand.sn]; first | done | omega)) only [Hand.q2, Hand.q1, Hand.q5, Hand.q6, Hand.q4, Hand.q3] <;> rfl
  have hB' : Below w.heap.size w w1 := Hand.stepB hb1 (by repeat (with_reducible first | apply Below.refl _ _ | apply Below.drew | apply pw_below_drewN | (apply Below.setCell; rotate_left; (dsimp only; omega)) | (apply Below.alloc; rotate_left; (first | omega | (simp only [Hand.sa, Hand.ss, Hand.sd, Hand.sn]; omega))))) (Nat.le_refl _)
  clear hb1
  have g_T := h_T
  have hB := hB'
  clear hB' h_T
  obtain ⟨z_T, z1_T, z2_T, y0_T, y1_T⟩ := Hand.hz g_T
  obtain ⟨c_T_0, f_T_0, c_T_1, f_T_1⟩ := Hand.hc2 g_T
  have zw : w.heap.size ≤ w1.heap.size := hB.size
  have HG := Lib.hid (And.intro g_T (hB))
  clear g_T hB
  go_wp2
  go_ret
  obtain ⟨g_T, hB⟩ := HG.out
  exact ⟨rfl, hB⟩
set_option maxHeartbeats 800000 in
set_option maxRecDepth 100000 in
theorem rtimed_gcdm (a b g : Int) (b1 : 1 ≤ b) (b2 : b ≤ 2147483648) (a1 : -4611686018427387904 ≤ a) (a2 : a ≤ 4611686018427387904) (s : a < 0) (q : (g == 1) = false) (w : World)
    (m1 : ∀ w, Calls Tryz.prog 47 #[.int .i64 (-a), .int .i64 b] w fun e w' => e = .returned (.int .i64 g) ∧ Below w.heap.size w w') :
    Calls Tryz.prog 28 #[.agg #[.int .i64 a, .int .i64 b]] w fun e w' => e = .returned (.int .i64 12) ∧ Below w.heap.size w w' := by
  have q2 : (g != 1) = true := by simpa using q
  have hb2 : ¬ b = 0 := by omega
  have M1 := Lib.hid m1
  clear m1
  go_enter Tryz.func28, Tryz.ntmps28
  go_wp2_with fail
  with_reducible refine (M1.out _).mono ?_
  rintro e w1 ⟨rfl, hb1⟩
  have h_T : w1.heap[w.heap.size]? = some (.cells #[.int .i64 a, .int .i64 b] 30 (0, 0)) := by
    refine Hand.kb hb1 ?_; simp (disch := first | omega | (simp only [Hand.sa, Hand.ss, Hand.sd, Hand.sn]; first | done | omega)) only [Hand.q2, Hand.q1, Hand.q5, Hand.q6, Hand.q4, Hand.q3] <;> rfl
  have hB' : Below w.heap.size w w1 := Hand.stepB hb1 (by repeat (with_reducible first | apply Below.refl _ _ | apply Below.drew | apply pw_below_drewN | (apply Below.setCell; rotate_left; (dsimp only; omega)) | (apply Below.alloc; rotate_left; (first | omega | (simp only [Hand.sa, Hand.ss, Hand.sd, Hand.sn]; omega))))) (Nat.le_refl _)
  clear hb1
  have g_T := h_T
  have hB := hB'
  clear hB' h_T
  obtain ⟨z_T, z1_T, z2_T, y0_T, y1_T⟩ := Hand.hz g_T
  obtain ⟨c_T_0, f_T_0, c_T_1, f_T_1⟩ := Hand.hc2 g_T
  have zw : w.heap.size ≤ w1.heap.size := hB.size
  have HG := Lib.hid (And.intro g_T (hB))
  clear g_T hB
  go_wp2
  go_ret
  obtain ⟨g_T, hB⟩ := HG.out
  exact ⟨rfl, hB⟩
set_option maxHeartbeats 800000 in
set_option maxRecDepth 100000 in
theorem rtimed_gridm (a b g : Int) (b1 : 1 ≤ b) (b2 : b ≤ 2147483648) (a1 : -4611686018427387904 ≤ a) (a2 : a ≤ 4611686018427387904) (s : a < 0) (q : (g == 1) = true) (q3 : 1048576 < b) (w : World)
    (m1 : ∀ w, Calls Tryz.prog 47 #[.int .i64 (-a), .int .i64 b] w fun e w' => e = .returned (.int .i64 g) ∧ Below w.heap.size w w') :
    Calls Tryz.prog 28 #[.agg #[.int .i64 a, .int .i64 b]] w fun e w' => e = .returned (.int .i64 12) ∧ Below w.heap.size w w' := by
  have q2 : (g != 1) = false := by simpa using q
  have hb2 : ¬ b = 0 := by omega
  have M1 := Lib.hid m1
  clear m1
  go_enter Tryz.func28, Tryz.ntmps28
  go_wp2_with fail
  with_reducible refine (M1.out _).mono ?_
  rintro e w1 ⟨rfl, hb1⟩
  have h_T : w1.heap[w.heap.size]? = some (.cells #[.int .i64 a, .int .i64 b] 30 (0, 0)) := by
    refine Hand.kb hb1 ?_; simp (disch := first | omega | (simp only [Hand.sa, Hand.ss, Hand.sd, Hand.sn]; first | done | omega)) only [Hand.q2, Hand.q1, Hand.q5, Hand.q6, Hand.q4, Hand.q3] <;> rfl
  have hB' : Below w.heap.size w w1 := Hand.stepB hb1 (by repeat (with_reducible first | apply Below.refl _ _ | apply Below.drew | apply pw_below_drewN | (apply Below.setCell; rotate_left; (dsimp only; omega)) | (apply Below.alloc; rotate_left; (first | omega | (simp only [Hand.sa, Hand.ss, Hand.sd, Hand.sn]; omega))))) (Nat.le_refl _)
  clear hb1
  have g_T := h_T
  have hB := hB'
  clear hB' h_T
  obtain ⟨z_T, z1_T, z2_T, y0_T, y1_T⟩ := Hand.hz g_T
  obtain ⟨c_T_0, f_T_0, c_T_1, f_T_1⟩ := Hand.hc2 g_T
  have zw : w.heap.size ≤ w1.heap.size := hB.size
  have HG := Lib.hid (And.intro g_T (hB))
  clear g_T hB
  go_wp2
  go_ret
  obtain ⟨g_T, hB⟩ := HG.out
  exact ⟨rfl, hB⟩
set_option maxHeartbeats 800000 in
set_option maxRecDepth 100000 in
theorem rtimed_neg (a b g : Int) (b1 : 1 ≤ b) (b2 : b ≤ 2147483648) (a1 : -4611686018427387904 ≤ a) (a2 : a ≤ 4611686018427387904) (s : a < 0) (q : (g == 1) = true) (q3 : b ≤ 1048576) (w : World)
    (m1 : ∀ w, Calls Tryz.prog 47 #[.int .i64 (-a), .int .i64 b] w fun e w' => e = .returned (.int .i64 g) ∧ Below w.heap.size w w') :
    Calls Tryz.prog 28 #[.agg #[.int .i64 a, .int .i64 b]] w fun e w' => e = .returned (.int .i64 31) ∧ Below w.heap.size w w' := by
  have q2 : (g != 1) = false := by simpa using q
  have hb2 : ¬ b = 0 := by omega
  have M1 := Lib.hid m1
  clear m1
  go_enter Tryz.func28, Tryz.ntmps28
  go_wp2_with fail
  with_reducible refine (M1.out _).mono ?_
  rintro e w1 ⟨rfl, hb1⟩
  have h_T : w1.heap[w.heap.size]? = some (.cells #[.int .i64 a, .int .i64 b] 30 (0, 0)) := by
    refine Hand.kb hb1 ?_; simp (disch := first | omega | (simp only [Hand.sa, Hand.ss, Hand.sd, Hand.sn]; first | done | omega)) only [Hand.q2, Hand.q1, Hand.q5, Hand.q6, Hand.q4, Hand.q3] <;> rfl
  have hB' : Below w.heap.size w w1 := Hand.stepB hb1 (by repeat (with_reducible first | apply Below.refl _ _ | apply Below.drew | apply pw_below_drewN | (apply Below.setCell; rotate_left; (dsimp only; omega)) | (apply Below.alloc; rotate_left; (first | omega | (simp only [Hand.sa, Hand.ss, Hand.sd, Hand.sn]; omega))))) (Nat.le_refl _)
  clear hb1
  have g_T := h_T
  have hB := hB'
  clear hB' h_T
  obtain ⟨z_T, z1_T, z2_T, y0_T, y1_T⟩ := Hand.hz g_T
  obtain ⟨c_T_0, f_T_0, c_T_1, f_T_1⟩ := Hand.hc2 g_T
  have zw : w.heap.size ≤ w1.heap.size := hB.size
  have HG := Lib.hid (And.intro g_T (hB))
  clear g_T hB
  go_wp2
  go_ret
  obtain ⟨g_T, hB⟩ := HG.out
  exact ⟨rfl, hB⟩
set_option maxHeartbeats 800000 in
set_option maxRecDepth 100000 in
theorem rtimed_far (a b g : Int) (b1 : 1 ≤ b) (b2 : b ≤ 2147483648) (a1 : -4611686018427387904 ≤ a) (a2 : a ≤ 4611686018427387904) (s : 0 ≤ a) (q : (g == 1) = true) (q3 : b ≤ 1048576) (z : a / b > 360000) (w : World)
    (m1 : ∀ w, Calls Tryz.prog 47 #[.int .i64 a, .int .i64 b] w fun e w' => e = .returned (.int .i64 g) ∧ Below w.heap.size w w') :
    Calls Tryz.prog 28 #[.agg #[.int .i64 a, .int .i64 b]] w fun e w' => e = .returned (.int .i64 31) ∧ Below w.heap.size w w' := by
  have q2 : (g != 1) = false := by simpa using q
  have hb2 : ¬ b = 0 := by omega
  have M1 := Lib.hid m1
  clear m1
  go_enter Tryz.func28, Tryz.ntmps28
  go_wp2_with fail
  with_reducible refine (M1.out _).mono ?_
  rintro e w1 ⟨rfl, hb1⟩
  have h_T : w1.heap[w.heap.size]? = some (.cells #[.int .i64 a, .int .i64 b] 30 (0, 0)) := by
    refine Hand.kb hb1 ?_; simp (disch := first | omega | (simp only [Hand.sa, Hand.ss, Hand.sd, Hand.sn]; first | done | omega)) only [Hand.q2, Hand.q1, Hand.q5, Hand.q6, Hand.q4, Hand.q3] <;> rfl
  have hB' : Below w.heap.size w w1 := Hand.stepB hb1 (by repeat (with_reducible first | apply Below.refl _ _ | apply Below.drew | apply pw_below_drewN | (apply Below.setCell; rotate_left; (dsimp only; omega)) | (apply Below.alloc; rotate_left; (first | omega | (simp only [Hand.sa, Hand.ss, Hand.sd, Hand.sn]; omega))))) (Nat.le_refl _)
  clear hb1
  have g_T := h_T
  have hB := hB'
  clear hB' h_T
  obtain ⟨z_T, z1_T, z2_T, y0_T, y1_T⟩ := Hand.hz g_T
  obtain ⟨c_T_0, f_T_0, c_T_1, f_T_1⟩ := Hand.hc2 g_T
  have zw : w.heap.size ≤ w1.heap.size := hB.size
  have HG := Lib.hid (And.intro g_T (hB))
  clear g_T hB
  go_wp2
  go_ret
  obtain ⟨g_T, hB⟩ := HG.out
  exact ⟨rfl, hB⟩
set_option maxHeartbeats 800000 in
set_option maxRecDepth 100000 in
theorem rtimed_rest (a b g : Int) (b1 : 1 ≤ b) (b2 : b ≤ 2147483648) (a1 : -4611686018427387904 ≤ a) (a2 : a ≤ 4611686018427387904) (s : 0 ≤ a) (q : (g == 1) = true) (q3 : b ≤ 1048576) (z : (a / b == 360000) = true) (z2 : (a % b == 0) = false) (w : World)
    (m1 : ∀ w, Calls Tryz.prog 47 #[.int .i64 a, .int .i64 b] w fun e w' => e = .returned (.int .i64 g) ∧ Below w.heap.size w w') :
    Calls Tryz.prog 28 #[.agg #[.int .i64 a, .int .i64 b]] w fun e w' => e = .returned (.int .i64 31) ∧ Below w.heap.size w w' := by
  have q2 : (g != 1) = false := by simpa using q
  have z3 : (a % b != 0) = true := by simpa using z2
  have z4 : a / b = 360000 := by simpa using z
  have z5 : ¬ a % b = 0 := by simpa using z2
  have hb2 : ¬ b = 0 := by omega
  have M1 := Lib.hid m1
  clear m1
  go_enter Tryz.func28, Tryz.ntmps28
  go_wp2_with fail
  with_reducible refine (M1.out _).mono ?_
  rintro e w1 ⟨rfl, hb1⟩
  have h_T : w1.heap[w.heap.size]? = some (.cells #[.int .i64 a, .int .i64 b] 30 (0, 0)) := by
    refine Hand.kb hb1 ?_; simp (disch := first | omega | (simp only [Hand.sa, Hand.ss, Hand.sd, Hand.sn]; first | done | omega)) only [Hand.q2, Hand.q1, Hand.q5, Hand.q6, Hand.q4, Hand.q3] <;> rfl
  have hB' : Below w.heap.size w w1 := Hand.stepB hb1 (by repeat (with_reducible first | apply Below.refl _ _ | apply Below.drew | apply pw_below_drewN | (apply Below.setCell; rotate_left; (dsimp only; omega)) | (apply Below.alloc; rotate_left; (first | omega | (simp only [Hand.sa, Hand.ss, Hand.sd, Hand.sn]; omega))))) (Nat.le_refl _)
  clear hb1
  have g_T := h_T
  have hB := hB'
  clear hB' h_T
  obtain ⟨z_T, z1_T, z2_T, y0_T, y1_T⟩ := Hand.hz g_T
  obtain ⟨c_T_0, f_T_0, c_T_1, f_T_1⟩ := Hand.hc2 g_T
  have zw : w.heap.size ≤ w1.heap.size := hB.size
  have HG := Lib.hid (And.intro g_T (hB))
  clear g_T hB
  go_wp2
  go_ret
  obtain ⟨g_T, hB⟩ := HG.out
  exact ⟨rfl, hB⟩
set_option maxHeartbeats 800000 in
set_option maxRecDepth 100000 in
theorem rtimed_ok1 (a b g : Int) (b1 : 1 ≤ b) (b2 : b ≤ 2147483648) (a1 : -4611686018427387904 ≤ a) (a2 : a ≤ 4611686018427387904) (s : 0 ≤ a) (q : (g == 1) = true) (q3 : b ≤ 1048576) (z : a / b < 360000) (w : World)
    (m1 : ∀ w, Calls Tryz.prog 47 #[.int .i64 a, .int .i64 b] w fun e w' => e = .returned (.int .i64 g) ∧ Below w.heap.size w w') :
    Calls Tryz.prog 28 #[.agg #[.int .i64 a, .int .i64 b]] w fun e w' => e = .returned (.int .i64 0) ∧ Below w.heap.size w w' := by
  have q2 : (g != 1) = false := by simpa using q
  have z3 : (a / b == 360000) = false := by simp; omega
  have hb2 : ¬ b = 0 := by omega
  have M1 := Lib.hid m1
  clear m1
  go_enter Tryz.func28, Tryz.ntmps28
  go_wp2_with fail
  with_reducible refine (M1.out _).mono ?_
  rintro e w1 ⟨rfl, hb1⟩
  have h_T : w1.heap[w.heap.size]? = some (.cells #[.int .i64 a, .int .i64 b] 30 (0, 0)) := by
    refine Hand.kb hb1 ?_; simp (disch := first | omega | (simp only [Hand.sa, Hand.ss, Hand.sd, Hand.sn]; first | done | omega)) only [Hand.q2, Hand.q1, Hand.q5, Hand.q6, Hand.q4, Hand.q3] <;> rfl
  have hB' : Below w.heap.size w w1 := Hand.stepB hb1 (by repeat (with_reducible first | apply Below.refl _ _ | apply Below.drew | apply pw_below_drewN | (apply Below.setCell; rotate_left; (dsimp only; omega)) | (apply Below.alloc; rotate_left; (first | omega | (simp only [Hand.sa, Hand.ss, Hand.sd, Hand.sn]; omega))))) (Nat.le_refl _)
  clear hb1
  have g_T := h_T
  have hB := hB'
  clear hB' h_T
  obtain ⟨z_T, z1_T, z2_T, y0_T, y1_T⟩ := Hand.hz g_T
  obtain ⟨c_T_0, f_T_0, c_T_1, f_T_1⟩ := Hand.hc2 g_T
  have zw : w.heap.size ≤ w1.heap.size := hB.size
  have HG := Lib.hid (And.intro g_T (hB))
  clear g_T hB
  go_wp2
  go_ret
  obtain ⟨g_T, hB⟩ := HG.out
  exact ⟨rfl, hB⟩
set_option maxHeartbeats 800000 in
set_option maxRecDepth 100000 in
theorem rtimed_ok2 (a b g : Int) (b1 : 1 ≤ b) (b2 : b ≤ 2147483648) (a1 : -4611686018427387904 ≤ a) (a2 : a ≤ 4611686018427387904) (s : 0 ≤ a) (q : (g == 1) = true) (q3 : b ≤ 1048576) (z : a / b = 360000) (z2 : a % b = 0) (w : World)
    (m1 : ∀ w, Calls Tryz.prog 47 #[.int .i64 a, .int .i64 b] w fun e w' => e = .returned (.int .i64 g) ∧ Below w.heap.size w w') :
    Calls Tryz.prog 28 #[.agg #[.int .i64 a, .int .i64 b]] w fun e w' => e = .returned (.int .i64 0) ∧ Below w.heap.size w w' := by
  have q2 : (g != 1) = false := by simpa using q
  have hb2 : ¬ b = 0 := by omega
  have M1 := Lib.hid m1
  clear m1
  go_enter Tryz.func28, Tryz.ntmps28
  go_wp2_with fail
  with_reducible refine (M1.out _).mono ?_
  rintro e w1 ⟨rfl, hb1⟩
  have h_T : w1.heap[w.heap.size]? = some (.cells #[.int .i64 a, .int .i64 b] 30 (0, 0)) := by
    refine Hand.kb hb1 ?_; simp (disch := first | omega | (simp only [Hand.sa, Hand.ss, Hand.sd, Hand.sn]; first | done | omega)) only [Hand.q2, Hand.q1, Hand.q5, Hand.q6, Hand.q4, Hand.q3] <;> rfl
  have hB' : Below w.heap.size w w1 := Hand.stepB hb1 (by repeat (with_reducible first | apply Below.refl _ _ | apply Below.drew | apply pw_below_drewN | (apply Below.setCell; rotate_left; (dsimp only; omega)) | (apply Below.alloc; rotate_left; (first | omega | (simp only [Hand.sa, Hand.ss, Hand.sd, Hand.sn]; omega))))) (Nat.le_refl _)
  clear hb1
  have g_T := h_T
  have hB := hB'
  clear hB' h_T
  obtain ⟨z_T, z1_T, z2_T, y0_T, y1_T⟩ := Hand.hz g_T
  obtain ⟨c_T_0, f_T_0, c_T_1, f_T_1⟩ := Hand.hc2 g_T
  have zw : w.heap.size ≤ w1.heap.size := hB.size
  have HG := Lib.hid (And.intro g_T (hB))
  clear g_T hB
  go_wp2
  go_ret
  obtain ⟨g_T, hB⟩ := HG.out
  exact ⟨rfl, hB⟩
end Go.Proofs.YtghiibdhibcbaaaGreatDoor.PA
namespace Go.Proofs.YtghiibdhibcbaaaGreatDoor.PA
open Go Go.RowKit Go.Proofs.YtghiibdhibcbaaaGreatDoor.CS
set_option linter.unusedSimpArgs false
set_option linter.unusedVariables false
theorem rfull_any (n d : Int) (dr : Bool) (o : Ok n d dr) (w : World) :
    Calls Tryz.prog 22 #[rate n d dr] w fun e w' => e = .returned (.int .i64 (full n d)) ∧ Below w.heap.size w w' := rfull_of n d dr o.n1 o.n2 o.d1 o.d2 w
theorem rlast_any (n d : Int) (dr : Bool) (o : Ok n d dr) (w : World) :
    Calls Tryz.prog 21 #[rate n d dr] w fun e w' => e = .returned (.int .i64 (last n d)) ∧ Below w.heap.size w w' := rlast_of n d dr o.n1 o.n2 o.d1 o.d2 w
theorem rleft_any (n d : Int) (dr : Bool) (o : Ok n d dr) (w : World) :
    Calls Tryz.prog 23 #[rate n d dr] w fun e w' => e = .returned (.int .i64 (drop n d dr)) ∧ Below w.heap.size w w' := by
  obtain ⟨f0, f1⟩ := full_le o
  rcases o.kinds with ⟨rfl, hd⟩ | ⟨rfl, rfl, rfl, hd, hF⟩ | ⟨rfl, rfl, rfl, hd, hF⟩
  · rw [hd]; exact rleft_no n d w
  · have h := rleft_yes 30000 1001 (full 30000 1001) (by omega) f1 w (rfull_any _ _ _ o)
    rw [hF] at h; rw [hd]; exact h
  · have h := rleft_yes 60000 1001 (full 60000 1001) (by omega) f1 w (rfull_any _ _ _ o)
    rw [hF] at h; rw [hd]; exact h
/-- how many numbers a minute leaves out -/
def outS (n d : Int) (dr : Bool) (m : Int) : Int := if m % 10 = 0 then 0 else drop n d dr
theorem rout_any (n d m : Int) (dr : Bool) (o : Ok n d dr) (m0 : 0 ≤ m) (w : World) :
    Calls Tryz.prog 24 #[rate n d dr, .int .i64 m] w fun e w' => e = .returned (.int .i64 (outS n d dr m)) ∧ Below w.heap.size w w' := by
  unfold outS
  by_cases h : m % 10 = 0
  · rw [if_pos h]; exact rout_0 n d m dr m0 h w
  · rw [if_neg h]; exact rout_1 n d m _ dr m0 h w (rleft_any n d dr o)
theorem rwide_any (f : Int) (w : World) :
    Calls Tryz.prog 26 #[.int .i64 f] w fun e w' => e = .returned (.int .i64 (wide f : Int)) ∧ Below w.heap.size w w' := by
  unfold wide
  by_cases h : f > 100
  · rw [if_pos h]; exact rwide_3 f h w
  · rw [if_neg h]; exact rwide_2 f (by omega) w
theorem rgridf_any (f : Int) (w : World) :
    Calls Tryz.prog 27 #[.int .i64 f] w fun e w' => e = .returned (.int .i64 (partsOf f)) ∧ Below w.heap.size w w' := by
  unfold partsOf
  by_cases h1 : f = 1
  · subst h1; exact rgrid_1 w
  · rw [if_neg h1]
    by_cases h2 : f = 2
    · subst h2; exact rgrid_2 w
    · rw [if_neg h2]
      by_cases h4 : f = 4
      · subst h4; exact rgrid_4 w
      · rw [if_neg h4]; exact rgrid_0 f (beq_f h1) (beq_f h2) (beq_f h4) w
theorem rlowest_any {n d : Int} (n0 : 0 ≤ n) (n1 : n ≤ 4611686018427387904) (d0 : 1 ≤ d) (d1 : d ≤ 2147483648) (w : World) :
    Calls Tryz.prog 83 #[.int .i64 n, .int .i64 d] w fun e w' => e = .returned (.agg #[.int .i64 (newS n d).1, .int .i64 (newS n d).2.1]) ∧ Below w.heap.size w w' := by
  rw [new_pos n0 n1 d0 d1]
  have hg : 0 < Nat.gcd n.natAbs d.natAbs := Nat.gcd_pos_of_pos_right _ (by omega)
  have q1 : n / (Nat.gcd n.natAbs d.natAbs : Int) ≤ n := Int.ediv_le_self _ n0
  have q2 : d / (Nat.gcd n.natAbs d.natAbs : Int) ≤ d := Int.ediv_le_self _ (by omega)
  exact rlowest_of n d _ _ _ n0 (by omega) (by omega) (by omega) (by omega) rfl rfl (Int.ediv_nonneg n0 (by omega)) (by omega) (Int.ediv_nonneg (by omega) (by omega)) (by omega) w (common_of n0 (by omega) (by omega) (by omega))
theorem rightS_iff' {a b : Int} : rightS a b = true ↔ 1 ≤ b ∧ b ≤ 2147483648 ∧ a.natAbs ≤ 4611686018427387904 ∧ Nat.gcd a.natAbs b.natAbs = 1 := by
  constructor
  · exact right_bounds
  · rintro ⟨b1, b2, a1, hg⟩
    unfold rightS
    rw [Bool.and_eq_true, decide_eq_true_eq, decide_eq_true_eq]
    refine ⟨b1, ?_⟩
    unfold newS
    rw [if_neg (by omega)]
    unfold fitS
    rw [hg, Nat.div_one, Nat.div_one, if_pos ⟨by omega, by omega⟩, decide_eq_false (show ¬ b < 0 by omega)]
    by_cases h : a < 0
    · rw [decide_eq_true h]; simp; omega
    · rw [decide_eq_false h]; simp; omega
theorem timeS_iff (a b : Int) : timeS a b = if 1 ≤ b ∧ b ≤ 1048576 ∧ a.natAbs ≤ 4611686018427387904 ∧ Nat.gcd a.natAbs b.natAbs = 1 then (if 0 ≤ a ∧ a ≤ 360000 * b then 0 else 31) else 12 := by
  unfold timeS
  by_cases h : rightS a b = true ∧ b ≤ 1048576
  · have hr := rightS_iff'.mp h.1
    have hc : 1 ≤ b ∧ b ≤ 1048576 ∧ a.natAbs ≤ 4611686018427387904 ∧ Nat.gcd a.natAbs b.natAbs = 1 := ⟨hr.1, h.2, hr.2.2⟩
    simp only [if_pos h, if_pos hc]
    by_cases h0 : 0 ≤ a
    · have := cmp_max h0 hr.1
      by_cases h1 : a ≤ 360000 * b
      · rw [if_pos ⟨h0, this.mpr h1⟩, if_pos ⟨h0, h1⟩]
      · rw [if_neg (fun x => h1 (this.mp x.2)), if_neg (fun x => h1 x.2)]
    · rw [if_neg (fun x => h0 x.1), if_neg (fun x => h0 x.1)]
  · rw [if_neg h, if_neg (fun x => h ⟨rightS_iff'.mpr ⟨x.1, by omega, x.2.2⟩, x.2.1⟩)]
theorem rtimed_any (a b : Int) (ha0 : -9223372036854775808 ≤ a) (ha1 : a ≤ 9223372036854775807) (hb0 : -9223372036854775808 ≤ b) (hb1 : b ≤ 9223372036854775807) (w : World) :
    Calls Tryz.prog 28 #[.agg #[.int .i64 a, .int .i64 b]] w fun e w' => e = .returned (.int .i64 (timeS a b)) ∧ Below w.heap.size w w' := by
  rw [timeS_iff]
  by_cases h : b < 1 ∨ b > 2147483648 ∨ a < -4611686018427387904 ∨ a > 4611686018427387904
  · rw [if_neg (by omega)]; exact rtimed_out a b h w
  · have b1 : 1 ≤ b := by omega
    have b2 : b ≤ 2147483648 := by omega
    have a1 : -4611686018427387904 ≤ a := by omega
    have a2 : a ≤ 4611686018427387904 := by omega
    by_cases s : 0 ≤ a
    · have m1 := common_of (a := a) (b := b) s (by omega) (by omega) (by omega)
      by_cases hg : Nat.gcd a.natAbs b.natAbs = 1
      · have q : ((Nat.gcd a.natAbs b.natAbs : Int) == 1) = true := by simp [hg]
        by_cases q3 : b ≤ 1048576
        · rw [if_pos ⟨b1, q3, by omega, hg⟩]
          have e : b * (a / b) + a % b = a := Int.mul_ediv_add_emod a b
          have r0 : 0 ≤ a % b := Int.emod_nonneg _ (by omega)
          have r1 : a % b < b := Int.emod_lt_of_pos _ (by omega)
          by_cases z : a / b < 360000
          · have : b * (a / b) ≤ b * 359999 := Int.mul_le_mul_of_nonneg_left (by omega) (by omega)
            rw [if_pos ⟨s, by omega⟩]; exact rtimed_ok1 a b _ b1 b2 a1 a2 s q q3 z w m1
          · by_cases z2 : a / b = 360000
            · rw [z2] at e
              by_cases z3 : a % b = 0
              · rw [if_pos ⟨s, by omega⟩]; exact rtimed_ok2 a b _ b1 b2 a1 a2 s q q3 z2 z3 w m1
              · rw [if_neg (by omega)]; exact rtimed_rest a b _ b1 b2 a1 a2 s q q3 (by simp [z2]) (beq_f z3) w m1
            · have : b * 360001 ≤ b * (a / b) := Int.mul_le_mul_of_nonneg_left (by omega) (by omega)
              rw [if_neg (by omega)]; exact rtimed_far a b _ b1 b2 a1 a2 s q q3 (by omega) w m1
        · rw [if_neg (by omega)]; exact rtimed_gridp a b _ b1 b2 a1 a2 s q (by omega) w m1
      · rw [if_neg (fun x => hg x.2.2.2)]; exact rtimed_gcdp a b _ b1 b2 a1 a2 s (by simp; omega) w m1
    · have m1 := common_of (a := -a) (b := b) (by omega) (by omega) (by omega) (by omega)
      rw [Int.natAbs_neg] at m1
      by_cases hg : Nat.gcd a.natAbs b.natAbs = 1
      · have q : ((Nat.gcd a.natAbs b.natAbs : Int) == 1) = true := by simp [hg]
        by_cases q3 : b ≤ 1048576
        · rw [if_pos ⟨b1, q3, by omega, hg⟩, if_neg (by omega)]; exact rtimed_neg a b _ b1 b2 a1 a2 (by omega) q q3 w m1
        · rw [if_neg (by omega)]; exact rtimed_gridm a b _ b1 b2 a1 a2 (by omega) q (by omega) w m1
      · rw [if_neg (fun x => hg x.2.2.2)]; exact rtimed_gcdm a b _ b1 b2 a1 a2 (by omega) (by simp; omega) w m1
end Go.Proofs.YtghiibdhibcbaaaGreatDoor.PA
namespace Go.Proofs.YtghiibdhibcbaaaGreatDoor.PA
open Go Go.RowKit Go.Proofs.YtghiibdhibcbaaaGreatDoorW.PrintWords Go.Proofs.YtghiibdhibcbaaaGreatDoorW.PrintLast Go.Proofs.YtghiibdhibcbaaaGreatDoorW.PrintMore Go.Proofs.YtghiibdhibcbaaaGreatDoor.CS
set_option linter.unusedSimpArgs false
set_option linter.unusedVariables false
/-- the last k digits -/
def padL (N : Nat) : Nat → List UInt8
  | 0 => []
  | k + 1 => dg (N / 10 ^ k) :: padL N k
theorem padL_snoc (N k : Nat) : padL N (k + 1) = padL (N / 10) k ++ [dg N] := by
  induction k with
  | zero => simp [padL]
  | succ k ih =>
    rw [padL, ih, padL, Nat.div_div_eq_div_mul, Nat.pow_succ, Nat.mul_comm 10]; rfl
theorem padL_dec : ∀ (k N : Nat), N < 10 ^ (k + 1) → (k = 0 ∨ 10 ^ k ≤ N) → padL N (k + 1) = Lib.decDigits N := by
  intro k
  induction k with
  | zero => intro N h _; rw [padL_snoc, dec1 (by simpa using h)]; rfl
  | succ k ih =>
    intro N h1 h2
    have h3 : 10 ^ (k + 1) ≤ N := h2.resolve_left (by omega)
    have e1 : (10 : Nat) ^ (k + 1) = 10 ^ k * 10 := Nat.pow_succ _ _
    have e2 : (10 : Nat) ^ (k + 1 + 1) = 10 ^ (k + 1) * 10 := Nat.pow_succ _ _
    have hp : 1 ≤ 10 ^ k := Nat.one_le_pow _ _ (by decide)
    rw [padL_snoc, ParD.dec_big (by omega), ih (N / 10) (by omega) (by omega)]
    rfl
theorem padL_pad (N k : Nat) (h : N < 10 ^ k) (j : Nat) : padL N (k + j) = List.replicate j 48 ++ padL N k := by
  induction j with
  | zero => rfl
  | succ j ih =>
    have h2 : N / 10 ^ (k + j) = 0 := Nat.div_eq_of_lt (Nat.lt_of_lt_of_le h (Nat.pow_le_pow_right (by decide) (by omega)))
    rw [← Nat.add_assoc, padL, ih, h2, List.replicate_succ]; rfl
theorem dec_bound (N : Nat) : ∃ k, (Lib.decDigits N).length = k + 1 ∧ N < 10 ^ (k + 1) ∧ (k = 0 ∨ 10 ^ k ≤ N) := by
  induction N using Nat.strongRecOn with
  | ind N ih =>
    by_cases h : N < 10
    · exact ⟨0, by rw [dec1 h]; rfl, by simpa using h, .inl rfl⟩
    · obtain ⟨k, h1, h2, h3⟩ := ih (N / 10) (by omega)
      have e1 : (10 : Nat) ^ (k + 1) = 10 ^ k * 10 := Nat.pow_succ _ _
      have e2 : (10 : Nat) ^ (k + 1 + 1) = 10 ^ (k + 1) * 10 := Nat.pow_succ _ _
      refine ⟨k + 1, by rw [ParD.dec_big h, List.length_append, h1]; rfl, by omega, .inr ?_⟩
      rcases h3 with rfl | h3 <;> omega
/-- where the loop ends -/
theorem padL_end {N L k : Nat} (h1 : N / 10 ^ k = 0) (h2 : L ≤ k) (h3 : k ≤ max L (Lib.decDigits N).length) (hL : 1 ≤ L) : padL N k = digL (N : Int) L := by
  obtain ⟨j, e1, e2, e3⟩ := dec_bound N
  have hN : N < 10 ^ k := by
    have := Nat.div_eq_zero_iff.mp h1
    have hp : 1 ≤ 10 ^ k := Nat.one_le_pow _ _ (by decide)
    omega
  have hjk : j + 1 ≤ k := by
    rcases e3 with rfl | e3
    · omega
    · have : 10 ^ j < 10 ^ k := Nat.lt_of_le_of_lt e3 hN
      have := (Nat.pow_lt_pow_iff_right (by decide : 1 < 10)).mp this
      omega
  unfold digL
  rw [itoa_nat (by omega), Int.toNat_natCast]
  rw [show k = (j + 1) + (k - (j + 1)) by omega, padL_pad N (j + 1) e2, padL_dec j N e2 e3]
  congr 2
  omega
theorem padL_len (N k : Nat) : (padL N k).length = k := by
  induction k with
  | zero => rfl
  | succ k ih => rw [padL, List.length_cons, ih]
def loopD (w wr : World) (N L : Nat) (x y z : Value) : Prop :=
  ∃ k : Nat, k ≤ max L (Lib.decDigits N).length ∧ x = .int .i64 ((N / 10 ^ k : Nat) : Int) ∧ y = .int .i64 ((L : Int) - k) ∧ z = .string (bs (padL N k)) ∧ Below w.heap.size w wr
set_option maxHeartbeats 1600000 in
set_option maxRecDepth 100000 in
theorem rdigits_nat (N L : Nat) (hL : 1 ≤ L) (hL2 : L ≤ 10) (hN : N ≤ 1000000000) (w : World) :
    Calls Tryz.prog 25 #[.int .i64 (N : Int), .int .i64 (L : Int)] w fun e w' => e = .returned (.string (bs (digL (N : Int) L))) ∧ Below w.heap.size w w' := by
  obtain ⟨j, e1, e2, e3⟩ := dec_bound N
  have hj : j ≤ 9 := by
    rcases e3 with rfl | e3
    · omega
    · have : 10 ^ j < 10 ^ 10 := Nat.lt_of_le_of_lt e3 (by omega)
      have := (Nat.pow_lt_pow_iff_right (by decide : 1 < 10)).mp this
      omega
  have hlen : max L (Lib.decDigits N).length ≤ 10 := by omega
  have hE := Lib.hid (fun k h1 h2 h3 => padL_end (N := N) (L := L) (k := k) h1 h2 h3 hL)
  have hE2 := Lib.hid e2
  have hE1 := Lib.hid e1
  clear e1 e2 e3
  go_enter Tryz.func25, Tryz.ntmps25
  go_wp2
  go_loopw [0, 1, 5] (fun x y z wr => loopD w wr N L x y z) (fun x y _ _ => (intOf x).toNat + (intOf y).toNat)
  case atStart => exact ⟨0, by omega, by simp, by simp, rfl, Below.refl _ _⟩
  case round =>
    obtain ⟨k, hk, rfl, rfl, rfl, hB⟩ := hrel
    have HB := Lib.hid hB
    have hu : N / 10 ^ k ≤ 1000000000 := Nat.le_trans (Nat.div_le_self _ _) hN
    have hnext : N / 10 ^ k / 10 = N / 10 ^ (k + 1) := by rw [Nat.div_div_eq_div_mul, Nat.pow_succ]
    obtain ⟨u, hue⟩ : ∃ u, N / 10 ^ k = u := ⟨_, rfl⟩
    obtain ⟨S, hS⟩ : ∃ S, bs (padL N k) = S := ⟨_, rfl⟩
    have hsz : S.size ≤ 10 := by rw [← hS, bs_size, padL_len]; omega
    rw [hue] at hu hnext ⊢
    rw [hS]
    have HU := Lib.hid hue
    have HS := Lib.hid hS
    have HN := Lib.hid hnext
    have hc : ((dg u).toNat : Int) = 48 + (u : Int) % 10 := by rw [dg_nat]; omega
    have HC := Lib.hid hc
    clear hue hS hnext hB hc
    have kc : (convert 57 9 (.slice (some ⟨wr.heap.size, 0, none⟩) 1 1)).run Tryz.prog (wr.alloc (.cells #[.int .u8 (48 + (u : Int) % 10)] 5)) = .ok (.string ⟨#[dg u]⟩) (wr.alloc (.cells #[.int .u8 (48 + (u : Int) % 10)] 5)) := by
      refine run_convert_bytes_back (P := Tryz.prog) _ 57 9 5 ⟨wr.heap.size, 0, none⟩ 1 [dg u] Tryz.underlying57 Tryz.underlying5 Tryz.underlying9 (fun j hj => ?_)
      have hj0 : j = 0 := by simpa using hj
      subst hj0
      rw [← HC.out]
      exact Hand.cell_of (Hand.q3 _ _ _ rfl) 0 _ rfl
    have key := Lib.hid (fun (wr' : World) (hb : Below w.heap.size w wr') (hk1 : k + 1 ≤ max L (Lib.decDigits N).length) =>
      (⟨k + 1, hk1, by rw [← HN.out]; simp, by congr 1; omega, by rw [padL, HU.out, ← HS.out]; exact congrArg Value.string (bs_cat [dg u] (padL N k)), hb⟩ : loopD w wr' N L (.int .i64 ((u : Int) / 10)) (.int .i64 ((L : Int) - k - 1)) (.string ((⟨#[dg u]⟩ : ByteArray) ++ S))))
    by_cases hx : 0 < u
    · have hk1 : k + 1 ≤ max L (Lib.decDigits N).length := by
        have hk2 : k < (Lib.decDigits N).length := by
          refine Nat.lt_of_not_le (fun h => ?_)
          have h1 : N < 10 ^ k := Nat.lt_of_lt_of_le hE2.out (Nat.pow_le_pow_right (by decide) (by rw [← hE1.out]; exact h))
          have h2 : N / 10 ^ k = 0 := Nat.div_eq_of_lt h1
          rw [HU.out] at h2; omega
        omega
      go_wp2
      go_roundw
      case rel => exact key.out _ ((HB.out.alloc (by have := HB.out.size; omega) _)) hk1
      case measure => simp [intOf]; omega
    · by_cases hy : 0 < (L : Int) - k
      · go_wp2
        go_roundw
        case rel => exact key.out _ ((HB.out.alloc (by have := HB.out.size; omega) _)) (by omega)
        case measure => simp [intOf]; omega
      · go_wp2
        go_ret
        refine ⟨?_, HB.out⟩
        rw [← hE.out k (by rw [HU.out]; omega) (by omega) hk, HS.out]; rfl
theorem rdigits_any (n : Int) (L : Nat) (hL : 1 ≤ L) (hL2 : L ≤ 10) (n0 : 0 ≤ n) (n1 : n ≤ 1000000000) (w : World) :
    Calls Tryz.prog 25 #[.int .i64 n, .int .i64 (L : Int)] w fun e w' => e = .returned (.string (bs (digL n L))) ∧ Below w.heap.size w w' := by
  have h := rdigits_nat n.toNat L hL hL2 (by omega) w
  rw [Int.toNat_of_nonneg n0] at h
  exact h
end Go.Proofs.YtghiibdhibcbaaaGreatDoor.PA
