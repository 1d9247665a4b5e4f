/- The reference: common, Check, full, last, left, out, wide, grid, Grid. The reference: full, last, left, out, wide, grid, lowest, Grid, Time, Timed, Frame. The reference: Grid, Time, Timed, Frame told at all inputs. The reference: digits. -/
import Derived.Test.YtghiibdhibcbaaaGreatDoorMC
import Derived.Test.YtghiibdhibcbaaaGreatDoorMG
import Derived.StillTailTactics
import Derived.Laws.IdiomStrings
namespace Go.Proofs.YtghiibdhibcbaaaGreatDoor.PA
open Go Go.RowKit Go.Proofs.YtghiibdhibcbaaaGreatDoorW.PrintWords Go.Proofs.YtghiibdhibcbaaaGreatDoorW.PrintLast Go.Proofs.YtghiibdhibcbaaaGreatDoorW.PrintMore Go.Proofs.YtghiibdhibcbaaaGreatDoor.CS
set_option linter.unusedSimpArgs false
set_option linter.unusedVariables false
set_option maxHeartbeats 800000 in
set_option maxRecDepth 100000 in
theorem rcommon_any (x y : Nat) (hx : (x : Int) ≤ 9223372036854775807) (hy : (y : Int) ≤ 9223372036854775807) (w : World) :
    Calls Tryz.prog 47 #[.int .i64 (x : Int), .int .i64 (y : Int)] w fun e w' => e = .returned (.int .i64 (Nat.gcd x y : Int)) ∧ Below w.heap.size w w' := by
  go_enter Tryz.func47, Tryz.ntmps47
  go_wp2
  go_loopw [0, 1] (fun p q wr => ∃ a b k : Nat, p = .int .i64 a ∧ q = .int .i64 b ∧ Nat.gcd a b = Nat.gcd x y ∧ (a : Int) ≤ 9223372036854775807 ∧ (b : Int) ≤ 9223372036854775807 ∧ wr = w.drewN k) (fun _ q _ => (intOf q).toNat)
  case atStart => exact ⟨x, y, 0, rfl, rfl, rfl, hx, hy, rfl⟩
  case round =>
    obtain ⟨a, b, k, rfl, rfl, hg, a2, b2, rfl⟩ := hrel
    have HG := Lib.hid hg
    clear hg
    by_cases hb : b = 0
    · subst hb
      go_wp2
      go_ret
      exact ⟨by rw [← HG.out, Nat.gcd_zero_right]; rfl, pw_below_drewN (Below.refl _ _) _⟩
    · have hb1 : ((b : Int) == 0) = false := by simp; omega
      have hb2 : ((b : Int) != 0) = true := by simp; omega
      go_wp2
      go_quiet (fail)
      go_wp2
      go_roundw
      case rel =>
        refine ⟨b, a % b, _, rfl, by first | rfl | go_num, ?_, b2, ?_, World.drewN_drewN _ _ _⟩
        · rw [← HG.out, Nat.gcd_comm b, Nat.gcd_comm a b, ← Nat.gcd_rec]
        · have := Nat.mod_lt a (show b > 0 by omega); omega
      case measure =>
        have := Nat.mod_lt a (show b > 0 by omega)
        simp [intOf]; omega
theorem common_of {a b : Int} (ha : 0 ≤ a) (ha1 : a ≤ 9223372036854775807) (hb : 0 ≤ b) (hb1 : b ≤ 9223372036854775807) (w : World) :
    Calls Tryz.prog 47 #[.int .i64 a, .int .i64 b] w fun e w' => e = .returned (.int .i64 (Nat.gcd a.natAbs b.natAbs : Int)) ∧ Below w.heap.size w w' := by
  have h := rcommon_any a.natAbs b.natAbs (by omega) (by omega) w
  rw [show ((a.natAbs : Nat) : Int) = a by omega, show ((b.natAbs : Nat) : Int) = b by omega] at h
  exact h
theorem checkS_of {n d : Int} {dr : Bool} {g : Nat} (n1 : 1 ≤ n) (n2 : n ≤ 240000) (d1 : 1 ≤ d) (d2 : d ≤ 1001) (hg : Nat.gcd n.natAbs d.natAbs = g) :
    checkS n d dr = if g = 1 ∧ d ≤ n ∧ n ≤ 240 * d ∧ (dr = true → d = 1001 ∧ (n = 30000 ∨ n = 60000)) then 0 else 14 := by
  unfold checkS
  have e : okR n d dr = true ↔ g = 1 ∧ d ≤ n ∧ n ≤ 240 * d ∧ (dr = true → d = 1001 ∧ (n = 30000 ∨ n = 60000)) := by
    rw [okR_iff, ← hg]
    exact ⟨fun h => ⟨h.g, h.le, h.ge, h.dr⟩, fun ⟨a, b, c, e⟩ => ⟨n1, n2, d1, d2, a, b, c, e⟩⟩
  by_cases h : okR n d dr = true
  · rw [if_pos h, if_pos (e.mp h)]
  · rw [if_neg h, if_neg (fun x => h (e.mpr x))]
set_option maxHeartbeats 1600000 in
set_option maxRecDepth 100000 in
theorem rcheck_false (n d R : Int) (g : Nat) (w : World) (n1 : 1 ≤ n) (n2 : n ≤ 240000) (d1 : 1 ≤ d) (d2 : d ≤ 1001) (g9 : (g : Int) ≤ 240000)
    (hR : (if g = 1 ∧ d ≤ n ∧ n ≤ 240 * d ∧ (false = true → d = 1001 ∧ (n = 30000 ∨ n = 60000)) then 0 else 14) = R)
    (m1 : ∀ w, Calls Tryz.prog 47 #[.int .i64 n, .int .i64 d] w fun e w' => e = .returned (.int .i64 (g : Int)) ∧ Below w.heap.size w w') :
    Calls Tryz.prog 16 #[rate n d false] w fun e w' => e = .returned (.int .i64 R) ∧ Below w.heap.size w w' := by
  have M1 := Lib.hid m1
  have HR := Lib.hid hR
  clear m1 hR
  have hgc : ((g : Int) != 1) = false ∧ g = 1 ∨ ((g : Int) != 1) = true ∧ g ≠ 1 := by
    by_cases hg1 : g = 1
    · exact .inl ⟨by simp [hg1], hg1⟩
    · exact .inr ⟨by simp; omega, hg1⟩
  rcases hgc with ⟨hg2, hg1⟩ | ⟨hg2, hg1⟩
  all_goals
    have HG1 := Lib.hid hg1
    clear hg1
    go_enter Tryz.func16, Tryz.ntmps16
    go_wp2_with fail
    with_reducible refine (M1.out _).mono ?_
    rintro e w1 ⟨rfl, hb1⟩
    have h_A : w1.heap[w.heap.size]? = some (.cells #[.int .i64 n, .int .i64 d, .bool false] 23 (0, 0)) := by
      refine Hand.kb hb1 ?_; simp (disch := first | omega | (simp only [Hand.sa, Hand.ss, Hand.sd, Hand.sn]; first | done | omega)) only [Hand.q2, Hand.q1, Hand.q5, Hand.q6, Hand.q4, Hand.q3] <;> rfl
    have hB' : Below w.heap.size w w1 := Hand.stepB hb1 (by repeat (with_reducible first | apply Below.refl _ _ | apply Below.drew | apply pw_below_drewN | (apply Below.setCell; rotate_left; (dsimp only; omega)) | (apply Below.alloc; rotate_left; (first | omega | (simp only [Hand.sa, Hand.ss, Hand.sd, Hand.sn]; omega))))) (Nat.le_refl _)
    clear hb1
    have g_A := h_A
    have hB := hB'
    clear hB' h_A
    obtain ⟨z_A, z1_A, z2_A, y0_A, y1_A⟩ := Hand.hz g_A
    obtain ⟨c_A_0, f_A_0, c_A_1, f_A_1, c_A_2, f_A_2⟩ := Hand.hc3 g_A
    have zw : w.heap.size ≤ w1.heap.size := hB.size
    have HG := Lib.hid (And.intro g_A (hB))
    clear g_A hB
    go_wp2
    all_goals
      go_ret
      obtain ⟨g_A, hB⟩ := HG.out
      refine ⟨?_, hB⟩
      have hg1 := HG1.out
      rw [← HR.out]
      first
        | (rw [if_pos ⟨by omega, by omega, by omega, by first | (intro h; cases h; done) | (intro _; omega)⟩]; rfl)
        | (rw [if_neg (fun hh => by obtain ⟨h3, h4, h5, h6⟩ := hh; first | omega | (have h7 := h6 (by first | rfl | trivial); omega))]; rfl)
set_option maxHeartbeats 1600000 in
set_option maxRecDepth 100000 in
theorem rcheck_true (n d R : Int) (g : Nat) (w : World) (n1 : 1 ≤ n) (n2 : n ≤ 240000) (d1 : 1 ≤ d) (d2 : d ≤ 1001) (g9 : (g : Int) ≤ 240000)
    (hR : (if g = 1 ∧ d ≤ n ∧ n ≤ 240 * d ∧ (true = true → d = 1001 ∧ (n = 30000 ∨ n = 60000)) then 0 else 14) = R)
    (m1 : ∀ w, Calls Tryz.prog 47 #[.int .i64 n, .int .i64 d] w fun e w' => e = .returned (.int .i64 (g : Int)) ∧ Below w.heap.size w w') :
    Calls Tryz.prog 16 #[rate n d true] w fun e w' => e = .returned (.int .i64 R) ∧ Below w.heap.size w w' := by
  have M1 := Lib.hid m1
  have HR := Lib.hid hR
  clear m1 hR
  have hgc : ((g : Int) != 1) = false ∧ g = 1 ∨ ((g : Int) != 1) = true ∧ g ≠ 1 := by
    by_cases hg1 : g = 1
    · exact .inl ⟨by simp [hg1], hg1⟩
    · exact .inr ⟨by simp; omega, hg1⟩
  rcases hgc with ⟨hg2, hg1⟩ | ⟨hg2, hg1⟩
  all_goals
    have HG1 := Lib.hid hg1
    clear hg1
    go_enter Tryz.func16, Tryz.ntmps16
    go_wp2_with fail
    with_reducible refine (M1.out _).mono ?_
    rintro e w1 ⟨rfl, hb1⟩
    have h_A : w1.heap[w.heap.size]? = some (.cells #[.int .i64 n, .int .i64 d, .bool true] 23 (0, 0)) := by
      refine Hand.kb hb1 ?_; simp (disch := first | omega | (simp only [Hand.sa, Hand.ss, Hand.sd, Hand.sn]; first | done | omega)) only [Hand.q2, Hand.q1, Hand.q5, Hand.q6, Hand.q4, Hand.q3] <;> rfl
    have hB' : Below w.heap.size w w1 := Hand.stepB hb1 (by repeat (with_reducible first | apply Below.refl _ _ | apply Below.drew | apply pw_below_drewN | (apply Below.setCell; rotate_left; (dsimp only; omega)) | (apply Below.alloc; rotate_left; (first | omega | (simp only [Hand.sa, Hand.ss, Hand.sd, Hand.sn]; omega))))) (Nat.le_refl _)
    clear hb1
    have g_A := h_A
    have hB := hB'
    clear hB' h_A
    obtain ⟨z_A, z1_A, z2_A, y0_A, y1_A⟩ := Hand.hz g_A
    obtain ⟨c_A_0, f_A_0, c_A_1, f_A_1, c_A_2, f_A_2⟩ := Hand.hc3 g_A
    have zw : w.heap.size ≤ w1.heap.size := hB.size
    have HG := Lib.hid (And.intro g_A (hB))
    clear g_A hB
    go_wp2
    all_goals
      go_ret
      obtain ⟨g_A, hB⟩ := HG.out
      refine ⟨?_, hB⟩
      have hg1 := HG1.out
      rw [← HR.out]
      first
        | (rw [if_pos ⟨by omega, by omega, by omega, by first | (intro h; cases h; done) | (intro _; omega)⟩]; rfl)
        | (have hx : (!n == 30000) = false ∨ (!n == 60000) = false := (by assumption); simp at hx; rw [if_pos ⟨by omega, by omega, by omega, fun _ => by omega⟩]; rfl)
        | (have hx : (!n == 30000) = true ∧ (!n == 60000) = true := (by assumption); simp at hx; rw [if_neg (fun hh => by obtain ⟨h3, h4, h5, h6⟩ := hh; have h7 := h6 (by first | rfl | trivial); omega)]; rfl)
        | (rw [if_neg (fun hh => by obtain ⟨h3, h4, h5, h6⟩ := hh; first | omega | (have h7 := h6 (by first | rfl | trivial); omega))]; rfl)
set_option maxHeartbeats 800000 in
set_option maxRecDepth 100000 in
theorem rcheck_out (n d : Int) (dr : Bool) (w : World) (h : n < 1 ∨ n > 240000 ∨ d < 1 ∨ d > 1001) :
    Calls Tryz.prog 16 #[rate n d dr] w fun e w' => e = .returned (.int .i64 14) ∧ Below w.heap.size w w' := by
  have hh := Lib.hid h
  clear h
  go_enter Tryz.func16, Tryz.ntmps16
  go_wp2_with fail
  all_goals first
    | (go_ret; exact ⟨rfl, (Below.refl _ _).alloc (Nat.le_refl _) _⟩)
    | (exfalso; have := hh.out; omega)
theorem rcheck_any (n d : Int) (dr : Bool) (w : World) :
    Calls Tryz.prog 16 #[rate n d dr] w fun e w' => e = .returned (.int .i64 (checkS n d dr)) ∧ Below w.heap.size w w' := by
  by_cases h : n < 1 ∨ n > 240000 ∨ d < 1 ∨ d > 1001
  · have e : checkS n d dr = 14 := by
      unfold checkS
      rw [if_neg (fun hh => by have := okR_iff.mp hh; obtain ⟨_, _, _, _, _, _, _, _⟩ := this; omega)]
    rw [e]; exact rcheck_out n d dr w h
  · have h1 : 1 ≤ n := by omega
    have h2 : 1 ≤ d := by omega
    have m1 := common_of (a := n) (b := d) (by omega) (by omega) (by omega) (by omega)
    have hg : Nat.gcd n.natAbs d.natAbs ≤ n.natAbs := Nat.gcd_le_left _ (by omega)
    have e := checkS_of (dr := dr) (n := n) (d := d) h1 (by omega) h2 (by omega) rfl
    cases dr
    · exact rcheck_false n d _ _ w h1 (by omega) h2 (by omega) (by omega) e.symm m1
    · exact rcheck_true n d _ _ w h1 (by omega) h2 (by omega) (by omega) e.symm m1
end Go.Proofs.YtghiibdhibcbaaaGreatDoor.PA
namespace Go.Proofs.YtghiibdhibcbaaaGreatDoor.PA
open Go Go.RowKit Go.Proofs.YtghiibdhibcbaaaGreatDoorW.PrintWords Go.Proofs.YtghiibdhibcbaaaGreatDoorW.PrintLast Go.Proofs.YtghiibdhibcbaaaGreatDoorW.PrintMore Go.Proofs.YtghiibdhibcbaaaGreatDoor.CS
set_option linter.unusedSimpArgs false
set_option linter.unusedVariables false
end Go.Proofs.YtghiibdhibcbaaaGreatDoor.PA
namespace Go.Proofs.YtghiibdhibcbaaaGreatDoor.PA
open Go Go.RowKit Go.Proofs.YtghiibdhibcbaaaGreatDoor.CS
set_option linter.unusedSimpArgs false
set_option linter.unusedVariables false
/-- how many numbers a minute leaves out -/
def outS (n d : Int) (dr : Bool) (m : Int) : Int := if m % 10 = 0 then 0 else drop n d dr
theorem rightS_iff' {a b : Int} : rightS a b = true ↔ 1 ≤ b ∧ b ≤ 2147483648 ∧ a.natAbs ≤ 4611686018427387904 ∧ Nat.gcd a.natAbs b.natAbs = 1 := by
  constructor
  · exact right_bounds
  · rintro ⟨b1, b2, a1, hg⟩
    unfold rightS
    rw [Bool.and_eq_true, decide_eq_true_eq, decide_eq_true_eq]
    refine ⟨b1, ?_⟩
    unfold newS
    rw [if_neg (by omega)]
    unfold fitS
    rw [hg, Nat.div_one, Nat.div_one, if_pos ⟨by omega, by omega⟩, decide_eq_false (show ¬ b < 0 by omega)]
    by_cases h : a < 0
    · rw [decide_eq_true h]; simp; omega
    · rw [decide_eq_false h]; simp; omega
theorem timeS_iff (a b : Int) : timeS a b = if 1 ≤ b ∧ b ≤ 1048576 ∧ a.natAbs ≤ 4611686018427387904 ∧ Nat.gcd a.natAbs b.natAbs = 1 then (if 0 ≤ a ∧ a ≤ 360000 * b then 0 else 31) else 12 := by
  unfold timeS
  by_cases h : rightS a b = true ∧ b ≤ 1048576
  · have hr := rightS_iff'.mp h.1
    have hc : 1 ≤ b ∧ b ≤ 1048576 ∧ a.natAbs ≤ 4611686018427387904 ∧ Nat.gcd a.natAbs b.natAbs = 1 := ⟨hr.1, h.2, hr.2.2⟩
    simp only [if_pos h, if_pos hc]
    by_cases h0 : 0 ≤ a
    · have := cmp_max h0 hr.1
      by_cases h1 : a ≤ 360000 * b
      · rw [if_pos ⟨h0, this.mpr h1⟩, if_pos ⟨h0, h1⟩]
      · rw [if_neg (fun x => h1 (this.mp x.2)), if_neg (fun x => h1 x.2)]
    · rw [if_neg (fun x => h0 x.1), if_neg (fun x => h0 x.1)]
  · rw [if_neg h, if_neg (fun x => h ⟨rightS_iff'.mpr ⟨x.1, by omega, x.2.2⟩, x.2.1⟩)]
end Go.Proofs.YtghiibdhibcbaaaGreatDoor.PA
namespace Go.Proofs.YtghiibdhibcbaaaGreatDoor.PA
open Go Go.RowKit Go.Proofs.YtghiibdhibcbaaaGreatDoorW.PrintWords Go.Proofs.YtghiibdhibcbaaaGreatDoorW.PrintLast Go.Proofs.YtghiibdhibcbaaaGreatDoorW.PrintMore Go.Proofs.YtghiibdhibcbaaaGreatDoor.CS
set_option linter.unusedSimpArgs false
set_option linter.unusedVariables false
/-- the last k digits -/
def padL (N : Nat) : Nat → List UInt8
  | 0 => []
  | k + 1 => dg (N / 10 ^ k) :: padL N k
def loopD (w wr : World) (N L : Nat) (x y z : Value) : Prop :=
  ∃ k : Nat, k ≤ max L (Lib.decDigits N).length ∧ x = .int .i64 ((N / 10 ^ k : Nat) : Int) ∧ y = .int .i64 ((L : Int) - k) ∧ z = .string (bs (padL N k)) ∧ Below w.heap.size w wr
end Go.Proofs.YtghiibdhibcbaaaGreatDoor.PA
