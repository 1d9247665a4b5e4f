/- code: Check. -/
import Derived.Test.YtghiibdhibcbaaaDoorCodA
namespace Go.Proofs.YtghiibdhibcbaaaDoor.PA
open Go Go.RowKit Go.Proofs.YtghiibdhibcbaaaDoorW.PrintWords Go.Proofs.YtghiibdhibcbaaaDoorW.PrintLast Go.Proofs.YtghiibdhibcbaaaDoorW.PrintMore Go.Proofs.YtghiibdhibcbaaaDoor.CS
set_option linter.unusedSimpArgs false
set_option linter.unusedVariables false
set_option maxHeartbeats 800000 in
set_option maxRecDepth 100000 in
theorem check_out (n d : Int) (dr : Bool) (w : World) (h : n < 1 ∨ n > 240000 ∨ d < 1 ∨ d > 1001) :
    Calls Tryd.prog 33 #[rate n d dr] w fun e w' => e = .returned (.int .i64 14) ∧ Below w.heap.size w w' := by
  have hh := Lib.hid h
  clear h
  go_enter Tryd.func33, Tryd.ntmps33
  go_wp2
  all_goals first
    | (go_ret; exact ⟨rfl, (Below.refl _ _).alloc (Nat.le_refl _) _⟩)
    | (exfalso; have := hh.out; omega)
theorem checkS_eq {n d : Int} {dr : Bool} (a : Nat) (n1 : 1 ≤ n) (n2 : n ≤ 240000) (d1 : 1 ≤ d) (d2 : d ≤ 1001) (hg : Nat.gcd a 0 = Nat.gcd n.natAbs d.natAbs) :
    checkS n d dr = if a = 1 ∧ d ≤ n ∧ n ≤ 240 * d ∧ (dr = true → (dropsS n d == 0) = false) then 0 else 14 := by
  rw [Nat.gcd_zero_right] at hg
  unfold checkS
  have e : okR n d dr = true ↔ a = 1 ∧ d ≤ n ∧ n ≤ 240 * d ∧ (dr = true → (dropsS n d == 0) = false) := by
    rw [okR_iff]
    have hd : (dropsS n d == 0) = false ↔ d = 1001 ∧ (n = 30000 ∨ n = 60000) := by
      unfold dropsS
      by_cases h1 : n = 30000 <;> by_cases h2 : n = 60000 <;> by_cases h3 : d = 1001 <;> simp [h1, h2, h3] <;> omega
    rw [hd, hg]
    exact ⟨fun h => ⟨h.g, h.le, h.ge, h.dr⟩, fun ⟨a, b, c, e⟩ => ⟨n1, n2, d1, d2, a, b, c, e⟩⟩
  by_cases h : okR n d dr = true
  · rw [if_pos h, if_pos (e.mp h)]
  · rw [if_neg h, if_neg (fun x => h (e.mpr x))]
set_option maxHeartbeats 1600000 in
set_option maxRecDepth 100000 in
theorem check_in (n d : Int) (dr z : Bool) (w : World) (n1 : 1 ≤ n) (n2 : n ≤ 240000) (d1 : 1 ≤ d) (d2 : d ≤ 1001) (hz : (dropsS n d == 0) = z) :
    Calls Tryd.prog 33 #[rate n d dr] w fun e w' => e = .returned (.int .i64 (checkS n d dr)) ∧ Below w.heap.size w w' := by
  have hc := Lib.hid (fun (a : Nat) => checkS_eq (dr := dr) a n1 n2 d1 d2)
  have HZ := Lib.hid hz
  obtain ⟨q, hq⟩ : ∃ q, dropsS n d = q := ⟨_, rfl⟩
  have m1 := drops_any n d
  rw [hq] at hz m1
  have M1 := Lib.hid m1
  clear m1 hq
  obtain ⟨R, hR⟩ : ∃ R, checkS n d dr = R := ⟨_, rfl⟩
  rw [hR]
  have HR := Lib.hid hR
  clear hR
  cases dr <;> cases z
  all_goals
    go_enter Tryd.func33, Tryd.ntmps33
    go_wp2
    go_quiet (fail)
    go_wp2
    go_loopw [3, 4] (fun x y wr => ∃ a b k : Nat, x = .int .i64 a ∧ y = .int .i64 b ∧ Nat.gcd a b = Nat.gcd n.natAbs d.natAbs ∧ 1 ≤ a ∧ a ≤ 240000 ∧ b ≤ 240000 ∧ wr = (w.alloc (.cells #[.int .i64 n, .int .i64 d, .bool _] 24)).drewN k) (fun _ y _ => (intOf y).toNat)
    case atStart =>
      refine ⟨n.toNat, d.toNat, _, ?_, ?_, ?_, by omega, by omega, by omega, rfl⟩
      · rw [Int.toNat_of_nonneg (by omega)]
      · rw [Int.toNat_of_nonneg (by omega)]
      · congr 1 <;> omega
    case round =>
      obtain ⟨a, b, k, rfl, rfl, hg, a1, a2, b2, rfl⟩ := hrel
      have HG := Lib.hid hg
      clear hg
      by_cases hb : b = 0
      · subst hb
        go_wp2_with (go_at_call 59; (with_reducible refine (M1.out _).mono ?_); rintro e w1 ⟨rfl, hb1⟩)
        all_goals
          go_ret
          refine ⟨?_, ?_⟩
          · have h2 := hc.out a HG.out
            rw [HR.out, HZ.out] at h2
            rw [h2]
            first
              | (rw [if_pos ⟨by omega, by omega, by omega, by simp⟩]; rfl)
              | (rw [if_neg (fun hh => by obtain ⟨h3, h4, h5, h6⟩ := hh; first | omega | simp at h6)]; rfl)
          · first
              | exact Below.trans (pw_below_drewN ((Below.refl _ _).alloc (Nat.le_refl _) _) _) (hb1.mono (by simp))
              | exact pw_below_drewN ((Below.refl _ _).alloc (Nat.le_refl _) _) _
      · have hb1 : ((b : Int) == 0) = false := by simp; omega
        have hb2 : ((b : Int) != 0) = true := by simp; omega
        go_wp2
        go_quiet (fail)
        go_wp2
        go_roundw
        case rel =>
          refine ⟨b, a % b, _, rfl, by first | rfl | go_num, ?_, by omega, b2, ?_, World.drewN_drewN _ _ _⟩
          · rw [← HG.out, Nat.gcd_comm b, Nat.gcd_comm a b, ← Nat.gcd_rec]
          · have := Nat.mod_lt a (show b > 0 by omega); omega
        case measure =>
          have := Nat.mod_lt a (show b > 0 by omega)
          simp [intOf]; omega
theorem check_any (n d : Int) (dr : Bool) (w : World) :
    Calls Tryd.prog 33 #[rate n d dr] w fun e w' => e = .returned (.int .i64 (checkS n d dr)) ∧ Below w.heap.size w w' := by
  by_cases h : n < 1 ∨ n > 240000 ∨ d < 1 ∨ d > 1001
  · have e : checkS n d dr = 14 := by
      unfold checkS
      rw [if_neg (fun hh => by have := okR_iff.mp hh; obtain ⟨_, _, _, _, _, _, _, _⟩ := this; omega)]
    rw [e]; exact check_out n d dr w h
  · exact check_in n d dr _ w (by omega) (by omega) (by omega) (by omega) rfl
end Go.Proofs.YtghiibdhibcbaaaDoor.PA
