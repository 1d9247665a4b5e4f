/- The law's own helpers: a number below another, two and three digits. -/
import Derived.Test.YtghiibdhibcbaaaGreatDoorMI
import Derived.OpenShut
namespace Go.Proofs.YtghiibdhibcbaaaGreatDoor.PA
open Go Go.RowKit Go.Proofs.YtghiibdhibcbaaaGreatDoorW.PrintWords Go.Proofs.YtghiibdhibcbaaaGreatDoorW.PrintLast Go.Proofs.YtghiibdhibcbaaaGreatDoorW.PrintMore Go.Proofs.YtghiibdhibcbaaaGreatDoor.CS
set_option linter.unusedSimpArgs false
set_option linter.unusedVariables false
set_option maxHeartbeats 800000 in
set_option maxRecDepth 100000 in
theorem within_pos (a n k : Int) (hn : 1 ≤ n) (hn2 : n ≤ 1000000000) (hk : a.tmod n = k) (k0 : 0 ≤ k) (k1 : k < n) (w : World) :
    Calls Tryz.prog 8 #[.int .i64 a, .int .i64 n] w fun e w' => e = .returned (.int .i64 k) ∧ Below w.heap.size w w' := by
  have hn0 : ¬ n = 0 := by omega
  have h1 : (k < 0) = False := eq_false (by omega)
  go_enter Tryz.func8, Tryz.ntmps8
  go_wp2
  go_ret
  exact ⟨rfl, Below.refl _ _⟩
set_option maxHeartbeats 800000 in
set_option maxRecDepth 100000 in
theorem within_neg (a n k : Int) (hn : 1 ≤ n) (hn2 : n ≤ 1000000000) (hk : a.tmod n = k) (k0 : k < 0) (k1 : -n < k) (w : World) :
    Calls Tryz.prog 8 #[.int .i64 a, .int .i64 n] w fun e w' => e = .returned (.int .i64 (k + n)) ∧ Below w.heap.size w w' := by
  have hn0 : ¬ n = 0 := by omega
  have h1 : (k < 0) = True := eq_true (by omega)
  have h2 : IntKind.i64.wrap (k + n) = k + n := by rw [IntKind.wrap_i64]; omega
  go_enter Tryz.func8, Tryz.ntmps8
  go_wp2
  go_ret
  exact ⟨rfl, Below.refl _ _⟩
theorem within5_any (a n : Int) (hn : 1 ≤ n) (hn2 : n ≤ 1000000000) (w : World) :
    Calls Tryz.prog 8 #[.int .i64 a, .int .i64 n] w fun e w' => e = .returned (.int .i64 (a % n)) ∧ Below w.heap.size w w' := by
  have h0 := Int.emod_nonneg a (show n ≠ 0 by omega)
  have h1 := Int.emod_lt_of_pos a (show 0 < n by omega)
  have e : a.tmod n = a % n ∨ (a.tmod n = a % n - n ∧ 0 < a % n) := by
    rw [Int.tmod_eq_emod]
    split
    · left; omega
    · rename_i h
      right
      have hna : (n.natAbs : Int) = n := by omega
      refine ⟨by omega, ?_⟩
      have : ¬ (n ∣ a) := fun hd => h (.inr hd)
      rw [Int.dvd_iff_emod_eq_zero] at this
      omega
  rcases e with e | ⟨e, e2⟩
  · exact within_pos a n _ hn hn2 e h0 h1 w
  · have := within_neg a n _ hn hn2 e (by omega) (by omega) w
    rwa [show a % n - n + n = a % n by omega] at this
end Go.Proofs.YtghiibdhibcbaaaGreatDoor.PA
