/- code: drops, full, within, colon. -/
import Derived.Test.YtghiibdhibcbaaaDoorTimT
import Derived.Deep.QuietTactic
import Derived.BigQuiet
namespace Go.Proofs.YtghiibdhibcbaaaDoor.PA
open Go Go.RowKit Go.Proofs.YtghiibdhibcbaaaDoorW.PrintWords Go.Proofs.YtghiibdhibcbaaaDoorW.PrintLast Go.Proofs.YtghiibdhibcbaaaDoorW.PrintMore Go.Proofs.YtghiibdhibcbaaaDoor.CS
set_option linter.unusedSimpArgs false
set_option linter.unusedVariables false
theorem eqA84 (d : Nat) (w : World) (x0 y0 : Int) (x1 y1 : Int) :
    (Op.equalIn (d + 2) 84 (.agg #[.int .i64 x0, .int .i64 x1]) (.agg #[.int .i64 y0, .int .i64 y1])).run Tryd.prog w = .ok (x0 == y0 && (x1 == y1)) w := by
  have hu : Tryd.prog.underlying 84 = some (.array 2 3) := by kernel_rfl
  have s3 : (sizeOf 3).run Tryd.prog w = .ok 1 w := by go_simp
  rw [Op.equalIn]
  simp only [Sem.run_bind, run_underlying hu, Result.andThen_ok, s3]
  simp [go_sem, List.range'_succ]
  by_cases h0 : x0 = y0 <;> by_cases h1 : x1 = y1 <;> simp [h0, h1]
attribute [local go_sem high] eqA84
/-- a rate as an argument -/
abbrev rate (n d : Int) (dr : Bool) : Value := .agg #[.int .i64 n, .int .i64 d, .bool dr]
def dropsS (n d : Int) : Int := if (n == 30000 && (d == 1001)) = true then 2 else if (n == 60000 && (d == 1001)) = true then 4 else 0
set_option maxHeartbeats 800000 in
set_option maxRecDepth 100000 in
theorem drops_any (n d : Int) (w : World) :
    Calls Tryd.prog 59 #[.agg #[.int .i64 n, .int .i64 d]] w fun e w' => e = .returned (.int .i64 (dropsS n d)) ∧ Below w.heap.size w w' := by
  unfold dropsS
  cases h1 : (n == 30000) <;> cases h2 : (n == 60000) <;> cases h3 : (d == 1001)
  all_goals
    simp only [Bool.false_and, Bool.and_false, Bool.true_and, Bool.and_true, if_true, Bool.false_eq_true, if_false]
    go_enter Tryd.func59, Tryd.ntmps59
    go_wp2
    go_ret
    exact ⟨rfl, (Below.refl _ _).alloc (Nat.le_refl _) _⟩
set_option maxHeartbeats 800000 in
set_option maxRecDepth 100000 in
theorem full_any (n d : Int) (dr : Bool) (h : Ok n d dr) (w : World) :
    Calls Tryd.prog 45 #[rate n d dr] w fun e w' => e = .returned (.int .i64 (full n d)) ∧ Below w.heap.size w w' := by
  obtain ⟨n1, n2, d1, d2, _, _, _, _⟩ := h
  have hd : ¬ d = 0 := by omega
  have hd' : (d == 0) = false := by simpa using hd
  unfold full
  go_enter Tryd.func45, Tryd.ntmps45
  go_wp2
  go_ret
  exact ⟨rfl, (Below.refl _ _).alloc (Nat.le_refl _) _⟩
set_option maxHeartbeats 800000 in
set_option maxRecDepth 100000 in
theorem colon_any (n d : Int) (dr : Bool) (w : World) :
    Calls Tryd.prog 47 #[rate n d dr] w fun e w' => e = .returned (.string (if dr = true then ⟨#[59]⟩ else ⟨#[58]⟩)) ∧ Below w.heap.size w w' := by
  cases dr
  all_goals
    go_enter Tryd.func47, Tryd.ntmps47
    go_wp2
    go_ret
    exact ⟨rfl, (Below.refl _ _).alloc (Nat.le_refl _) _⟩
set_option maxHeartbeats 800000 in
set_option maxRecDepth 100000 in
theorem within_any (n d fr : Int) (dr : Bool) (h : Ok n d dr) (w : World) :
    Calls Tryd.prog 42 #[rate n d dr, .int .i64 fr] w fun e w' => e = .returned (.bool (inF n d fr)) ∧ Below w.heap.size w w' := by
  obtain ⟨n1, n2, d1, d2, _, _, _, _⟩ := h
  have hd' : (d == 0) = false := by simp; omega
  have hd : ¬ d = 0 := by omega
  unfold inF last
  by_cases hf : 0 ≤ fr
  all_goals
    go_enter Tryd.func42, Tryd.ntmps42
    go_wp2
    go_ret
    exact ⟨by first | (rw [decide_eq_true hf]; rfl) | (rw [decide_eq_false (show ¬ 0 ≤ fr by omega)]; rfl), (Below.refl _ _).alloc (Nat.le_refl _) _⟩
end Go.Proofs.YtghiibdhibcbaaaDoor.PA
