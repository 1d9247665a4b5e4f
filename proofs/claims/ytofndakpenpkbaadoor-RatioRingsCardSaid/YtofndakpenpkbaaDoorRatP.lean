/- The ratio layer's contracts as the printer spells them. -/
import Derived.Test.YtofndakpenpkbaaDoorRatK
namespace Go.Proofs.YtofndakpenpkbaaDoor.PA
open Go.RowKit Go.Proofs.YtofndakpenpkbaaDoorW.PrintWords Go.Proofs.YtofndakpenpkbaaDoorW.PrintLast Go.Proofs.YtofndakpenpkbaaDoorW.PrintMore
def i64ok (x : Int) : Bool := decide (-9223372036854775808 ≤ x) && decide (x ≤ 9223372036854775807)
theorem i64ok_iff {x : Int} : i64ok x = true ↔ -9223372036854775808 ≤ x ∧ x ≤ 9223372036854775807 := by simp [i64ok]
def ratio_New.f (a0 : Int) (a1 : Int) : Option (Int × Int × Int) := if i64ok a0 = true ∧ i64ok a1 = true then some (newS a0 a1) else none
theorem ratio_New.calls (a0 : Int) (a1 : Int) (r1 r2 r3 : Int) (w : World) (h : ratio_New.f a0 a1 = some (r1, r2, r3)) :
    Calls Tryd.prog 17 #[.int .i64 a0, .int .i64 a1] w fun e w' => e = .returned (.tuple #[.agg #[.int .i64 r1, .int .i64 r2], .int .i64 r3]) ∧ Below w.heap.size w w' := by
  unfold ratio_New.f at h
  by_cases hc : i64ok a0 = true ∧ i64ok a1 = true
  case neg => rw [if_neg hc] at h; cases h
  rw [if_pos hc] at h
  obtain ⟨h_a0, h_a1⟩ := hc
  rw [i64ok_iff] at h_a0 h_a1
  have h2 := Option.some.inj h
  have h3 := new_any a0 a1 w h_a0.1 h_a0.2 h_a1.1 h_a1.2
  rw [h2] at h3; exact h3
def ratio_Right.f (a0_0 : Int) (a0_1 : Int) : Option (Bool) := if i64ok a0_0 = true ∧ i64ok a0_1 = true then some (rightS a0_0 a0_1) else none
theorem ratio_Right.calls (a0_0 : Int) (a0_1 : Int) (r : Bool) (w : World) (h : ratio_Right.f a0_0 a0_1 = some r) :
    Calls Tryd.prog 19 #[.agg #[.int .i64 a0_0, .int .i64 a0_1]] w fun e w' => e = .returned (.bool r) ∧ Below w.heap.size w w' := by
  unfold ratio_Right.f at h
  by_cases hc : i64ok a0_0 = true ∧ i64ok a0_1 = true
  case neg => rw [if_neg hc] at h; cases h
  rw [if_pos hc] at h
  obtain ⟨h_a0_0, h_a0_1⟩ := hc
  rw [i64ok_iff] at h_a0_0 h_a0_1
  have h2 := Option.some.inj h
  have h3 := right_any a0_0 a0_1 w h_a0_0.1 h_a0_0.2 h_a0_1.1 h_a0_1.2
  rw [h2] at h3; exact h3
def ratio_Add.f (a0_0 : Int) (a0_1 : Int) (a1_0 : Int) (a1_1 : Int) : Option (Int × Int × Int) := if i64ok a0_0 = true ∧ i64ok a0_1 = true ∧ i64ok a1_0 = true ∧ i64ok a1_1 = true then some (addS a0_0 a0_1 a1_0 a1_1) else none
theorem ratio_Add.calls (a0_0 : Int) (a0_1 : Int) (a1_0 : Int) (a1_1 : Int) (r1 r2 r3 : Int) (w : World) (h : ratio_Add.f a0_0 a0_1 a1_0 a1_1 = some (r1, r2, r3)) :
    Calls Tryd.prog 21 #[.agg #[.int .i64 a0_0, .int .i64 a0_1], .agg #[.int .i64 a1_0, .int .i64 a1_1]] w fun e w' => e = .returned (.tuple #[.agg #[.int .i64 r1, .int .i64 r2], .int .i64 r3]) ∧ Below w.heap.size w w' := by
  unfold ratio_Add.f at h
  by_cases hc : i64ok a0_0 = true ∧ i64ok a0_1 = true ∧ i64ok a1_0 = true ∧ i64ok a1_1 = true
  case neg => rw [if_neg hc] at h; cases h
  rw [if_pos hc] at h
  obtain ⟨h_a0_0, h_a0_1, h_a1_0, h_a1_1⟩ := hc
  rw [i64ok_iff] at h_a0_0 h_a0_1 h_a1_0 h_a1_1
  have h2 := Option.some.inj h
  have h3 := addR_any a0_0 a0_1 a1_0 a1_1 w h_a0_0.1 h_a0_0.2 h_a0_1.1 h_a0_1.2 h_a1_0.1 h_a1_0.2 h_a1_1.1 h_a1_1.2
  rw [h2] at h3; exact h3
def ratio_Sub.f (a0_0 : Int) (a0_1 : Int) (a1_0 : Int) (a1_1 : Int) : Option (Int × Int × Int) := if i64ok a0_0 = true ∧ i64ok a0_1 = true ∧ i64ok a1_0 = true ∧ i64ok a1_1 = true then some (subS a0_0 a0_1 a1_0 a1_1) else none
theorem ratio_Sub.calls (a0_0 : Int) (a0_1 : Int) (a1_0 : Int) (a1_1 : Int) (r1 r2 r3 : Int) (w : World) (h : ratio_Sub.f a0_0 a0_1 a1_0 a1_1 = some (r1, r2, r3)) :
    Calls Tryd.prog 24 #[.agg #[.int .i64 a0_0, .int .i64 a0_1], .agg #[.int .i64 a1_0, .int .i64 a1_1]] w fun e w' => e = .returned (.tuple #[.agg #[.int .i64 r1, .int .i64 r2], .int .i64 r3]) ∧ Below w.heap.size w w' := by
  unfold ratio_Sub.f at h
  by_cases hc : i64ok a0_0 = true ∧ i64ok a0_1 = true ∧ i64ok a1_0 = true ∧ i64ok a1_1 = true
  case neg => rw [if_neg hc] at h; cases h
  rw [if_pos hc] at h
  obtain ⟨h_a0_0, h_a0_1, h_a1_0, h_a1_1⟩ := hc
  rw [i64ok_iff] at h_a0_0 h_a0_1 h_a1_0 h_a1_1
  have h2 := Option.some.inj h
  have h3 := subR_any a0_0 a0_1 a1_0 a1_1 w h_a0_0.1 h_a0_0.2 h_a0_1.1 h_a0_1.2 h_a1_0.1 h_a1_0.2 h_a1_1.1 h_a1_1.2
  rw [h2] at h3; exact h3
def ratio_Mul.f (a0_0 : Int) (a0_1 : Int) (a1_0 : Int) (a1_1 : Int) : Option (Int × Int × Int) := if i64ok a0_0 = true ∧ i64ok a0_1 = true ∧ i64ok a1_0 = true ∧ i64ok a1_1 = true then some (mulS a0_0 a0_1 a1_0 a1_1) else none
theorem ratio_Mul.calls (a0_0 : Int) (a0_1 : Int) (a1_0 : Int) (a1_1 : Int) (r1 r2 r3 : Int) (w : World) (h : ratio_Mul.f a0_0 a0_1 a1_0 a1_1 = some (r1, r2, r3)) :
    Calls Tryd.prog 28 #[.agg #[.int .i64 a0_0, .int .i64 a0_1], .agg #[.int .i64 a1_0, .int .i64 a1_1]] w fun e w' => e = .returned (.tuple #[.agg #[.int .i64 r1, .int .i64 r2], .int .i64 r3]) ∧ Below w.heap.size w w' := by
  unfold ratio_Mul.f at h
  by_cases hc : i64ok a0_0 = true ∧ i64ok a0_1 = true ∧ i64ok a1_0 = true ∧ i64ok a1_1 = true
  case neg => rw [if_neg hc] at h; cases h
  rw [if_pos hc] at h
  obtain ⟨h_a0_0, h_a0_1, h_a1_0, h_a1_1⟩ := hc
  rw [i64ok_iff] at h_a0_0 h_a0_1 h_a1_0 h_a1_1
  have h2 := Option.some.inj h
  have h3 := mulR_any a0_0 a0_1 a1_0 a1_1 w h_a0_0.1 h_a0_0.2 h_a0_1.1 h_a0_1.2 h_a1_0.1 h_a1_0.2 h_a1_1.1 h_a1_1.2
  rw [h2] at h3; exact h3
def ratio_Div.f (a0_0 : Int) (a0_1 : Int) (a1_0 : Int) (a1_1 : Int) : Option (Int × Int × Int) := if i64ok a0_0 = true ∧ i64ok a0_1 = true ∧ i64ok a1_0 = true ∧ i64ok a1_1 = true then some (divS a0_0 a0_1 a1_0 a1_1) else none
theorem ratio_Div.calls (a0_0 : Int) (a0_1 : Int) (a1_0 : Int) (a1_1 : Int) (r1 r2 r3 : Int) (w : World) (h : ratio_Div.f a0_0 a0_1 a1_0 a1_1 = some (r1, r2, r3)) :
    Calls Tryd.prog 30 #[.agg #[.int .i64 a0_0, .int .i64 a0_1], .agg #[.int .i64 a1_0, .int .i64 a1_1]] w fun e w' => e = .returned (.tuple #[.agg #[.int .i64 r1, .int .i64 r2], .int .i64 r3]) ∧ Below w.heap.size w w' := by
  unfold ratio_Div.f at h
  by_cases hc : i64ok a0_0 = true ∧ i64ok a0_1 = true ∧ i64ok a1_0 = true ∧ i64ok a1_1 = true
  case neg => rw [if_neg hc] at h; cases h
  rw [if_pos hc] at h
  obtain ⟨h_a0_0, h_a0_1, h_a1_0, h_a1_1⟩ := hc
  rw [i64ok_iff] at h_a0_0 h_a0_1 h_a1_0 h_a1_1
  have h2 := Option.some.inj h
  have h3 := divR_any a0_0 a0_1 a1_0 a1_1 w h_a0_0.1 h_a0_0.2 h_a0_1.1 h_a0_1.2 h_a1_0.1 h_a1_0.2 h_a1_1.1 h_a1_1.2
  rw [h2] at h3; exact h3
def ratio_Cmp.f (a0_0 : Int) (a0_1 : Int) (a1_0 : Int) (a1_1 : Int) : Option (Int) := if i64ok a0_0 = true ∧ i64ok a0_1 = true ∧ i64ok a1_0 = true ∧ i64ok a1_1 = true ∧ 0 ≤ a0_1 ∧ 0 ≤ a1_1 then some (cmpS a0_0 a0_1 a1_0 a1_1) else none
theorem ratio_Cmp.calls (a0_0 : Int) (a0_1 : Int) (a1_0 : Int) (a1_1 : Int) (r : Int) (w : World) (h : ratio_Cmp.f a0_0 a0_1 a1_0 a1_1 = some r) :
    Calls Tryd.prog 32 #[.agg #[.int .i64 a0_0, .int .i64 a0_1], .agg #[.int .i64 a1_0, .int .i64 a1_1]] w fun e w' => e = .returned (.int .i64 r) ∧ Below w.heap.size w w' := by
  unfold ratio_Cmp.f at h
  by_cases hc : i64ok a0_0 = true ∧ i64ok a0_1 = true ∧ i64ok a1_0 = true ∧ i64ok a1_1 = true ∧ 0 ≤ a0_1 ∧ 0 ≤ a1_1
  case neg => rw [if_neg hc] at h; cases h
  rw [if_pos hc] at h
  obtain ⟨h_a0_0, h_a0_1, h_a1_0, h_a1_1, z_a0_1, z_a1_1⟩ := hc
  rw [i64ok_iff] at h_a0_0 h_a0_1 h_a1_0 h_a1_1
  have h2 := Option.some.inj h
  have h3 := cmpR_any a0_0 a0_1 a1_0 a1_1 w h_a0_0.1 h_a0_0.2 z_a0_1 h_a0_1.2 h_a1_0.1 h_a1_0.2 z_a1_1 h_a1_1.2
  rw [h2] at h3; exact h3
end Go.Proofs.YtofndakpenpkbaaDoor.PA
