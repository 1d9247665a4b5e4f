/- Exact numbers behind right ratios: what Add, Sub, Mul, Div tell of them. -/
import Derived.Test.YtofndakpenpkbaaDoorRatQ
import Derived.Test.YtofndakpenpkbaaDoorRatP
namespace Go.Proofs.YtofndakpenpkbaaDoor.PA
open Go.RowKit
set_option linter.unusedVariables false
/-- p / q is right, and it is the number x -/
def Is (p q : Int) (x : Rat) : Prop := rightS p q = true ∧ qv p q = x
theorem Is.ok {p q : Int} {x : Rat} (h : Is p q x) : i64ok p = true ∧ i64ok q = true := by
  have := right_bounds h.1
  exact ⟨i64ok_iff.mpr (by omega), i64ok_iff.mpr (by omega)⟩
theorem Is.eq {p q r s : Int} {x : Rat} (h : Is p q x) (h' : Is r s x) : p = r ∧ q = s := qv_inj h.1 h'.1 (h.2.trans h'.2.symm)
theorem Is.of {p q : Int} {x : Rat} (h : T3 x = (p, q, 0)) : Is p q x := T3_ok h
theorem Is.T3 {p q : Int} {x : Rat} (h : Is p q x) : T3 x = (p, q, 0) := by rw [← h.2]; exact T3_q h.1
theorem Is.pos {p q : Int} {x : Rat} (h : Is p q x) : 1 ≤ q := (right_bounds h.1).1
theorem addF {a b c d : Int} {x y : Rat} (h : Is a b x) (h' : Is c d y) : ratio_Add.f a b c d = some (T3 (x + y)) := by
  unfold ratio_Add.f
  rw [if_pos ⟨h.ok.1, h.ok.2, h'.ok.1, h'.ok.2⟩, addS_T3 h.1 h'.1, h.2, h'.2]
theorem subF {a b c d : Int} {x y : Rat} (h : Is a b x) (h' : Is c d y) : ratio_Sub.f a b c d = some (T3 (x - y)) := by
  unfold ratio_Sub.f
  rw [if_pos ⟨h.ok.1, h.ok.2, h'.ok.1, h'.ok.2⟩, subS_T3 h.1 h'.1, h.2, h'.2]
theorem mulF {a b c d : Int} {x y : Rat} (h : Is a b x) (h' : Is c d y) : ratio_Mul.f a b c d = some (T3 (x * y)) := by
  unfold ratio_Mul.f
  rw [if_pos ⟨h.ok.1, h.ok.2, h'.ok.1, h'.ok.2⟩, mulS_T3 h.1 h'.1, h.2, h'.2]
theorem divF {a b c d : Int} {x y : Rat} (h : Is a b x) (h' : Is c d y) (hc : c ≠ 0) : ratio_Div.f a b c d = some (T3 (x / y)) := by
  unfold ratio_Div.f
  rw [if_pos ⟨h.ok.1, h.ok.2, h'.ok.1, h'.ok.2⟩, divS_T3 h.1 h'.1 hc, h.2, h'.2]
theorem rightF {a b : Int} {x : Rat} (h : Is a b x) : ratio_Right.f a b = some true := by
  unfold ratio_Right.f
  rw [if_pos h.ok, h.1]
theorem cmpF {a b c d : Int} {x y : Rat} (h : Is a b x) (h' : Is c d y) : ratio_Cmp.f a b c d = some (if x = y then 0 else if x < y then -1 else 1) := by
  have := h.pos; have := h'.pos
  unfold ratio_Cmp.f
  rw [if_pos ⟨h.ok.1, h.ok.2, h'.ok.1, h'.ok.2, by omega, by omega⟩, cmpS_q h.1 h'.1, h.2, h'.2]
theorem qv_zero {c d : Int} (h : rightS c d = true) : qv c d = 0 ↔ c = 0 := by
  have h1 := qv_sign h
  constructor
  · intro e
    rw [e] at h1
    have a : ¬ (0 : Rat) < 0 := by grind
    have := mt h1.1.mp a; have := mt h1.2.mp a
    omega
  · intro e
    subst e
    have a := mt h1.1.mpr (by omega); have b := mt h1.2.mpr (by omega)
    grind
/-- what a sum tells of any two, right or not -/
theorem add_tel {a b c d p q r : Int} (h : addS a b c d = (p, q, r)) : (r = 0 → Is a b (qv a b) ∧ Is c d (qv c d) ∧ Is p q (qv a b + qv c d)) ∧ i64ok p = true ∧ i64ok q = true := by
  by_cases hr : (rightS a b && rightS c d) = true
  · rw [Bool.and_eq_true] at hr
    rw [addS_T3 hr.1 hr.2] at h
    by_cases h0 : r = 0
    · subst h0
      exact ⟨fun _ => ⟨⟨hr.1, rfl⟩, ⟨hr.2, rfl⟩, Is.of h⟩, (Is.of h).ok⟩
    · have := T3_err h h0
      simp only [Prod.mk.injEq] at this
      obtain ⟨rfl, rfl, _⟩ := this
      exact ⟨fun x => absurd x h0, by decide, by decide⟩
  · rw [(bad2 (by simpa only [Bool.not_eq_true] using hr)).1] at h
    simp only [Prod.mk.injEq] at h
    obtain ⟨rfl, rfl, rfl⟩ := h
    exact ⟨fun x => by simp at x, by decide, by decide⟩
theorem mul_tel {a b c d p q r : Int} (h : mulS a b c d = (p, q, r)) : (r = 0 → Is a b (qv a b) ∧ Is c d (qv c d) ∧ Is p q (qv a b * qv c d)) ∧ i64ok p = true ∧ i64ok q = true := by
  by_cases hr : (rightS a b && rightS c d) = true
  · rw [Bool.and_eq_true] at hr
    rw [mulS_T3 hr.1 hr.2] at h
    by_cases h0 : r = 0
    · subst h0
      exact ⟨fun _ => ⟨⟨hr.1, rfl⟩, ⟨hr.2, rfl⟩, Is.of h⟩, (Is.of h).ok⟩
    · have := T3_err h h0
      simp only [Prod.mk.injEq] at this
      obtain ⟨rfl, rfl, _⟩ := this
      exact ⟨fun x => absurd x h0, by decide, by decide⟩
  · rw [(bad2 (by simpa only [Bool.not_eq_true] using hr)).2.2.1] at h
    simp only [Prod.mk.injEq] at h
    obtain ⟨rfl, rfl, rfl⟩ := h
    exact ⟨fun x => by simp at x, by decide, by decide⟩
theorem sub_tel {a b c d p q r : Int} (h : subS a b c d = (p, q, r)) : (r = 0 → Is a b (qv a b) ∧ Is c d (qv c d) ∧ Is p q (qv a b - qv c d)) ∧ i64ok p = true ∧ i64ok q = true := by
  by_cases hr : (rightS a b && rightS c d) = true
  · rw [Bool.and_eq_true] at hr
    rw [subS_T3 hr.1 hr.2] at h
    by_cases h0 : r = 0
    · subst h0
      exact ⟨fun _ => ⟨⟨hr.1, rfl⟩, ⟨hr.2, rfl⟩, Is.of h⟩, (Is.of h).ok⟩
    · have := T3_err h h0
      simp only [Prod.mk.injEq] at this
      obtain ⟨rfl, rfl, _⟩ := this
      exact ⟨fun x => absurd x h0, by decide, by decide⟩
  · rw [(bad2 (by simpa only [Bool.not_eq_true] using hr)).2.1] at h
    simp only [Prod.mk.injEq] at h
    obtain ⟨rfl, rfl, rfl⟩ := h
    exact ⟨fun x => by simp at x, by decide, by decide⟩
theorem add_comm' (a b c d : Int) : addS c d a b = addS a b c d := by
  by_cases hr : (rightS a b && rightS c d) = true
  · rw [Bool.and_eq_true] at hr
    rw [addS_T3 hr.1 hr.2, addS_T3 hr.2 hr.1, Rat.add_comm]
  · have h1 : (rightS a b && rightS c d) = false := by simpa only [Bool.not_eq_true] using hr
    have h2 : (rightS c d && rightS a b) = false := by rw [Bool.and_comm]; exact h1
    rw [(bad2 h1).1, (bad2 h2).1]
theorem mul_comm' (a b c d : Int) : mulS c d a b = mulS a b c d := by
  by_cases hr : (rightS a b && rightS c d) = true
  · rw [Bool.and_eq_true] at hr
    rw [mulS_T3 hr.1 hr.2, mulS_T3 hr.2 hr.1, Rat.mul_comm]
  · have h1 : (rightS a b && rightS c d) = false := by simpa only [Bool.not_eq_true] using hr
    have h2 : (rightS c d && rightS a b) = false := by rw [Bool.and_comm]; exact h1
    rw [(bad2 h1).2.2.1, (bad2 h2).2.2.1]
end Go.Proofs.YtofndakpenpkbaaDoor.PA
