/- RatioRings: sums and products of three, where all of it is told. -/
import Derived.Test.YtofndakpenpkbaaDoorRingB
import Derived.Test.YtofndakpenpkbaaDoorQvA
import Derived.OpenShut
namespace Go.Proofs.YtofndakpenpkbaaDoor.PA
open Go.RowKit Go.ChangeShapes Go.WideShapes
set_option linter.unusedVariables false
theorem addT {a b c d p q r : Int} (i0 : i64ok a = true) (i1 : i64ok b = true) (i2 : i64ok c = true) (i3 : i64ok d = true) (h : addS a b c d = (p, q, r)) : RT 21 #[.agg #[.int .i64 a, .int .i64 b], .agg #[.int .i64 c, .int .i64 d]] p q r := fun w =>
  ratio_Add.calls a b c d p q r w (by unfold ratio_Add.f; rw [if_pos ⟨i0, i1, i2, i3⟩, h])
theorem mulT {a b c d p q r : Int} (i0 : i64ok a = true) (i1 : i64ok b = true) (i2 : i64ok c = true) (i3 : i64ok d = true) (h : mulS a b c d = (p, q, r)) : RT 28 #[.agg #[.int .i64 a, .int .i64 b], .agg #[.int .i64 c, .int .i64 d]] p q r := fun w =>
  ratio_Mul.calls a b c d p q r w (by unfold ratio_Mul.f; rw [if_pos ⟨i0, i1, i2, i3⟩, h])
theorem addI {a b c d p q r : Int} {x y : Rat} (h : Is a b x) (h' : Is c d y) (e : T3 (x + y) = (p, q, r)) : RT 21 #[.agg #[.int .i64 a, .int .i64 b], .agg #[.int .i64 c, .int .i64 d]] p q r := fun w =>
  ratio_Add.calls a b c d p q r w (by rw [addF h h', e])
theorem mulI {a b c d p q r : Int} {x y : Rat} (h : Is a b x) (h' : Is c d y) (e : T3 (x * y) = (p, q, r)) : RT 28 #[.agg #[.int .i64 a, .int .i64 b], .agg #[.int .i64 c, .int .i64 d]] p q r := fun w =>
  ratio_Mul.calls a b c d p q r w (by rw [mulF h h', e])
theorem subI {a b c d p q r : Int} {x y : Rat} (h : Is a b x) (h' : Is c d y) (e : T3 (x - y) = (p, q, r)) : RT 24 #[.agg #[.int .i64 a, .int .i64 b], .agg #[.int .i64 c, .int .i64 d]] p q r := fun w =>
  ratio_Sub.calls a b c d p q r w (by rw [subF h h', e])
theorem divI {a b c d p q r : Int} {x y : Rat} (h : Is a b x) (h' : Is c d y) (hc : c ≠ 0) (e : T3 (x / y) = (p, q, r)) : RT 30 #[.agg #[.int .i64 a, .int .i64 b], .agg #[.int .i64 c, .int .i64 d]] p q r := fun w =>
  ratio_Div.calls a b c d p q r w (by rw [divF h h' hc, e])
theorem rightI {a b : Int} {x : Rat} (h : Is a b x) : RB 19 #[.agg #[.int .i64 a, .int .i64 b]] true := fun w => ratio_Right.calls a b true w (rightF h)
theorem knownT : RB 16 #[] true := fun w => known_any w
theorem fine0 : RB 33 #[.int .i64 0] true := (fine_q 0 true rfl).rb
theorem fineN {r : Int} (h : r ≠ 0) : RB 33 #[.int .i64 r] false := (fine_q r false (by simpa using h)).rb
theorem rings_true (a b c d e f : Int) (ha : (Lit.int .i64 a).wf = true) (hb : (Lit.int .i64 b).wf = true) (hc : (Lit.int .i64 c).wf = true) (hd : (Lit.int .i64 d).wf = true) (he : (Lit.int .i64 e).wf = true) (hf : (Lit.int .i64 f).wf = true) (w : World) :
    Calls Tryd.prog 7 #[.agg #[.int .i64 a, .int .i64 b], .agg #[.int .i64 c, .int .i64 d], .agg #[.int .i64 e, .int .i64 f]] w fun e w' => e = .returned (.bool true) ∧ Below w.heap.size w w' := by
  have i0 := i64ok_iff.mpr (bounds_i64 ha)
  have i1 := i64ok_iff.mpr (bounds_i64 hb)
  have i2 := i64ok_iff.mpr (bounds_i64 hc)
  have i3 := i64ok_iff.mpr (bounds_i64 hd)
  have i4 := i64ok_iff.mpr (bounds_i64 he)
  have i5 := i64ok_iff.mpr (bounds_i64 hf)
  obtain ⟨p1, q1, r1, e1⟩ : ∃ p q r, addS a b c d = (p, q, r) := ⟨_, _, _, rfl⟩
  obtain ⟨p2, q2, r2, e2⟩ : ∃ p q r, mulS a b c d = (p, q, r) := ⟨_, _, _, rfl⟩
  obtain ⟨p3, q3, r3, e3⟩ : ∃ p q r, addS c d e f = (p, q, r) := ⟨_, _, _, rfl⟩
  obtain ⟨p4, q4, r4, e4⟩ : ∃ p q r, mulS c d e f = (p, q, r) := ⟨_, _, _, rfl⟩
  obtain ⟨p5, q5, r5, e5⟩ : ∃ p q r, mulS a b e f = (p, q, r) := ⟨_, _, _, rfl⟩
  have A1 := addT i0 i1 i2 i3 e1
  have A2 := addT i2 i3 i0 i1 ((add_comm' a b c d).trans e1)
  have M1 := mulT i0 i1 i2 i3 e2
  have M2 := mulT i2 i3 i0 i1 ((mul_comm' a b c d).trans e2)
  have A3 := addT i2 i3 i4 i5 e3
  have M4 := mulT i2 i3 i4 i5 e4
  have M5 := mulT i0 i1 i4 i5 e5
  have h1 := (add_tel e1).1
  have h2 := (mul_tel e2).1
  have h3 := (add_tel e3).1
  have h4 := (mul_tel e4).1
  have h5 := (mul_tel e5).1
  clear e1 e2 e3 e4 e5
  have N14 : At14 w a b c d e f p2 q2 p3 q3 r2 r3 := by
    by_cases z3 : r3 = 0
    case neg => exact rings5_k w _ _ _ _ _ _ _ _ _ _ _ _ _ _ _ M5 (fineN z3)
    subst z3
    by_cases z2 : r2 = 0
    case neg => exact rings5_g w _ _ _ _ _ _ _ _ _ _ _ _ _ _ M5 fine0 (fineN z2)
    subst z2
    by_cases z5 : r5 = 0
    case neg => exact rings5_n w _ _ _ _ _ _ _ _ _ _ _ _ _ M5 fine0 fine0 (fineN z5)
    subst z5
    obtain ⟨ja, jc, jx⟩ := h2 rfl
    obtain ⟨_, je, js⟩ := h3 rfl
    obtain ⟨_, _, jz⟩ := h5 rfl
    obtain ⟨l1, l2, l3, hl⟩ : ∃ p q r, T3 (qv a b * (qv c d + qv e f)) = (p, q, r) := ⟨_, _, _, rfl⟩
    exact rings5 w _ _ _ _ _ _ _ _ _ _ _ _ l1 l2 l3 M5 fine0 fine0 fine0 (mulI ja js hl) (addI jx jz (by rw [← Rat.mul_add]; exact hl))
  have N12 : At12 w a b c d e f p2 q2 p3 q3 r2 r3 := by
    by_cases z2 : r2 = 0
    case neg => exact rings4_g w _ _ _ _ _ _ _ _ _ _ _ _ _ _ _ N14 M4 (fineN z2)
    subst z2
    by_cases z4 : r4 = 0
    case neg => exact rings4_m w _ _ _ _ _ _ _ _ _ _ _ _ _ _ N14 M4 fine0 (fineN z4)
    subst z4
    obtain ⟨ja, jc, jx⟩ := h2 rfl
    obtain ⟨_, je, jy⟩ := h4 rfl
    obtain ⟨l1, l2, l3, hl⟩ : ∃ p q r, T3 (qv a b * qv c d * qv e f) = (p, q, r) := ⟨_, _, _, rfl⟩
    exact rings4 w _ _ _ _ _ _ _ _ _ _ _ _ _ l1 l2 l3 N14 M4 fine0 fine0 (mulI jx je hl) (mulI ja jy (by rw [← Rat.mul_assoc]; exact hl))
  have N10 : At10 w a b c d e f p1 q1 p2 q2 r1 r2 := by
    by_cases z1 : r1 = 0
    case neg => exact rings3_e w _ _ _ _ _ _ _ _ _ _ _ _ _ _ _ N12 A3 (fineN z1)
    subst z1
    by_cases z3 : r3 = 0
    case neg => exact rings3_k w _ _ _ _ _ _ _ _ _ _ _ _ _ _ N12 A3 fine0 (fineN z3)
    subst z3
    obtain ⟨ja, jc, jp⟩ := h1 rfl
    obtain ⟨_, je, js⟩ := h3 rfl
    obtain ⟨l1, l2, l3, hl⟩ : ∃ p q r, T3 (qv a b + qv c d + qv e f) = (p, q, r) := ⟨_, _, _, rfl⟩
    exact rings3 w _ _ _ _ _ _ _ _ _ _ _ _ _ l1 l2 l3 N12 A3 fine0 fine0 (addI jp je hl) (addI ja js (by rw [← Rat.add_assoc]; exact hl))
  have N9 : At9 w a b c d e f p1 q1 p2 q2 r1 r2 := by
    by_cases z2 : r2 = 0
    case neg => exact rings2_g w _ _ _ _ _ _ _ _ _ _ _ _ N10 (fineN z2)
    subst z2
    by_cases zc : c = 0
    · subst zc; exact rings2_0 w _ _ _ _ _ _ _ _ _ _ N10 fine0
    · obtain ⟨ja, jc, jx⟩ := h2 rfl
      have hy : qv c d ≠ 0 := fun n => zc ((qv_zero jc.1).mp n)
      exact rings2 w _ _ _ _ _ _ _ _ _ _ _ (by simpa using zc) (by simpa using zc) N10 fine0 (divI jx jc zc (by rw [show qv a b * qv c d / qv c d = qv a b by grind]; exact ja.T3)) fine0 (rightI jx)
  have N8 : At8 w a b c d e f p1 q1 p2 q2 r1 r2 := by
    by_cases z1 : r1 = 0
    case neg => exact rings1_e w _ _ _ _ _ _ _ _ _ _ _ _ N9 (fineN z1)
    subst z1
    obtain ⟨ja, jc, jp⟩ := h1 rfl
    exact rings1 w _ _ _ _ _ _ _ _ _ _ _ N9 fine0 (subI jp jc (by rw [show qv a b + qv c d - qv c d = qv a b by grind]; exact ja.T3)) fine0 (rightI jp)
  exact rings0 w a b c d e f p1 q1 p2 q2 r1 r2 knownT N8 A1 A2 M1 M2
end Go.Proofs.YtofndakpenpkbaaDoor.PA
