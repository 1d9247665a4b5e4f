/- RatioNear: the snapped points lie on their sides, less than a grid away, the nearest one at most half. -/
import Derived.Test.YtofndakpenpkbaaDoorNearX
import Derived.Test.YtofndakpenpkbaaDoorQvA
import Derived.Test.YtofndakpenpkbaaDoorSnpC
import Derived.OpenShut
namespace Go.Proofs.YtofndakpenpkbaaDoor.PA
open Go.RowKit Go.ChangeShapes Go.WideShapes Go.Proofs.YtofndakpenpkbaaDoor.PC
set_option linter.unusedVariables false
theorem Is.beq {p q r s : Int} {x y : Rat} (h : Is p q x) (h' : Is r s y) : (p == r && q == s) = decide (x = y) := by
  rw [Bool.eq_iff_iff, Bool.and_eq_true, beq_iff_eq, beq_iff_eq, decide_eq_true_eq]
  constructor
  · rintro ⟨rfl, rfl⟩; exact h.2.symm.trans h'.2
  · rintro rfl; exact h.eq h'
theorem Is.bne {p q r s : Int} {x y : Rat} (h : Is p q x) (h' : Is r s y) : (!(p == r) || !(q == s)) = decide (x ≠ y) := by
  have := h.beq h'
  rw [← Bool.not_and, this]; simp
theorem ceil_of (p q : Int) (hq : 0 < q) : -((-p) / q) = if p % q = 0 then p / q else p / q + 1 := by
  have h := Int.mul_ediv_add_emod p q
  have h0 := Int.emod_nonneg p (show q ≠ 0 by omega)
  have h1 := Int.emod_lt_of_pos p hq
  by_cases hz : p % q = 0
  · rw [if_pos hz]
    rw [hz, Int.add_zero] at h
    have e : -p = q * (-(p / q)) := by rw [Int.mul_neg, h]
    rw [e, Int.mul_ediv_cancel_left _ (by omega)]; omega
  · rw [if_neg hz]
    have e : -p = q * (-(p / q + 1)) + (q - p % q) := by rw [Int.mul_neg, Int.mul_add]; omega
    have z : (q - p % q) / q = 0 := Int.ediv_eq_zero_of_lt (by omega) (by omega)
    rw [e, Int.mul_add_ediv_left _ _ (by omega), z]; omega
theorem near_of (p q : Int) (hq : 0 < q) : (2 * p + q) / (2 * q) = if 2 * (p % q) ≥ q then p / q + 1 else p / q := by
  have h := Int.mul_ediv_add_emod p q
  have h0 := Int.emod_nonneg p (show q ≠ 0 by omega)
  have h1 := Int.emod_lt_of_pos p hq
  by_cases hc : 2 * (p % q) ≥ q
  · rw [if_pos hc]
    have e : 2 * p + q = 2 * q * (p / q + 1) + (2 * (p % q) - q) := by rw [Int.mul_add, Int.mul_assoc]; omega
    have z : (2 * (p % q) - q) / (2 * q) = 0 := Int.ediv_eq_zero_of_lt (by omega) (by omega)
    rw [e, Int.mul_add_ediv_left _ _ (by omega), z]; omega
  · rw [if_neg hc]
    have e : 2 * p + q = 2 * q * (p / q) + (2 * (p % q) + q) := by rw [Int.mul_assoc]; omega
    have z : (2 * (p % q) + q) / (2 * q) = 0 := Int.ediv_eq_zero_of_lt (by omega) (by omega)
    rw [e, Int.mul_add_ediv_left _ _ (by omega), z]; omega
theorem qv_one (n : Int) : qv n 1 = (n : Rat) := by rw [qv_div (by decide)]; push_cast; grind
theorem snap_tel {a b c d how p q r : Int} (h : snapS a b c d how = (p, q, r)) :
    (r = 0 → rightS a b = true ∧ rightS c d = true ∧ 0 < c ∧ Is p q ((wholeZ (a * d) (b.natAbs * c.natAbs) how : Rat) * qv c d)) ∧ i64ok p = true ∧ i64ok q = true := by
  unfold snapS at h
  by_cases hr : (rightS a b && rightS c d) = true
  · rw [if_pos hr] at h
    rw [Bool.and_eq_true] at hr
    by_cases hc : c ≤ 0
    · rw [if_pos hc] at h
      simp only [Prod.mk.injEq] at h
      obtain ⟨rfl, rfl, rfl⟩ := h
      exact ⟨fun x => by simp at x, by decide, by decide⟩
    · rw [if_neg hc] at h
      by_cases hw : (wholeT (a * d) (b.natAbs * c.natAbs) how).2 = 0
      · rw [if_pos hw] at h
        obtain ⟨_, w1, w2⟩ := wholeT_ok hw
        rw [w1] at h
        have ht := mul_tel h
        refine ⟨fun e => ?_, ht.2⟩
        obtain ⟨_, _, k⟩ := ht.1 e
        rw [qv_one] at k
        exact ⟨hr.1, hr.2, by omega, k⟩
      · rw [if_neg hw] at h
        simp only [Prod.mk.injEq] at h
        obtain ⟨rfl, rfl, rfl⟩ := h
        exact ⟨fun x => absurd x hw, by decide, by decide⟩
  · rw [if_neg hr] at h
    simp only [Prod.mk.injEq] at h
    obtain ⟨rfl, rfl, rfl⟩ := h
    exact ⟨fun x => by simp at x, by decide, by decide⟩
/-- the number itself, by the grid -/
theorem by_grid {a b c d : Int} (h : rightS a b = true) (h' : rightS c d = true) (hc : 0 < c) : qv a b = ((a * d : Int) : Rat) / ((b * c : Int) : Rat) * qv c d := by
  have b1 := right_bounds h
  have d1 := right_bounds h'
  rw [qv_div (by omega), qv_div (by omega)]
  have hb := cast_ne (show b ≠ 0 by omega)
  have hd := cast_ne (show d ≠ 0 by omega)
  have hcr := cast_ne (show c ≠ 0 by omega)
  push_cast
  grind
theorem cast_lt' {x y : Int} (h : x < y) : (x : Rat) < (y : Rat) := by exact_mod_cast h
theorem cast_le' {x y : Int} (h : x ≤ y) : (x : Rat) ≤ (y : Rat) := by exact_mod_cast h
theorem snapT (a b c d how p q r : Int) (i0 : i64ok a = true) (i1 : i64ok b = true) (i2 : i64ok c = true) (i3 : i64ok d = true) (h : snapS a b c d how = (p, q, r)) :
    RT 42 #[.agg #[.int .i64 a, .int .i64 b], .agg #[.int .i64 c, .int .i64 d], .int .i64 how] p q r := fun w =>
  PC.ratio_Snap.calls a b c d how p q r w (by rw [snap_f a b c d how i0 i1 i2 i3, h])
theorem cmpT {a b c d n : Int} {x y : Rat} (h : Is a b x) (h' : Is c d y) (e : (if x = y then (0 : Int) else if x < y then -1 else 1) = n) : RI 32 #[.agg #[.int .i64 a, .int .i64 b], .agg #[.int .i64 c, .int .i64 d]] n := fun w =>
  ratio_Cmp.calls a b c d n w (by rw [cmpF h h', e])
theorem subT {a b c d p q r : Int} {x y : Rat} (h : Is a b x) (h' : Is c d y) (e : T3 (x - y) = (p, q, r)) : RT 24 #[.agg #[.int .i64 a, .int .i64 b], .agg #[.int .i64 c, .int .i64 d]] p q r := fun w =>
  ratio_Sub.calls a b c d p q r w (by rw [subF h h', e])
theorem knownT : RB 16 #[] true := fun w => known_any w
theorem fine0 : RB 33 #[.int .i64 0] true := (fine_q 0 true rfl).rb
theorem fineN {r : Int} (h : r ≠ 0) : RB 33 #[.int .i64 r] false := (fine_q r false (by simpa using h)).rb
set_option maxHeartbeats 1000000 in
theorem near_true (a b c d : Int) (ha : (Lit.int .i64 a).wf = true) (hb : (Lit.int .i64 b).wf = true) (hc : (Lit.int .i64 c).wf = true) (hd : (Lit.int .i64 d).wf = true) (w : World) :
    Calls Tryd.prog 12 #[.agg #[.int .i64 a, .int .i64 b], .agg #[.int .i64 c, .int .i64 d]] w fun e w' => e = .returned (.bool true) ∧ Below w.heap.size w w' := by
  have i0 := i64ok_iff.mpr (bounds_i64 ha)
  have i1 := i64ok_iff.mpr (bounds_i64 hb)
  have i2 := i64ok_iff.mpr (bounds_i64 hc)
  have i3 := i64ok_iff.mpr (bounds_i64 hd)
  obtain ⟨p1, q1, r1, s1⟩ : ∃ p q r, snapS a b c d 1 = (p, q, r) := ⟨_, _, _, rfl⟩
  obtain ⟨p2, q2, r2, s2⟩ : ∃ p q r, snapS a b c d 2 = (p, q, r) := ⟨_, _, _, rfl⟩
  obtain ⟨p3, q3, r3, s3⟩ : ∃ p q r, snapS a b c d 3 = (p, q, r) := ⟨_, _, _, rfl⟩
  have S1 := snapT a b c d 1 p1 q1 r1 i0 i1 i2 i3 s1
  have S2 := snapT a b c d 2 p2 q2 r2 i0 i1 i2 i3 s2
  have S3 := snapT a b c d 3 p3 q3 r3 i0 i1 i2 i3 s3
  have t1 := (snap_tel s1).1
  have t2 := (snap_tel s2).1
  have t3 := (snap_tel s3).1
  clear s1 s2 s3
  by_cases e1 : r1 = 0
  case neg => exact near_e1 a b c d p1 q1 p3 q3 p2 q2 r1 r3 r2 w knownT S1 S3 S2 (fineN e1)
  by_cases e3 : r3 = 0
  case neg => subst e1; exact near_e3 a b c d p1 q1 p3 q3 p2 q2 r3 r2 w knownT S1 S3 S2 fine0 (fineN e3)
  by_cases e2 : r2 = 0
  case neg => subst e1 e3; exact near_e2 a b c d p1 q1 p3 q3 p2 q2 r2 w knownT S1 S3 S2 fine0 fine0 (fineN e2)
  subst e1 e2 e3
  obtain ⟨hab, hcd, hc0, I1⟩ := t1 rfl
  obtain ⟨_, _, _, I2⟩ := t2 rfl
  obtain ⟨_, _, _, I3⟩ := t3 rfl
  clear t1 t2 t3
  have hb1 := right_bounds hab
  have hR := by_grid hab hcd hc0
  have hG : 0 < qv c d := (qv_sign hcd).1.mp hc0
  have hQ : 0 < b * c := Int.mul_pos (by omega) hc0
  have eQ : ((b.natAbs * c.natAbs : Nat) : Int) = b * c := by rw [Int.natCast_mul, show ((b.natAbs : Nat) : Int) = b by omega, show ((c.natAbs : Nat) : Int) = c by omega]
  have E1 : wholeZ (a * d) (b.natAbs * c.natAbs) 1 = a * d / (b * c) := by unfold wholeZ; rw [if_pos rfl, eQ]
  have E2 : wholeZ (a * d) (b.natAbs * c.natAbs) 2 = if 2 * (a * d % (b * c)) ≥ b * c then a * d / (b * c) + 1 else a * d / (b * c) := by
    unfold wholeZ
    rw [if_neg (by decide), if_pos rfl, show ((2 * (b.natAbs * c.natAbs) : Nat) : Int) = 2 * (b * c) by rw [Int.natCast_mul, eQ]; rfl, eQ]
    exact near_of _ _ hQ
  have E3 : wholeZ (a * d) (b.natAbs * c.natAbs) 3 = if a * d % (b * c) = 0 then a * d / (b * c) else a * d / (b * c) + 1 := by
    unfold wholeZ; rw [if_neg (by decide), if_neg (by decide), eQ]; exact ceil_of _ _ hQ
  rw [E1] at I1
  rw [E2] at I2
  rw [E3] at I3
  clear E1 E2 E3 eQ
  have IR : Is a b (qv a b) := ⟨hab, rfl⟩
  have IG : Is c d (qv c d) := ⟨hcd, rfl⟩
  have hdm := Int.mul_ediv_add_emod (a * d) (b * c)
  have hm0 := Int.emod_nonneg (a * d) (show b * c ≠ 0 by omega)
  have hm1 := Int.emod_lt_of_pos (a * d) hQ
  generalize a * d / (b * c) = Z at *
  generalize hM : a * d % (b * c) = M at *
  -- the number is (Z + M / Q) grids
  have hX : qv a b = (Z : Rat) * qv c d + (M : Rat) / ((b * c : Int) : Rat) * qv c d := by
    rw [hR, ← hdm]
    have := cast_ne (show b * c ≠ 0 by omega)
    push_cast
    push_cast at this
    grind
  have hQr : (0 : Rat) < ((b * c : Int) : Rat) := by exact_mod_cast hQ
  generalize hq : ((b * c : Int) : Rat) = Q at *
  generalize qv c d = G at *
  generalize qv a b = R at *
  have hF0 : (0 : Rat) ≤ (M : Rat) / Q := by
    rw [Rat.div_def]; exact Rat.mul_nonneg (by exact_mod_cast hm0) (Rat.le_of_lt (Rat.inv_pos.mpr hQr))
  have hF1 : (M : Rat) / Q < 1 := by
    rw [Rat.div_lt_iff hQr, Rat.one_mul, ← hq]; exact_mod_cast hm1
  generalize hf : (M : Rat) / Q = F at *
  have hFG0 : 0 ≤ F * G := Rat.mul_nonneg hF0 (Rat.le_of_lt hG)
  have hFG1 : 0 < (1 - F) * G := Rat.mul_pos (by grind) hG
  by_cases hz : M = 0
  · have hF : F = 0 := by rw [← hf, hz]; simp [Rat.div_def]
    rw [if_pos hz] at I3
    rw [if_neg (by omega)] at I2
    have hRZ : R = (Z : Rat) * G := by rw [hX, hF]; grind
    have IR' := IR
    rw [hRZ] at IR'
    obtain ⟨rfl, rfl⟩ := I1.eq I2
    obtain ⟨rfl, rfl⟩ := I1.eq I3
    obtain ⟨rfl, rfl⟩ := I1.eq IR'
    obtain ⟨x, y, hx⟩ : ∃ x y, T3 (R - R) = (x, y, 0) := ⟨0, 1, by rw [Rat.sub_self]; rfl⟩
    have C := cmpT IR IR (n := 0) (if_pos rfl)
    have D := subT IR IR hx
    exact near_eq p1 q1 c d x y x y 0 x y 0 w knownT S1 S3 S2 fine0 fine0 fine0 C C D (fine_q 0 true rfl) D D fine0 fine0 (cmpT (Is.of hx) (Is.of hx) (n := 0) (if_pos rfl))
  · rw [if_neg hz] at I3
    have hMp : 0 < M := by omega
    have hFp : 0 < F := by
      rw [← hf, Rat.div_def]; exact Rat.mul_pos (by exact_mod_cast hMp) (Rat.inv_pos.mpr hQr)
    have hFGp : 0 < F * G := Rat.mul_pos hFp hG
    have eZ : ((Z + 1 : Int) : Rat) = (Z : Rat) + 1 := by push_cast; rfl
    rw [eZ] at I3
    have hRlt : (Z : Rat) * G < R := by grind
    have hRgt : R < ((Z : Rat) + 1) * G := by grind
    have hlohi : (Z : Rat) * G ≠ ((Z : Rat) + 1) * G := by grind
    have hloR : (Z : Rat) * G ≠ R := by grind
    have C1 := cmpT I1 IR (n := -1) (by rw [if_neg hloR, if_pos hRlt])
    have C2 := cmpT IR I3 (n := -1) (by rw [if_neg (by grind), if_pos hRgt])
    have D1 := subT I3 I1 (p := c) (q := d) (r := 0) (by rw [show ((Z : Rat) + 1) * G - (Z : Rat) * G = G by grind]; exact IG.T3)
    have h13 : (p1 == p3 && q1 == q3) = false := by rw [I1.beq I3]; exact decide_eq_false hlohi
    have h31 : (p3 == p1 && q3 == q1) = false := by rw [I3.beq I1]; exact decide_eq_false (Ne.symm hlohi)
    have h1r : (p1 == a && q1 == b) = false := by rw [I1.beq IR]; exact decide_eq_false hloR
    obtain ⟨x, y, z, hx⟩ : ∃ x y z, T3 (R - (Z : Rat) * G) = (x, y, z) := ⟨_, _, _, rfl⟩
    obtain ⟨x', y', z', hx'⟩ : ∃ x y z, T3 (((Z : Rat) + 1) * G - R) = (x, y, z) := ⟨_, _, _, rfl⟩
    have D2 := subT IR I1 hx
    have D3 := subT I3 IR hx'
    have F0 := fine_q 0 true rfl
    by_cases hh : 2 * M ≥ b * c
    · rw [if_pos hh, eZ] at I2
      obtain ⟨rfl, rfl⟩ := I2.eq I3
      by_cases h0 : z = 0
      case neg => exact near_hi1 a b c d p1 q1 p2 q2 x y z x' y' z' w knownT S1 S3 S2 fine0 fine0 fine0 C1 C2 D1 F0 D2 D3 h13 h31 h1r (fineN h0)
      subst h0
      by_cases h0' : z' = 0
      case neg => exact near_hi2 a b c d p1 q1 p2 q2 x y 0 x' y' z' w knownT S1 S3 S2 fine0 fine0 fine0 C1 C2 D1 F0 D2 D3 h13 h31 h1r fine0 (fineN h0')
      subst h0'
      have h2F : 1 ≤ 2 * F := by
        rw [← hf]
        have : Q ≤ 2 * (M : Rat) := by rw [← hq]; exact_mod_cast hh
        have h3 : 2 * ((M : Rat) / Q) = (2 * (M : Rat)) / Q := by grind
        have h4 : ¬ (2 * (M : Rat)) / Q < 1 := by rw [Rat.div_lt_iff hQr]; grind
        rw [h3]; grind
      have h2G : 0 ≤ (2 * F - 1) * G := Rat.mul_nonneg (by grind) (Rat.le_of_lt hG)
      by_cases heq : R - (Z : Rat) * G = ((Z : Rat) + 1) * G - R
      · exact near_hi3 a b c d p1 q1 p2 q2 x y 0 x' y' 0 w knownT S1 S3 S2 fine0 fine0 fine0 C1 C2 D1 F0 D2 D3 h13 h31 h1r fine0 fine0 (cmpT (Is.of hx) (Is.of hx') (n := 0) (if_pos heq))
      · exact near_hi3g a b c d p1 q1 p2 q2 x y 0 x' y' 0 w knownT S1 S3 S2 fine0 fine0 fine0 C1 C2 D1 F0 D2 D3 h13 h31 h1r fine0 fine0 (cmpT (Is.of hx) (Is.of hx') (n := 1) (by rw [if_neg heq, if_neg (by grind)]))
    · rw [if_neg hh] at I2
      obtain ⟨rfl, rfl⟩ := I2.eq I1
      by_cases h0 : z = 0
      case neg => exact near_lo1 a b c d p2 q2 p3 q3 x y z x' y' z' w knownT S1 S3 S2 fine0 fine0 fine0 C1 C2 D1 F0 D2 D3 h13 h31 h1r (fineN h0)
      subst h0
      by_cases h0' : z' = 0
      case neg => exact near_lo2 a b c d p2 q2 p3 q3 x y 0 x' y' z' w knownT S1 S3 S2 fine0 fine0 fine0 C1 C2 D1 F0 D2 D3 h13 h31 h1r fine0 (fineN h0')
      subst h0'
      have h2F : 2 * F < 1 := by
        rw [← hf]
        have : 2 * (M : Rat) < Q := by rw [← hq]; exact_mod_cast (by omega : 2 * M < b * c)
        have h3 : 2 * ((M : Rat) / Q) = (2 * (M : Rat)) / Q := by grind
        rw [h3, Rat.div_lt_iff hQr]; grind
      have h2G : 0 < (1 - 2 * F) * G := Rat.mul_pos (by grind) hG
      exact near_lo3l a b c d p2 q2 p3 q3 x y 0 x' y' 0 w knownT S1 S3 S2 fine0 fine0 fine0 C1 C2 D1 F0 D2 D3 h13 h31 h1r fine0 fine0 (cmpT (Is.of hx) (Is.of hx') (n := -1) (by rw [if_neg (by grind), if_pos (by grind)]))
end Go.Proofs.YtofndakpenpkbaaDoor.PA
