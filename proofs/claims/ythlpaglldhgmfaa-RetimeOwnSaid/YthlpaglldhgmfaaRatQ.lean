/- The ratio layer in plain mathematics: what is told is an exact number, if it is right. -/
import Derived.Test.YthlpaglldhgmfaaRatK
namespace Go.Proofs.Ythlpaglldhgmfaa.PA
/-- an exact ratio, told as the program tells it -/
def T3 (x : Rat) : Int × Int × Int := if x.num.natAbs ≤ 4611686018427387904 ∧ x.den ≤ 2147483648 then (x.num, (x.den : Int), 0) else (0, 0, 12)
/-- n / d as a number -/
def qv (n d : Int) : Rat := mkRat n d.toNat
theorem fitS_T3 (neg : Bool) (n d : Nat) (hd : 0 < d) : fitS neg n d = T3 (mkRat (if neg then -(n : Int) else (n : Int)) d) := by
  have hna : (if neg then -(n : Int) else (n : Int)).natAbs = n := by cases neg <;> simp
  have h1 : (mkRat (if neg then -(n : Int) else (n : Int)) d).den = d / Nat.gcd n d := by
    rw [Rat.den_mkRat, if_neg (by omega), hna, Nat.gcd_comm]
  have h2 : (mkRat (if neg then -(n : Int) else (n : Int)) d).num = (if neg then -((n / Nat.gcd n d : Nat) : Int) else ((n / Nat.gcd n d : Nat) : Int)) := by
    rw [Rat.num_mkRat, if_neg (by omega), hna, Nat.gcd_comm]
    cases neg
    · simp
    · simp only [if_true]
      rw [Int.neg_ediv_of_dvd (by exact_mod_cast Nat.gcd_dvd_left n d)]
      simp
  have h3 : (mkRat (if neg then -(n : Int) else (n : Int)) d).num.natAbs = n / Nat.gcd n d := by
    rw [h2]; cases neg
    · exact Int.natAbs_natCast _
    · rw [if_pos rfl, Int.natAbs_neg]; exact Int.natAbs_natCast _
  unfold fitS T3
  rw [h3, h1, h2]
theorem rightS_iff {n d : Int} : rightS n d = true ↔ 1 ≤ d ∧ d ≤ 2147483648 ∧ n.natAbs ≤ 4611686018427387904 ∧ Nat.gcd n.natAbs d.natAbs = 1 := by
  constructor
  · exact right_bounds
  · rintro ⟨h1, h2, h3, h4⟩
    unfold rightS newS
    rw [if_neg (by omega)]
    unfold fitS
    rw [h4, Nat.div_one, Nat.div_one, if_pos ⟨h3, by omega⟩]
    simp only [Bool.and_eq_true, decide_eq_true_eq, Prod.mk.injEq, and_true]
    refine ⟨h1, ?_, by omega⟩
    by_cases hn : n < 0
    · rw [decide_eq_true hn, decide_eq_false (by omega : ¬ d < 0)]; simp; omega
    · rw [decide_eq_false hn, decide_eq_false (by omega : ¬ d < 0)]; simp; omega
theorem T3_right {n d : Int} (h : rightS n d = true) : (qv n d).num = n ∧ ((qv n d).den : Int) = d := by
  obtain ⟨h1, h2, h3, h4⟩ := rightS_iff.mp h
  have hd : d.toNat ≠ 0 := by omega
  have e : d.toNat = d.natAbs := by omega
  unfold qv
  rw [Rat.num_mkRat, Rat.den_mkRat, if_neg hd, if_neg hd, e, Nat.gcd_comm, h4]
  simp; omega
theorem T3_q {n d : Int} (h : rightS n d = true) : T3 (qv n d) = (n, d, 0) := by
  obtain ⟨h1, h2, h3, h4⟩ := rightS_iff.mp h
  obtain ⟨a, b⟩ := T3_right h
  unfold T3
  rw [a, b, if_pos ⟨h3, by omega⟩]
theorem T3_ok {x : Rat} {n d : Int} (h : T3 x = (n, d, 0)) : rightS n d = true ∧ qv n d = x := by
  unfold T3 at h
  split at h
  · rename_i hc
    simp only [Prod.mk.injEq, and_true] at h
    obtain ⟨rfl, rfl⟩ := h
    have := x.den_pos
    have hr : Nat.gcd x.num.natAbs x.den = 1 := x.reduced
    refine ⟨rightS_iff.mpr ⟨by omega, by omega, hc.1, by simpa using hr⟩, ?_⟩
    unfold qv
    rw [Int.toNat_natCast, Rat.mkRat_self]
  · simp at h
theorem T3_err {x : Rat} {r : Int × Int × Int} (h : T3 x = r) (hz : r.2.2 ≠ 0) : r = (0, 0, 12) := by
  unfold T3 at h
  split at h
  · subst h; simp at hz
  · exact h.symm
theorem T3_z (x : Rat) : (T3 x).2.2 = 0 ∨ T3 x = (0, 0, 12) := by unfold T3; split <;> simp
theorem qv_inj {a b c d : Int} (h : rightS a b = true) (h' : rightS c d = true) (e : qv a b = qv c d) : a = c ∧ b = d := by
  have h1 := T3_q h; have h2 := T3_q h'
  rw [e, h2] at h1
  simp only [Prod.mk.injEq, and_true] at h1
  exact ⟨h1.1.symm, h1.2.symm⟩
theorem mkRat_qv (n : Int) (d : Nat) : mkRat n d = qv n d := by unfold qv; rw [Int.toNat_natCast]
theorem qv_div {n d : Int} (h : 0 < d) : qv n d = (n : Rat) / (d : Rat) := by
  unfold qv
  rw [Rat.mkRat_eq_div]
  congr 1
  have : ((d.toNat : Nat) : Int) = d := by omega
  rw [← this]; rfl
theorem sgn_abs (n : Int) : (if decide (n < 0) = true then -(n.natAbs : Int) else (n.natAbs : Int)) = n := by
  by_cases h : n < 0
  · rw [decide_eq_true h]; simp; omega
  · rw [decide_eq_false h]; simp; omega
theorem cast_ne {d : Int} (h : d ≠ 0) : (d : Rat) ≠ 0 := by simpa using h
theorem newS_T3 {n d : Int} (hd : d ≠ 0) : newS n d = T3 ((n : Rat) / (d : Rat)) := by
  unfold newS
  rw [if_neg hd, fitS_T3 _ _ _ (by omega)]
  congr 1
  rw [mkRat_qv, qv_div (by omega)]
  have hdr := cast_ne hd
  by_cases h1 : n < 0 <;> by_cases h2 : d < 0 <;> simp only [h1, h2, decide_true, decide_false, bne_self_eq_false, Bool.false_eq_true, if_false, if_true, Bool.true_bne, Bool.not_false, Bool.false_bne]
  · rw [show ((n.natAbs : Nat) : Int) = -n by omega, show ((d.natAbs : Nat) : Int) = -d by omega]; push_cast; grind
  · rw [show ((n.natAbs : Nat) : Int) = -n by omega, show ((d.natAbs : Nat) : Int) = d by omega]; push_cast; grind
  · rw [show ((n.natAbs : Nat) : Int) = n by omega, show ((d.natAbs : Nat) : Int) = -d by omega]; push_cast; grind
  · rw [show ((n.natAbs : Nat) : Int) = n by omega, show ((d.natAbs : Nat) : Int) = d by omega]
/-- the sign and size of a product -/
theorem sgn_mul (a c : Int) : (if (decide (a < 0) != decide (c < 0)) = true then -((a.natAbs * c.natAbs : Nat) : Int) else ((a.natAbs * c.natAbs : Nat) : Int)) = a * c := by
  by_cases h1 : a < 0 <;> by_cases h2 : c < 0 <;> simp only [h1, h2, decide_true, decide_false, bne_self_eq_false, Bool.false_eq_true, if_false, if_true, Bool.true_bne, Bool.not_false, Bool.false_bne, Int.natCast_mul]
  · rw [show ((a.natAbs : Nat) : Int) = -a by omega, show ((c.natAbs : Nat) : Int) = -c by omega]; grind
  · rw [show ((a.natAbs : Nat) : Int) = -a by omega, show ((c.natAbs : Nat) : Int) = c by omega]; grind
  · rw [show ((a.natAbs : Nat) : Int) = a by omega, show ((c.natAbs : Nat) : Int) = -c by omega]; grind
  · rw [show ((a.natAbs : Nat) : Int) = a by omega, show ((c.natAbs : Nat) : Int) = c by omega]
theorem mulS_T3 {a b c d : Int} (h : rightS a b = true) (h' : rightS c d = true) : mulS a b c d = T3 (qv a b * qv c d) := by
  obtain ⟨b1, _⟩ := right_bounds h
  obtain ⟨d1, _⟩ := right_bounds h'
  unfold mulS
  rw [if_pos (by rw [h, h']; rfl), fitS_T3 _ _ _ (Nat.mul_pos (by omega) (by omega)), sgn_mul]
  congr 1
  rw [mkRat_qv, qv_div (by rw [Int.natCast_mul]; exact Int.mul_pos (by omega) (by omega)), qv_div (by omega), qv_div (by omega), Int.natCast_mul, show ((b.natAbs : Nat) : Int) = b by omega, show ((d.natAbs : Nat) : Int) = d by omega]
  have hb := cast_ne (show b ≠ 0 by omega)
  have hd := cast_ne (show d ≠ 0 by omega)
  push_cast
  rw [Rat.div_def, Rat.div_def, Rat.div_def, Rat.inv_mul_rev]
  grind
theorem divS_T3 {a b c d : Int} (h : rightS a b = true) (h' : rightS c d = true) (hc : c ≠ 0) : divS a b c d = T3 (qv a b / qv c d) := by
  obtain ⟨b1, _⟩ := right_bounds h
  obtain ⟨d1, _⟩ := right_bounds h'
  unfold divS
  rw [if_pos (by rw [h, h']; rfl), if_neg hc, fitS_T3 _ _ _ (Nat.mul_pos (by omega) (by omega))]
  congr 1
  have e : (if (decide (a < 0) != decide (c < 0)) = true then -((a.natAbs * d.natAbs : Nat) : Int) else ((a.natAbs * d.natAbs : Nat) : Int)) = if c < 0 then -(a * d) else a * d := by
    have := sgn_mul a c
    by_cases h1 : a < 0 <;> by_cases h2 : c < 0 <;> simp only [h1, h2, decide_true, decide_false, bne_self_eq_false, Bool.false_eq_true, if_false, if_true, Bool.true_bne, Bool.not_false, Bool.false_bne, Int.natCast_mul]
    · rw [show ((a.natAbs : Nat) : Int) = -a by omega, show ((d.natAbs : Nat) : Int) = d by omega]; grind
    · rw [show ((a.natAbs : Nat) : Int) = -a by omega, show ((d.natAbs : Nat) : Int) = d by omega]; grind
    · rw [show ((a.natAbs : Nat) : Int) = a by omega, show ((d.natAbs : Nat) : Int) = d by omega]
    · rw [show ((a.natAbs : Nat) : Int) = a by omega, show ((d.natAbs : Nat) : Int) = d by omega]
  rw [e, mkRat_qv, qv_div (by rw [Int.natCast_mul]; exact Int.mul_pos (by omega) (by omega)), qv_div (by omega), qv_div (by omega), Int.natCast_mul, show ((b.natAbs : Nat) : Int) = b by omega]
  have hb := cast_ne (show b ≠ 0 by omega)
  have hd := cast_ne (show d ≠ 0 by omega)
  have hcr := cast_ne hc
  by_cases h2 : c < 0
  · rw [if_pos h2, show ((c.natAbs : Nat) : Int) = -c by omega]; push_cast; grind
  · rw [if_neg h2, show ((c.natAbs : Nat) : Int) = c by omega]; push_cast; grind
theorem sumS_val (sa sc : Bool) (p q : Nat) : (if (sumS sa sc p q).1 = true then -((sumS sa sc p q).2 : Int) else ((sumS sa sc p q).2 : Int)) = (if sa = true then -(p : Int) else p) + (if sc = true then -(q : Int) else q) := by
  unfold sumS
  cases sa <;> cases sc <;> simp only [if_true, Bool.false_eq_true, if_false, Bool.true_eq_false]
  · omega
  · by_cases h : p < q
    · rw [if_pos h]; simp only [if_true]; omega
    · rw [if_neg h]; simp only [Bool.false_eq_true, if_false]; omega
  · by_cases h : p < q
    · rw [if_pos h]; simp only [Bool.false_eq_true, if_false]; omega
    · rw [if_neg h]; simp only [if_true]; omega
  · omega
theorem sgn_pos (a d : Int) (hd : 0 ≤ d) : (if decide (a < 0) = true then -((a.natAbs * d.natAbs : Nat) : Int) else ((a.natAbs * d.natAbs : Nat) : Int)) = a * d := by
  rw [Int.natCast_mul, show ((d.natAbs : Nat) : Int) = d by omega]
  by_cases h : a < 0
  · rw [decide_eq_true h, if_pos rfl, show ((a.natAbs : Nat) : Int) = -a by omega]; grind
  · rw [decide_eq_false h, if_neg (by simp), show ((a.natAbs : Nat) : Int) = a by omega]
theorem addS_T3 {a b c d : Int} (h : rightS a b = true) (h' : rightS c d = true) : addS a b c d = T3 (qv a b + qv c d) := by
  obtain ⟨b1, _⟩ := right_bounds h
  obtain ⟨d1, _⟩ := right_bounds h'
  unfold addS
  rw [if_pos (by rw [h, h']; rfl), fitS_T3 _ _ _ (Nat.mul_pos (by omega) (by omega)), sumS_val, sgn_pos _ _ (by omega), sgn_pos _ _ (by omega)]
  congr 1
  rw [mkRat_qv, qv_div (by rw [Int.natCast_mul]; exact Int.mul_pos (by omega) (by omega)), qv_div (by omega), qv_div (by omega), Int.natCast_mul, show ((b.natAbs : Nat) : Int) = b by omega, show ((d.natAbs : Nat) : Int) = d by omega]
  have hb := cast_ne (show b ≠ 0 by omega)
  have hd := cast_ne (show d ≠ 0 by omega)
  push_cast
  grind
theorem rightS_neg {c d : Int} : rightS (-c) d = rightS c d := by
  rw [Bool.eq_iff_iff, rightS_iff, rightS_iff, Int.natAbs_neg]
theorem qv_neg {c d : Int} (h : 0 < d) : qv (-c) d = - qv c d := by
  rw [qv_div h, qv_div h]; push_cast; grind
theorem subS_T3 {a b c d : Int} (h : rightS a b = true) (h' : rightS c d = true) : subS a b c d = T3 (qv a b - qv c d) := by
  obtain ⟨d1, _⟩ := right_bounds h'
  unfold subS
  rw [if_pos (by rw [h, h']; rfl), addS_T3 h (by rw [rightS_neg]; exact h'), qv_neg (by omega)]
  congr 1
  grind
theorem bad2 {a b c d : Int} (h : (rightS a b && rightS c d) = false) : addS a b c d = (0, 0, 12) ∧ subS a b c d = (0, 0, 12) ∧ mulS a b c d = (0, 0, 12) ∧ divS a b c d = (0, 0, 12) := by
  unfold addS subS mulS divS
  rw [h]
  exact ⟨rfl, rfl, rfl, rfl⟩
theorem cmpN_int (X Y : Nat) : cmpN X Y = if (X : Int) = Y then 0 else if (X : Int) < Y then -1 else 1 := by
  unfold cmpN
  by_cases h : X = Y
  · subst h; simp
  · by_cases h2 : X < Y
    · rw [if_neg h, if_pos h2, if_neg (by omega), if_pos (by omega)]
    · rw [if_neg h, if_neg h2, if_neg (by omega), if_neg (by omega)]
theorem cmpS_eq {a b c d : Int} (hb : 0 < b) (hd : 0 < d) : cmpS a b c d = if a * d = c * b then 0 else if a * d < c * b then -1 else 1 := by
  unfold cmpS
  rw [cmpN_int, Int.natCast_mul, Int.natCast_mul, show ((b.natAbs : Nat) : Int) = b by omega, show ((d.natAbs : Nat) : Int) = d by omega]
  by_cases h1 : a < 0 <;> by_cases h2 : c < 0
  · rw [decide_eq_true h1, decide_eq_true h2, if_pos (by rfl), if_pos h1, show ((a.natAbs : Nat) : Int) = -a by omega, show ((c.natAbs : Nat) : Int) = -c by omega]
    rw [Int.neg_mul, Int.neg_mul]
    generalize a * d = x; generalize c * b = y
    by_cases e : x = y
    · subst e; simp
    · by_cases e2 : x < y
      · rw [if_neg (by omega), if_neg (by omega), if_neg e, if_pos e2]
      · rw [if_neg (by omega), if_pos (by omega), if_neg e, if_neg e2]; rfl
  · rw [decide_eq_true h1, decide_eq_false h2, if_neg (by simp), if_pos h1]
    have x1 : a * d < 0 := Int.mul_neg_of_neg_of_pos h1 hd
    have x2 : 0 ≤ c * b := Int.mul_nonneg (by omega) (by omega)
    rw [if_neg (by omega), if_pos (by omega)]
  · rw [decide_eq_false h1, decide_eq_true h2, if_neg (by simp), if_neg h1]
    have x1 : c * b < 0 := Int.mul_neg_of_neg_of_pos h2 hb
    have x2 : 0 ≤ a * d := Int.mul_nonneg (by omega) (by omega)
    rw [if_neg (by omega), if_neg (by omega)]
  · rw [decide_eq_false h1, decide_eq_false h2, if_pos (by rfl), if_neg h1, show ((a.natAbs : Nat) : Int) = a by omega, show ((c.natAbs : Nat) : Int) = c by omega]
theorem qv_lt {a b c d : Int} (h : rightS a b = true) (h' : rightS c d = true) : qv a b < qv c d ↔ a * d < c * b := by
  rw [Rat.lt_iff, (T3_right h).1, (T3_right h).2, (T3_right h').1, (T3_right h').2]
theorem qv_eq {a b c d : Int} (h : rightS a b = true) (h' : rightS c d = true) : qv a b = qv c d ↔ a * d = c * b := by
  constructor
  · intro e
    obtain ⟨rfl, rfl⟩ := qv_inj h h' e
    rfl
  · intro e
    have h1 := qv_lt h h'
    have h2 := qv_lt h' h
    rcases (show qv a b < qv c d ∨ qv a b = qv c d ∨ qv c d < qv a b by grind) with x | x | x
    · have := h1.mp x; omega
    · exact x
    · have := h2.mp x; omega
theorem cmpS_q {a b c d : Int} (h : rightS a b = true) (h' : rightS c d = true) : cmpS a b c d = if qv a b = qv c d then 0 else if qv a b < qv c d then -1 else 1 := by
  rw [cmpS_eq (by have := right_bounds h; omega) (by have := right_bounds h'; omega)]
  simp only [qv_eq h h', qv_lt h h']
theorem addS_comm (a b c d : Int) : addS a b c d = addS c d a b := by
  by_cases h : (rightS a b && rightS c d) = true
  · have h0 := h
    rw [Bool.and_eq_true] at h
    rw [addS_T3 h.1 h.2, addS_T3 h.2 h.1]; congr 1; grind
  · have h1 : (rightS a b && rightS c d) = false := by simpa using h
    rw [(bad2 h1).1, (bad2 (by rw [Bool.and_comm]; exact h1)).1]
theorem mulS_comm (a b c d : Int) : mulS a b c d = mulS c d a b := by
  by_cases h : (rightS a b && rightS c d) = true
  · rw [Bool.and_eq_true] at h
    rw [mulS_T3 h.1 h.2, mulS_T3 h.2 h.1]; congr 1; grind
  · have h1 : (rightS a b && rightS c d) = false := by simpa using h
    rw [(bad2 h1).2.2.1, (bad2 (by rw [Bool.and_comm]; exact h1)).2.2.1]
theorem addS_ok {a b c d x y : Int} (h : addS a b c d = (x, y, 0)) : rightS a b = true ∧ rightS c d = true ∧ rightS x y = true ∧ qv x y = qv a b + qv c d := by
  by_cases hr : (rightS a b && rightS c d) = true
  · rw [Bool.and_eq_true] at hr
    rw [addS_T3 hr.1 hr.2] at h
    obtain ⟨h1, h2⟩ := T3_ok h
    exact ⟨hr.1, hr.2, h1, h2⟩
  · rw [(bad2 (by simpa using hr)).1] at h; simp at h
theorem subS_ok {a b c d x y : Int} (h : subS a b c d = (x, y, 0)) : rightS a b = true ∧ rightS c d = true ∧ rightS x y = true ∧ qv x y = qv a b - qv c d := by
  by_cases hr : (rightS a b && rightS c d) = true
  · rw [Bool.and_eq_true] at hr
    rw [subS_T3 hr.1 hr.2] at h
    obtain ⟨h1, h2⟩ := T3_ok h
    exact ⟨hr.1, hr.2, h1, h2⟩
  · rw [(bad2 (by simpa using hr)).2.1] at h; simp at h
theorem mulS_ok {a b c d x y : Int} (h : mulS a b c d = (x, y, 0)) : rightS a b = true ∧ rightS c d = true ∧ rightS x y = true ∧ qv x y = qv a b * qv c d := by
  by_cases hr : (rightS a b && rightS c d) = true
  · rw [Bool.and_eq_true] at hr
    rw [mulS_T3 hr.1 hr.2] at h
    obtain ⟨h1, h2⟩ := T3_ok h
    exact ⟨hr.1, hr.2, h1, h2⟩
  · rw [(bad2 (by simpa using hr)).2.2.1] at h; simp at h
theorem divS_ok {a b c d x y : Int} (h : divS a b c d = (x, y, 0)) : rightS a b = true ∧ rightS c d = true ∧ c ≠ 0 ∧ rightS x y = true ∧ qv x y = qv a b / qv c d := by
  by_cases hr : (rightS a b && rightS c d) = true
  · rw [Bool.and_eq_true] at hr
    by_cases hc : c = 0
    · subst hc; unfold divS at h; rw [if_pos (by rw [hr.1, hr.2]; rfl), if_pos rfl] at h; simp at h
    · rw [divS_T3 hr.1 hr.2 hc] at h
      obtain ⟨h1, h2⟩ := T3_ok h
      exact ⟨hr.1, hr.2, hc, h1, h2⟩
  · rw [(bad2 (by simpa using hr)).2.2.2] at h; simp at h
theorem qv_ne {c d : Int} (h : rightS c d = true) (hc : c ≠ 0) : qv c d ≠ 0 := by
  intro e
  have h1 := (T3_right h).1
  rw [e] at h1
  exact hc (by simpa using h1.symm)
/-- what was added is taken off -/
theorem add_back {a b c d x y : Int} (h : addS a b c d = (x, y, 0)) : subS x y c d = (a, b, 0) := by
  obtain ⟨h1, h2, h3, h4⟩ := addS_ok h
  rw [subS_T3 h3 h2, h4, show qv a b + qv c d - qv c d = qv a b by grind, T3_q h1]
theorem mul_back {a b c d x y : Int} (h : mulS a b c d = (x, y, 0)) (hc : c ≠ 0) : divS x y c d = (a, b, 0) := by
  obtain ⟨h1, h2, h3, h4⟩ := mulS_ok h
  have := qv_ne h2 hc
  rw [divS_T3 h3 h2 hc, h4, show qv a b * qv c d / qv c d = qv a b by grind, T3_q h1]
theorem add_assoc {a b c d e f x y u v : Int} (h : addS a b c d = (x, y, 0)) (h' : addS c d e f = (u, v, 0)) : addS x y e f = addS a b u v := by
  obtain ⟨h1, h2, h3, h4⟩ := addS_ok h
  obtain ⟨k1, k2, k3, k4⟩ := addS_ok h'
  rw [addS_T3 h3 k2, addS_T3 h1 k3, h4, k4]; congr 1; grind
theorem mul_assoc {a b c d e f x y u v : Int} (h : mulS a b c d = (x, y, 0)) (h' : mulS c d e f = (u, v, 0)) : mulS x y e f = mulS a b u v := by
  obtain ⟨h1, h2, h3, h4⟩ := mulS_ok h
  obtain ⟨k1, k2, k3, k4⟩ := mulS_ok h'
  rw [mulS_T3 h3 k2, mulS_T3 h1 k3, h4, k4]; congr 1; grind
theorem distrib {a b c d e f u v x y p q : Int} (h : addS c d e f = (u, v, 0)) (h' : mulS a b c d = (x, y, 0)) (h'' : mulS a b e f = (p, q, 0)) : mulS a b u v = addS x y p q := by
  obtain ⟨h1, h2, h3, h4⟩ := addS_ok h
  obtain ⟨k1, k2, k3, k4⟩ := mulS_ok h'
  obtain ⟨l1, l2, l3, l4⟩ := mulS_ok h''
  rw [mulS_T3 k1 h3, addS_T3 k3 l3, h4, k4, l4]; congr 1; grind
theorem cmpS_neg {a b c d : Int} (h : rightS a b = true) (h' : rightS c d = true) : cmpS a b c d = -cmpS c d a b := by
  rw [cmpS_q h h', cmpS_q h' h]
  by_cases e : qv a b = qv c d
  · rw [if_pos e, if_pos e.symm]; rfl
  · by_cases l : qv a b < qv c d
    · rw [if_neg e, if_pos l, if_neg (fun x => e x.symm), if_neg (by grind)]
    · rw [if_neg e, if_neg l, if_neg (fun x => e x.symm), if_pos (by grind)]; rfl
theorem cmpS_zero {a b c d : Int} (h : rightS a b = true) (h' : rightS c d = true) : cmpS a b c d = 0 ↔ a = c ∧ b = d := by
  rw [cmpS_q h h']
  constructor
  · intro e
    by_cases x : qv a b = qv c d
    · exact qv_inj h h' x
    · rw [if_neg x] at e; split at e <;> simp at e
  · rintro ⟨rfl, rfl⟩; rw [if_pos rfl]
theorem cmpS_range (a b c d : Int) : -1 ≤ cmpS a b c d ∧ cmpS a b c d ≤ 1 := by
  have : ∀ x y, -1 ≤ cmpN x y ∧ cmpN x y ≤ 1 := by intro x y; unfold cmpN; split <;> (try split) <;> omega
  unfold cmpS
  have h1 := this (a.natAbs * d.natAbs) (c.natAbs * b.natAbs)
  split <;> split <;> omega
theorem cmpS_le {a b c d : Int} (h : rightS a b = true) (h' : rightS c d = true) : cmpS a b c d ≤ 0 ↔ qv a b ≤ qv c d := by
  rw [cmpS_q h h']
  by_cases e : qv a b = qv c d
  · rw [if_pos e, e]; constructor <;> intro _ <;> first | omega | grind
  · by_cases l : qv a b < qv c d
    · rw [if_neg e, if_pos l]; constructor <;> intro _ <;> first | omega | grind
    · rw [if_neg e, if_neg l]; constructor <;> intro _ <;> first | omega | grind
theorem cmpS_trans {a b c d e f : Int} (h : rightS a b = true) (h' : rightS c d = true) (h'' : rightS e f = true) (x : cmpS a b c d ≤ 0) (y : cmpS c d e f ≤ 0) : cmpS a b e f ≤ 0 := by
  rw [cmpS_le h h'] at x; rw [cmpS_le h' h''] at y; rw [cmpS_le h h'']; grind
theorem right01 : rightS 0 1 = true := by decide
theorem qv01 : qv 0 1 = 0 := by unfold qv; rfl
theorem qv_sign {n d : Int} (h : rightS n d = true) : (0 < n ↔ 0 < qv n d) ∧ (n < 0 ↔ qv n d < 0) := by
  have h1 := qv_lt h right01
  have h2 := qv_lt right01 h
  rw [qv01] at h1 h2
  simp only [Int.mul_one, Int.zero_mul] at h1 h2
  exact ⟨h2.symm, h1.symm⟩
theorem sub_sign {a b c d x y : Int} (h : subS a b c d = (x, y, 0)) : (0 < x ↔ 0 < cmpS a b c d) ∧ (x < 0 ↔ cmpS a b c d < 0) := by
  obtain ⟨h1, h2, h3, h4⟩ := subS_ok h
  rw [(qv_sign h3).1, (qv_sign h3).2, h4, cmpS_q h1 h2]
  by_cases e : qv a b = qv c d
  · rw [if_pos e]; constructor <;> constructor <;> intro _ <;> first | omega | grind
  · by_cases l : qv a b < qv c d
    · rw [if_neg e, if_pos l]; constructor <;> constructor <;> intro _ <;> first | omega | grind
    · rw [if_neg e, if_neg l]; constructor <;> constructor <;> intro _ <;> first | omega | grind
end Go.Proofs.Ythlpaglldhgmfaa.PA
