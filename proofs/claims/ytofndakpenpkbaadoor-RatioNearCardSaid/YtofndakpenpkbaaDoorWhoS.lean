/- floor, half, whole: a fraction made whole, in plain arithmetic. -/
import Derived.Test.YtofndakpenpkbaaDoorPWx4
import Derived.Test.YtofndakpenpkbaaDoorRatQ
namespace Go.Proofs.YtofndakpenpkbaaDoor.PA
open Go.RowKit Go.Proofs.YtofndakpenpkbaaDoorW.PrintWords Go.Proofs.YtofndakpenpkbaaDoorW.PrintLast Go.Proofs.YtofndakpenpkbaaDoorW.PrintMore Go.Proofs.YtofndakpenpkbaaDoor.PW
set_option linter.unusedSimpArgs false
set_option linter.unusedVariables false
def valD (s : Bool) (n : Nat) : Int := if s = true then -(n : Int) else (n : Int)
/-- a whole part's size -/
def flN (s : Bool) (n d : Nat) : Nat := if s = true ∧ n % d ≠ 0 then n / d + 1 else n / d
theorem flN_val (s : Bool) (n d : Nat) (hd : 0 < d) : valD s (flN s n d) = valD s n / (d : Int) := by
  have hdm := Nat.div_add_mod n d
  have hml := Nat.mod_lt n hd
  unfold valD flN
  cases s
  · simp only [Bool.false_eq_true, false_and, if_false]; rfl
  · rw [if_pos rfl, if_pos rfl]
    by_cases h0 : n % d = 0
    · rw [if_neg (by simp [h0])]
      rw [h0, Nat.add_zero] at hdm
      have h2 : -(n : Int) = (d : Int) * (-((n / d : Nat) : Int)) := by rw [Int.mul_neg, ← Int.natCast_mul, hdm]
      conv => rhs; rw [h2]
      rw [Int.mul_ediv_cancel_left _ (by omega)]
    · rw [if_pos ⟨rfl, h0⟩]
      have h2 : -(n : Int) = (d : Int) * (-((n / d + 1 : Nat) : Int)) + ((d - n % d : Nat) : Int) := by
        have h3 : (d : Int) * ((n / d : Nat) : Int) = ((d * (n / d) : Nat) : Int) := by rw [Int.natCast_mul]
        rw [Int.natCast_add, Int.mul_neg, Int.mul_add, h3]
        omega
      conv => rhs; rw [h2]
      rw [Int.mul_add_ediv_left _ _ (by omega), Int.ediv_eq_zero_of_lt (by omega) (by omega)]
      omega
theorem over_f (n d : Nat) (hn : n < 340282366920938463463374607431768211456) (hd0 : 0 < d) (hd : d < 340282366920938463463374607431768211456) :
    ratio_wide_over.f (hiN n) (loN n) (hiN d) (loN d) = some (hiN (n / d), loN (n / d), hiN (n % d), loN (n % d)) := by
  unfold ratio_wide_over.f
  rw [wvN_hl, wvN_hl, if_pos ⟨hiN_ok hn, loN_ok _, hiN_ok hd, loN_ok _, by omega⟩]
theorem plus_f (x y : Nat) (h : x + y < 340282366920938463463374607431768211456) : ratio_wide_plus.f (hiN x) (loN x) (hiN y) (loN y) = some (hiN (x + y), loN (x + y)) := by
  unfold ratio_wide_plus.f
  rw [if_pos (by unfold hiN loN hi64; omega)]
  unfold hiN loN hi64 lo64
  congr 2 <;> omega
theorem minus_f (x y : Nat) (hx : x < 340282366920938463463374607431768211456) (h : y ≤ x) : ratio_wide_minus.f (hiN x) (loN x) (hiN y) (loN y) = some (hiN (x - y), loN (x - y)) := ov_minus h hx
theorem cmp_fN (x y : Nat) : ratio_wide_cmp.f (hiN x) (loN x) (hiN y) (loN y) = some (cmpN x y) := by
  unfold ratio_wide_cmp.f
  rw [ov_cmp]
  unfold cmpN
  by_cases h : x = y
  · subst h; simp
  · by_cases h2 : x < y
    · rw [if_neg (by omega : ¬ y ≤ x), if_neg h, if_pos h2]
    · rw [if_pos (by omega : y ≤ x), if_neg h, if_neg h, if_neg h2]
theorem small_f (x : Nat) (hx : x < 18446744073709551616) : ratio_small.f (x : Int) = some (hiN x, loN x) := by unfold ratio_small.f; rw [hiN_small hx, loN_small hx]
theorem floor_f (k : Nat) (s : Bool) (n d : Nat) (hn : n < 340282366920938463463374607431768211455) (hd0 : 0 < d) (hd : d < 340282366920938463463374607431768211456) :
    ratio_frac_floor.f (k + 1) s (hiN n) (loN n) (hiN d) (loN d) = some (hiN (flN s n d), loN (flN s n d), s) := by
  unfold ratio_frac_floor.f
  rw [over_f n d (by omega) hd0 hd]
  simp only [Option.bind_some]
  have hq := Nat.div_le_self n d
  unfold flN
  cases s
  · rw [if_neg (by decide), if_neg (by simp)]
    simp only [ratio_frac_floor.j0, Bool.false_eq_true, if_false]
  · rw [if_pos rfl]
    have hz : (!hiN (n % d) == 0 || !loN (n % d) == 0) = decide (n % d ≠ 0) := by
      rw [Bool.eq_iff_iff]
      simp only [Bool.or_eq_true, Bool.not_eq_true', beq_eq_false_iff_ne, ne_eq, decide_eq_true_eq]
      unfold hiN loN
      omega
    rw [hz]
    by_cases h0 : n % d = 0
    · rw [if_neg (by simp [h0])]
      simp only [h0, ne_eq, not_true_eq_false, decide_false, ratio_frac_floor.j0, Bool.false_eq_true, if_false]
    · rw [if_pos ⟨rfl, h0⟩]
      simp only [h0, ne_eq, not_false_eq_true, decide_true, ratio_frac_floor.j0, if_true]
      have h1 := small_f 1 (by omega)
      rw [show ((1 : Nat) : Int) = 1 from rfl] at h1
      rw [h1]
      simp only [Option.bind_some]
      rw [plus_f _ _ (by omega)]
      rfl
/-- a fraction and a half: its sign and size over twice the part -/
def hfS (s : Bool) (n d : Nat) : Bool × Nat := if s = true then (if d < 2 * n then (true, 2 * n - d) else (false, d - 2 * n)) else (false, 2 * n + d)
theorem hf_val (s : Bool) (n d : Nat) : valD (hfS s n d).1 (hfS s n d).2 = 2 * valD s n + d := by
  unfold valD hfS
  cases s
  · simp
  · by_cases h : d < 2 * n
    · simp [h]; omega
    · simp [h]; omega
theorem half_f (k : Nat) (s : Bool) (n d : Nat) (hn : 2 * n + d < 340282366920938463463374607431768211456) (hd : 2 * d < 340282366920938463463374607431768211456) :
    ratio_frac_half.f (k + 1) s (hiN n) (loN n) (hiN d) (loN d) = some ((hfS s n d).1, hiN (hfS s n d).2, loN (hfS s n d).2, hiN (2 * d), loN (2 * d)) := by
  unfold ratio_frac_half.f
  rw [plus_f n n (by omega)]
  simp only [Option.bind_some]
  rw [plus_f _ d (by omega)]
  simp only [Option.bind_some]
  rw [plus_f d d (by omega)]
  simp only [Option.bind_some]
  rw [show d + d = 2 * d by omega, show n + n = 2 * n by omega]
  unfold hfS
  cases s
  · rw [if_neg (by decide), if_neg (by decide)]
    simp only [ratio_frac_half.j0, Bool.false_eq_true, if_false]
  · rw [if_pos rfl, if_pos rfl, cmp_fN]
    simp only [Option.bind_some]
    by_cases h : d < 2 * n
    · have hc : decide (cmpN (2 * n) d > 0) = true := by unfold cmpN; rw [if_neg (by omega), if_neg (by omega)]; decide
      rw [if_pos h, hc]
      simp only [ratio_frac_half.j0, if_true]
      rw [minus_f _ _ (by omega) (by omega)]; rfl
    · have hc : decide (cmpN (2 * n) d > 0) = false := by
        unfold cmpN
        by_cases h2 : 2 * n = d
        · rw [if_pos h2]; decide
        · rw [if_neg h2, if_pos (by omega)]; decide
      rw [if_neg h, hc]
      simp only [ratio_frac_half.j0, Bool.false_eq_true, if_false, if_true]
      rw [minus_f _ _ (by omega) (by omega)]; rfl
/-- z / D made whole -/
def wholeZ (z : Int) (D : Nat) (how : Int) : Int := if how = 1 then z / (D : Int) else if how = 2 then (2 * z + D) / ((2 * D : Nat) : Int) else -((-z) / (D : Int))
def wholeT (z : Int) (D : Nat) (how : Int) : Int × Int :=
  if how = 1 ∨ how = 2 ∨ how = 3 then (if (wholeZ z D how).natAbs ≤ 4611686018427387904 then (wholeZ z D how, 0) else (0, 12)) else (0, 1)
theorem wj0 (k : Nat) (s : Bool) (m : Nat) (z : Int) (h : valD s m = z) : ratio_frac_whole.j0 (k + 1) s (hiN m) (loN m) = some (if z.natAbs ≤ 4611686018427387904 then (z, 0) else (0, 12)) := by
  have hm : z.natAbs = m := by rw [← h]; unfold valD; cases s <;> simp
  simp only [ratio_frac_whole.j0]
  have h1 := small_f 4611686018427387904 (by omega)
  rw [show ((4611686018427387904 : Nat) : Int) = 4611686018427387904 from rfl] at h1
  rw [h1]
  simp only [Option.bind_some]
  rw [cmp_fN]
  simp only [Option.bind_some]
  rw [hm]
  by_cases hc : m ≤ 4611686018427387904
  · have hcm : ¬ cmpN m 4611686018427387904 > 0 := by
      unfold cmpN
      by_cases h2 : m = 4611686018427387904
      · rw [if_pos h2]; decide
      · rw [if_neg h2, if_pos (by omega)]; decide
    rw [if_neg hcm, if_pos hc, loN_small (by omega), ← h]
    unfold valD
    cases s
    · rw [if_neg (by decide), if_neg (by decide)]; congr 2; unfold wrap64; omega
    · rw [if_pos rfl, if_pos rfl]; congr 2; unfold wrap64; omega
  · have hcm : cmpN m 4611686018427387904 > 0 := by unfold cmpN; rw [if_neg (by omega), if_neg (by omega)]; decide
    rw [if_pos hcm, if_neg hc]
theorem valD_not (s : Bool) (m : Nat) : valD (!s) m = -valD s m := by unfold valD; cases s <;> simp
theorem whole_f (k : Nat) (s : Bool) (n d : Nat) (how : Int) (hn : 2 * n + d < 340282366920938463463374607431768211455) (hd0 : 0 < d) (hd : 2 * d < 340282366920938463463374607431768211456) :
    ratio_frac_whole.f (k + 1) s (hiN n) (loN n) (hiN d) (loN d) how = some (wholeT (valD s n) d how) := by
  unfold ratio_frac_whole.f wholeT
  by_cases h1 : how = 1
  · rw [if_pos h1, if_pos (.inl h1), floor_f k s n d (by omega) hd0 (by omega)]
    simp only [Option.bind_some]
    unfold wholeZ
    rw [if_pos h1]
    exact wj0 k s _ _ (flN_val s n d hd0)
  · rw [if_neg h1]
    by_cases h2 : how = 2
    · rw [if_pos h2, if_pos (.inr (.inl h2)), half_f k s n d (by omega) hd]
      simp only [Option.bind_some]
      have hb : (hfS s n d).2 ≤ 2 * n + d := by
        unfold hfS; cases s
        · simp
        · by_cases h : d < 2 * n <;> simp [h] <;> omega
      rw [floor_f k _ _ (2 * d) (by omega) (by omega) hd]
      simp only [Option.bind_some]
      unfold wholeZ
      rw [if_neg h1, if_pos h2]
      refine wj0 k _ _ _ ?_
      rw [flN_val _ _ _ (by omega), hf_val]
    · rw [if_neg h2]
      by_cases h3 : how = 3
      · rw [if_pos h3, if_pos (.inr (.inr h3)), floor_f k (!s) n d (by omega) hd0 (by omega)]
        simp only [Option.bind_some]
        unfold wholeZ
        rw [if_neg h1, if_neg h2]
        refine wj0 k _ _ _ ?_
        rw [valD_not, flN_val _ _ _ hd0, valD_not]
      · rw [if_neg h3, if_neg (by omega)]
theorem valD_mul (a t : Int) : valD (decide (a < 0) != decide (t < 0)) (a.natAbs * t.natAbs) = a * t := sgn_mul a t
theorem size_f (n : Int) (h0 : -9223372036854775808 ≤ n) (h1 : n ≤ 9223372036854775807) : ratio_size.f n = some (n.natAbs : Int) := by
  unfold ratio_size.f
  by_cases h : n < 0
  · rw [if_pos h]; simp only [U64.wrap_u64, wrap64]; congr 1; omega
  · rw [if_neg h]; simp only [U64.wrap_u64]; congr 1; omega
theorem mul_f (x y : Nat) (hx : x < 18446744073709551616) (hy : y < 18446744073709551616) : ratio_mul.f (x : Int) (y : Int) = some (hiN (x * y), loN (x * y)) := by
  unfold ratio_mul.f bits_Mul64.f
  rw [if_pos (by simp only [u64ok_iff]; omega)]
  simp only [Option.bind_some, hiN, loN, Int.natCast_ediv, Int.natCast_emod, Int.natCast_mul]
  rfl
def bigM : Nat := 42535295865117307932921825928971026432
theorem mul_bd {x y : Nat} (hx : x ≤ 4611686018427387904) (hy : y ≤ 9223372036854775808) : x * y ≤ bigM := Nat.le_trans (Nat.mul_le_mul hx hy) (by decide)
theorem whole_g (k : Nat) (s : Bool) (m d : Nat) (how z : Int) (hm : m ≤ bigM) (hd0 : 0 < d) (hd : d ≤ 2147483648) (hz : valD s m = z) :
    ((ratio_frac_whole.f (k + 1) s (hiN m) (loN m) (hiN d) (loN d) how).bind fun bt => some (bt.1, bt.2)) = some (wholeT z d how) := by
  unfold bigM at hm
  rw [whole_f k s m d how (by omega) hd0 (by omega), hz]
  simp only [Option.bind_some, Prod.eta]
theorem Whole_f (k : Nat) (a b t how : Int) (ha : -9223372036854775808 ≤ a ∧ a ≤ 9223372036854775807) (hb : -9223372036854775808 ≤ b ∧ b ≤ 9223372036854775807) (ht : -9223372036854775808 ≤ t ∧ t ≤ 9223372036854775807) :
    ratio_Whole.f (k + 1) a b t how = some (if rightS a b = true then wholeT (a * t) b.toNat how else (0, 12)) := by
  unfold ratio_Whole.f ratio_Right.f
  rw [if_pos ⟨i64ok_iff.mpr ha, i64ok_iff.mpr hb⟩]
  simp only [Option.bind_some]
  by_cases h : rightS a b = true
  · obtain ⟨b1, b2, b3, _⟩ := right_bounds h
    have hw : IntKind.u64.wrap b = ((b.toNat : Nat) : Int) := by rw [U64.wrap_u64]; omega
    have h1 : a.natAbs < 18446744073709551616 := by omega
    have h2 : t.natAbs < 18446744073709551616 := by omega
    have h3 : b.toNat < 18446744073709551616 := by omega
    have h4 : 0 < b.toNat := by omega
    have h5 : b.toNat ≤ 2147483648 := by omega
    have h6 : t.natAbs ≤ 9223372036854775808 := by omega
    rw [if_pos h, if_pos h, size_f a ha.1 ha.2, size_f t ht.1 ht.2]
    simp only [Option.bind_some]
    rw [mul_f _ _ h1 h2, hw, small_f _ h3]
    simp only [Option.bind_some]
    exact whole_g k _ _ _ how _ (mul_bd b3 h6) h4 h5 (valD_mul a t)
  · rw [if_neg h, if_neg h]
end Go.Proofs.YtofndakpenpkbaaDoor.PA
