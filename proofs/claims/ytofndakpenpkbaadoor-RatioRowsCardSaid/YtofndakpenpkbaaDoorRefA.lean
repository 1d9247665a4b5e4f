/- The reference's wide numbers in plain arithmetic: what the printed functions of ref3 tell. -/
import Derived.Test.YtofndakpenpkbaaDoorPRx1
import Derived.Test.YtofndakpenpkbaaDoorRatW
namespace Go.Proofs.YtofndakpenpkbaaDoor.PA
open Go.RowKit Go.Proofs.YtofndakpenpkbaaDoorW.PrintWords Go.Proofs.YtofndakpenpkbaaDoorW.PrintLast Go.Proofs.YtofndakpenpkbaaDoorW.PrintMore Go.Proofs.YtofndakpenpkbaaDoor.PR
set_option linter.unusedSimpArgs false
set_option linter.unusedVariables false
theorem above_any (n m : Bool) (a b : Nat) : surtitleref3_above.f n (hiN a) (loN a) m (hiN b) (loN b) = some (decide (b < a)) := by
  unfold surtitleref3_above.f hiN loN
  by_cases h1 : ((a / 18446744073709551616 : Nat) : Int) > ((b / 18446744073709551616 : Nat) : Int)
  · rw [if_pos h1]; congr 1; symm; rw [decide_eq_true_eq]; omega
  · rw [if_neg h1]
    by_cases h2 : ((a / 18446744073709551616 : Nat) : Int) = ((b / 18446744073709551616 : Nat) : Int)
    · rw [if_pos h2]; congr 1; rw [decide_eq_decide]; omega
    · rw [if_neg h2]; congr 1; symm; rw [decide_eq_false_iff_not]; omega
theorem sh_hi {A : Nat} (hA : A < 340282366920938463463374607431768211456) : Go.bits .or .u64 (IntKind.u64.wrap (hiN A * 2)) (loN A / 9223372036854775808) = hiN (2 * A % 340282366920938463463374607431768211456) := by
  unfold hiN loN
  rw [U64.wrap_u64, U64.or_join 1 (by omega) (by omega) (by omega) (by omega) (by omega) (by omega)]
  omega
theorem sh_lo {A : Nat} : IntKind.u64.wrap (loN A * 2) = loN (2 * A % 340282366920938463463374607431768211456) := by
  unfold loN
  rw [U64.wrap_u64]; omega
theorem sh_bit {A : Nat} (hA : A < 340282366920938463463374607431768211456) : hiN A / 9223372036854775808 = ((A / 170141183460469231731687303715884105728 : Nat) : Int) := by unfold hiN; omega
theorem dbl_hi {r b : Nat} (hr : r < 170141183460469231731687303715884105728) (hb : b < 2) : Go.bits .or .u64 (IntKind.u64.wrap (hiN r * 2)) (loN r / 9223372036854775808) = hiN (2 * r + b) := ov_hi hr hb
theorem dbl_lo {r b : Nat} (hb : b < 2) : Go.bits .or .u64 (IntKind.u64.wrap (loN r * 2)) (b : Int) = loN (2 * r + b) := ov_lo hb
theorem dbl_lo0 {r : Nat} : IntKind.u64.wrap (loN r * 2) = loN (2 * r) := by unfold loN; rw [U64.wrap_u64]; omega
theorem sub_hi1 {r Y : Nat} (h : Y ≤ r) (hr : r < 340282366920938463463374607431768211456) (hl : loN r < loN Y) : IntKind.u64.wrap (IntKind.u64.wrap (hiN r - hiN Y) - 1) = hiN (r - Y) := by
  unfold hiN loN at *
  rw [U64.wrap_u64, U64.wrap_u64]; omega
theorem sub_hi0 {r Y : Nat} (h : Y ≤ r) (hr : r < 340282366920938463463374607431768211456) (hl : ¬ loN r < loN Y) : IntKind.u64.wrap (hiN r - hiN Y) = hiN (r - Y) := by
  unfold hiN loN at *
  rw [U64.wrap_u64]; omega
theorem sub_lo {r Y : Nat} (h : Y ≤ r) : IntKind.u64.wrap (loN r - loN Y) = loN (r - Y) := by
  unfold loN
  rw [U64.wrap_u64]; omega
theorem divided_l0 (X Y : Nat) (hX : X < 340282366920938463463374607431768211456) (hY : 0 < Y) (n n2 : Bool) (d : Nat) : ∀ (k i : Nat), i + d = 128 → d < k →
    surtitleref3_divided.l0 k i n (hiN (X * 2 ^ i % 340282366920938463463374607431768211456)) (loN (X * 2 ^ i % 340282366920938463463374607431768211456)) n2 (hiN Y) (loN Y) false (hiN (X / 2 ^ (128 - i) / Y)) (loN (X / 2 ^ (128 - i) / Y)) false (hiN (X / 2 ^ (128 - i) % Y)) (loN (X / 2 ^ (128 - i) % Y)) =
      some (false, hiN (X / Y), loN (X / Y), false, hiN (X % Y), loN (X % Y)) := by
  induction d with
  | zero =>
    intro k i hi hk
    obtain ⟨k, rfl⟩ : ∃ m, k = m + 1 := ⟨k - 1, by omega⟩
    obtain rfl : i = 128 := by omega
    simp only [surtitleref3_divided.l0]
    rw [if_neg (by decide), show (128 - 128 : Nat) = 0 from rfl, Nat.pow_zero, Nat.div_one]
  | succ d ih =>
    intro k i hi hk
    obtain ⟨k, rfl⟩ : ∃ m, k = m + 1 := ⟨k - 1, by omega⟩
    have hi128 : (i : Int) < 128 := by omega
    have hw : wrap64 ((i : Int) + 1) = ((i + 1 : Nat) : Int) := by unfold wrap64; omega
    have e1 : 128 - i = (128 - (i + 1)) + 1 := by omega
    have hT := ov_half X (128 - (i + 1))
    rw [← e1] at hT
    obtain ⟨A, hA⟩ : ∃ A, X * 2 ^ i % 340282366920938463463374607431768211456 = A := ⟨_, rfl⟩
    have hAb : A < 340282366920938463463374607431768211456 := by rw [← hA]; exact Nat.mod_lt _ (by omega)
    have hA1 : X * 2 ^ (i + 1) % 340282366920938463463374607431768211456 = 2 * A % 340282366920938463463374607431768211456 := by
      rw [Nat.pow_succ, show X * (2 ^ i * 2) = 2 * (X * 2 ^ i) by grind, Nat.mul_mod, hA, Nat.mod_eq_of_lt (show 2 < 340282366920938463463374607431768211456 by omega)]
    have hbit : A / 170141183460469231731687303715884105728 = X / 2 ^ (128 - (i + 1)) % 2 := by
      have h2 : (340282366920938463463374607431768211456 : Nat) = 170141183460469231731687303715884105728 * 2 := by decide
      have h3 : (170141183460469231731687303715884105728 : Nat) = 2 ^ i * 2 ^ (128 - (i + 1)) := by
        rw [← Nat.pow_add, show i + (128 - (i + 1)) = 127 by omega]
      rw [← hA, h2, Nat.mod_mul_right_div_self, h3, Nat.mul_comm X, Nat.mul_div_mul_left _ _ (Nat.two_pow_pos i)]
    have hTb : X / 2 ^ (128 - i) < 170141183460469231731687303715884105728 := by
      rw [e1, Nat.pow_succ, Nat.mul_comm, ← Nat.div_div_eq_div_mul]
      exact Nat.lt_of_le_of_lt (Nat.div_le_self _ _) (by omega)
    obtain ⟨T, hTe⟩ : ∃ T, X / 2 ^ (128 - i) = T := ⟨_, rfl⟩
    obtain ⟨T', hTe'⟩ : ∃ T', X / 2 ^ (128 - (i + 1)) = T' := ⟨_, rfl⟩
    obtain ⟨b, hbe⟩ : ∃ b, T' % 2 = b := ⟨_, rfl⟩
    have hb : b < 2 := by omega
    have IH := ih k (i + 1) (by omega) (by omega)
    rw [hA1, hTe'] at IH
    rw [hTe] at hTb hT ⊢
    rw [hTe', hbe] at hT hbit
    rw [hA]
    have hstep := ov_step (T := T) (T' := T') (b := b) hY hT hb
    have hq : T / Y < 170141183460469231731687303715884105728 := Nat.lt_of_le_of_lt (Nat.div_le_self _ _) hTb
    have hr : T % Y < 170141183460469231731687303715884105728 := Nat.lt_of_le_of_lt (Nat.mod_le _ _) hTb
    generalize T / Y = q at *
    generalize T % Y = r at *
    simp only [surtitleref3_divided.l0]
    rw [if_pos hi128, sh_bit hAb, hbit, dbl_hi hr hb, dbl_lo hb, dbl_hi hq (show (0 : Nat) < 2 by omega), sh_hi hAb, sh_lo, hw, above_any]
    simp only [Option.bind_some, decide_eq_true_eq, Nat.add_zero, dbl_lo0]
    by_cases hc : Y ≤ 2 * r + b
    · obtain ⟨s1, s2⟩ := hstep.1 hc
      rw [s1, s2] at IH
      rw [if_neg (by omega), sub_lo hc, show Go.bits .or .u64 (loN (2 * q)) 1 = loN (2 * q + 1) by rw [← dbl_lo (r := q) (b := 1) (by omega), dbl_lo0]; rfl]
      rw [show hiN (2 * q) = hiN (2 * q + 1) by unfold hiN; omega]
      by_cases hl : loN (2 * r + b) < loN Y
      · rw [if_pos hl, sub_hi1 hc (by omega) hl]; exact IH
      · rw [if_neg hl, sub_hi0 hc (by omega) hl]; exact IH
    · obtain ⟨s1, s2⟩ := hstep.2 hc
      rw [s1, s2] at IH
      rw [if_pos (by omega)]; exact IH
theorem divided_any (X Y : Nat) (hX : X < 340282366920938463463374607431768211456) (hY : 0 < Y) (n n2 : Bool) (k : Nat) (hk : 128 < k) :
    surtitleref3_divided.f k n (hiN X) (loN X) n2 (hiN Y) (loN Y) = some (false, hiN (X / Y), loN (X / Y), false, hiN (X % Y), loN (X % Y)) := by
  have h := divided_l0 X Y hX hY n n2 128 k 0 rfl hk
  have e : X / 2 ^ (128 - 0) = 0 := Nat.div_eq_of_lt (by simpa using hX)
  rw [e, Nat.pow_zero, Nat.mul_one, Nat.mod_eq_of_lt hX, Nat.zero_div, Nat.zero_mod] at h
  exact h
theorem common_l0 (d : Nat) : ∀ (k x y : Nat), y ≤ d → d < k → surtitleref3_common.l0 k x y = some (Nat.gcd x y : Int) := by
  induction d with
  | zero =>
    intro k x y hy hk
    obtain ⟨k, rfl⟩ : ∃ m, k = m + 1 := ⟨k - 1, by omega⟩
    obtain rfl : y = 0 := by omega
    simp only [surtitleref3_common.l0]
    rw [if_pos (show ((0 : Nat) : Int) = 0 from rfl), Nat.gcd_zero_right]
  | succ d ih =>
    intro k x y hy hk
    obtain ⟨k, rfl⟩ : ∃ m, k = m + 1 := ⟨k - 1, by omega⟩
    simp only [surtitleref3_common.l0]
    by_cases h0 : y = 0
    · subst h0; rw [if_pos (show ((0 : Nat) : Int) = 0 from rfl), Nat.gcd_zero_right]
    · have hm := Nat.mod_lt x (show 0 < y by omega)
      rw [if_neg (by omega), show Int.tmod (x : Int) (y : Int) = ((x % y : Nat) : Int) by rw [Int.tmod_eq_emod_of_nonneg (by omega)]; rfl, ih k y (x % y) (by omega) (by omega)]
      congr 1
      rw [Nat.gcd_comm x y, Nat.gcd_rec y x, Nat.gcd_comm]
theorem common_any' (x y k : Nat) (hk : y < k) : surtitleref3_common.f k x y = some (Nat.gcd x y : Int) := common_l0 y k x y (Nat.le_refl _) hk
end Go.Proofs.YtofndakpenpkbaaDoor.PA
