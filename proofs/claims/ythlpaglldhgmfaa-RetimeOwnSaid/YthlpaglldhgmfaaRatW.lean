/- The wide numbers' calls, told of natural numbers below 2^128. -/
import Derived.Test.YthlpaglldhgmfaaPAx4
import Derived.Test.YthlpaglldhgmfaaPAx4
import Derived.Test.YthlpaglldhgmfaaPAx4
namespace Go.Proofs.Ythlpaglldhgmfaa.PA
open Go.RowKit Go.Proofs.YthlpaglldhgmfaaW.PrintWords Go.Proofs.YthlpaglldhgmfaaW.PrintLast Go.Proofs.YthlpaglldhgmfaaW.PrintMore
theorem hiN_ok {x : Nat} (h : x < 340282366920938463463374607431768211456) : u64ok (hiN x) = true := by rw [u64ok_iff]; unfold hiN; omega
theorem loN_ok (x : Nat) : u64ok (loN x) = true := by rw [u64ok_iff]; unfold loN; omega
theorem wvN_hl (x : Nat) : wvN (hiN x) (loN x) = x := by unfold wvN hiN loN; omega
theorem hl_inj {x y : Nat} (h1 : hiN x = hiN y) (h2 : loN x = loN y) : x = y := by unfold hiN at h1; unfold loN at h2; omega
theorem hiN_small {x : Nat} (h : x < 18446744073709551616) : hiN x = 0 := by unfold hiN; omega
theorem loN_small {x : Nat} (h : x < 18446744073709551616) : loN x = (x : Int) := by unfold loN; omega
theorem over_any (X Y : Nat) (hX : X < 340282366920938463463374607431768211456) (hY0 : 0 < Y) (hY : Y < 340282366920938463463374607431768211456) (w : World) :
    Calls Try.prog 109 #[.agg #[.int .u64 (hiN X), .int .u64 (loN X)], .agg #[.int .u64 (hiN Y), .int .u64 (loN Y)]] w fun e w' =>
      e = .returned (.tuple #[.agg #[.int .u64 (hiN (X / Y)), .int .u64 (loN (X / Y))], .agg #[.int .u64 (hiN (X % Y)), .int .u64 (loN (X % Y))]]) ∧ Below w.heap.size w w' :=
  ratio_wide_over.calls _ _ _ _ _ _ _ _ w (by
    unfold ratio_wide_over.f
    rw [if_pos ⟨hiN_ok hX, loN_ok X, hiN_ok hY, loN_ok Y, by rw [wvN_hl]; omega⟩, wvN_hl, wvN_hl])
theorem plus_any (X Y : Nat) (h : X + Y < 340282366920938463463374607431768211456) (w : World) :
    Calls Try.prog 82 #[.agg #[.int .u64 (hiN X), .int .u64 (loN X)], .agg #[.int .u64 (hiN Y), .int .u64 (loN Y)]] w fun e w' =>
      e = .returned (.agg #[.int .u64 (hiN (X + Y)), .int .u64 (loN (X + Y))]) ∧ Below w.heap.size w w' :=
  ratio_wide_plus.calls _ _ _ _ _ _ w (by
    unfold ratio_wide_plus.f
    rw [if_pos (by unfold hiN loN hi64; omega)]
    unfold hiN loN hi64 lo64
    congr 2 <;> omega)
theorem minus_any (X Y : Nat) (hX : X < 340282366920938463463374607431768211456) (h : Y ≤ X) (w : World) :
    Calls Try.prog 83 #[.agg #[.int .u64 (hiN X), .int .u64 (loN X)], .agg #[.int .u64 (hiN Y), .int .u64 (loN Y)]] w fun e w' =>
      e = .returned (.agg #[.int .u64 (hiN (X - Y)), .int .u64 (loN (X - Y))]) ∧ Below w.heap.size w w' :=
  ratio_wide_minus.calls _ _ _ _ _ _ w (ov_minus h hX)
/-- how two stand to each other -/
def cmpN (X Y : Nat) : Int := if X = Y then 0 else if X < Y then -1 else 1
theorem cmp_any (X Y : Nat) (w : World) :
    Calls Try.prog 52 #[.agg #[.int .u64 (hiN X), .int .u64 (loN X)], .agg #[.int .u64 (hiN Y), .int .u64 (loN Y)]] w fun e w' =>
      e = .returned (.int .i64 (cmpN X Y)) ∧ Below w.heap.size w w' :=
  ratio_wide_cmp.calls _ _ _ _ _ w (by
    unfold ratio_wide_cmp.f
    rw [ov_cmp]
    unfold cmpN
    by_cases h : X = Y
    · subst h; simp
    · by_cases h2 : X < Y
      · rw [if_neg (by omega : ¬ Y ≤ X), if_neg h, if_pos h2]
      · rw [if_pos (by omega : Y ≤ X), if_neg h, if_neg h, if_neg h2])
theorem mul_any (x y : Nat) (hx : x < 18446744073709551616) (hy : y < 18446744073709551616) (w : World) :
    Calls Try.prog 50 #[.int .u64 (x : Int), .int .u64 (y : Int)] w fun e w' =>
      e = .returned (.agg #[.int .u64 (hiN (x * y)), .int .u64 (loN (x * y))]) ∧ Below w.heap.size w w' :=
  ratio_mul.calls _ _ _ _ w (by
    unfold ratio_mul.f bits_Mul64.f
    rw [if_pos (by simp only [u64ok_iff]; omega)]
    simp only [Option.bind_some, hiN, loN, Int.natCast_ediv, Int.natCast_emod, Int.natCast_mul]
    rfl)
theorem small_any (x : Nat) (hx : x < 18446744073709551616) (w : World) :
    Calls Try.prog 87 #[.int .u64 (x : Int)] w fun e w' =>
      e = .returned (.agg #[.int .u64 (hiN x), .int .u64 (loN x)]) ∧ Below w.heap.size w w' :=
  ratio_small.calls _ _ _ w (by unfold ratio_small.f; rw [hiN_small hx, loN_small hx])
theorem size_any (n : Int) (h0 : -9223372036854775808 ≤ n) (h1 : n ≤ 9223372036854775807) (w : World) :
    Calls Try.prog 51 #[.int .i64 n] w fun e w' => e = .returned (.int .u64 (n.natAbs : Int)) ∧ Drawn0 w w' :=
  ratio_size.calls _ _ w (by
    unfold ratio_size.f
    by_cases h : n < 0
    · rw [if_pos h]; simp only [U64.wrap_u64, wrap64]; congr 1; omega
    · rw [if_neg h]; simp only [U64.wrap_u64]; congr 1; omega)
end Go.Proofs.Ythlpaglldhgmfaa.PA
