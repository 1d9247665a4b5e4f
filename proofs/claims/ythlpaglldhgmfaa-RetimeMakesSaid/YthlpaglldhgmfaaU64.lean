/- Whole numbers of 64 bits: what the model's wraps, masks and joins are, in plain arithmetic. -/
import Derived.Laws.BitsLemmas
import Derived.Test.YthlpaglldhgmfaaXW
import Derived.Lib.ItoaNum
namespace Go.Proofs.Ythlpaglldhgmfaa.U64
open Go Go.Proofs.YthlpaglldhgmfaaW.PrintWords Go.Proofs.YthlpaglldhgmfaaW.PrintLast Go.Proofs.YthlpaglldhgmfaaW.PrintMore
def W64 : Int := 18446744073709551616
theorem wrap_u64 (n : Int) : IntKind.u64.wrap n = n % 18446744073709551616 := by simp [IntKind.wrap, IntKind.bits, IntKind.signed]
theorem wrap_u64_in {n : Int} (h0 : 0 ≤ n) (h1 : n < 18446744073709551616) : IntKind.u64.wrap n = n := by rw [wrap_u64]; omega
theorem wraps_u64 (n : Int) (h₀ : 0 ≤ n) (h₁ : n < 2 ^ 64) : IntKind.u64.wrap n = n := wrap_u64_in h₀ (by simpa using h₁)
theorem and32 {x : Int} (h0 : 0 ≤ x) (h1 : x < 18446744073709551616) : Go.bits .and .u64 x 4294967295 = x % 4294967296 :=
  bits_mask .u64 64 (by decide) wraps_u64 32 (by decide) x h0 (by simpa using h1)
theorem and1 {x : Int} (h0 : 0 ≤ x) (h1 : x < 18446744073709551616) : Go.bits .and .u64 x 1 = x % 2 :=
  bits_mask .u64 64 (by decide) wraps_u64 1 (by decide) x h0 (by simpa using h1)
theorem or_join (i : Nat) {x y : Int} (hx0 : 0 ≤ x) (hx : x % 2 ^ i = 0) (hx1 : x < 18446744073709551616) (hy0 : 0 ≤ y) (hy : y < 2 ^ i) (hy1 : y < 18446744073709551616) :
    Go.bits .or .u64 x y = x + y :=
  bits_join .u64 64 (by decide) wraps_u64 i x y hx0 hx (by simpa using hx1) hy0 hy (by simpa using hy1)
theorem shl_u64 {x s : Int} (h0 : 0 ≤ s) (h1 : s ≤ 64) : shl .u64 x s = (x * 2 ^ s.toNat) % 18446744073709551616 := by
  unfold shl
  rw [wrap_u64, Nat.min_eq_left (by show s.toNat ≤ 64; omega)]
theorem shr_u64 {x s : Int} (h0 : 0 ≤ s) (h1 : s ≤ 64) : shr .u64 x s = x / 2 ^ s.toNat := by
  unfold shr
  rw [Nat.min_eq_left (by show s.toNat ≤ 64; omega)]
theorem and63 {j : Int} (h0 : 0 ≤ j) (h1 : j ≤ 127) : Go.bits .and .i64 j 63 = j % 64 :=
  bits_mask .i64 63 (by decide) (fun n a b => by rw [IntKind.wrap_i64]; have : n < 9223372036854775808 := by simpa using b
                                                 omega) 6 (by decide) j h0 (by simpa using (show j < 9223372036854775808 by omega))
end Go.Proofs.Ythlpaglldhgmfaa.U64
namespace Go.Proofs.Ythlpaglldhgmfaa
def u64ok (x : Int) : Bool := decide (0 ≤ x) && decide (x ≤ 18446744073709551615)
theorem u64ok_iff {x : Int} : u64ok x = true ↔ 0 ≤ x ∧ x ≤ 18446744073709551615 := by simp [u64ok]
end Go.Proofs.Ythlpaglldhgmfaa
