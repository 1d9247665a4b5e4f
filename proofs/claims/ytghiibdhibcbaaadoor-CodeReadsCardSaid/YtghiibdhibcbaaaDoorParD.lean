/- Decimal numerals: their digits, their value; cutting and trimming at a byte, in plain lists. -/
import Derived.Lib.ItoaNum
import Derived.Lib.IndexMore
import Derived.Lib.IndexBytes
import Derived.Lib.SlTrimSet
import Derived.Lib.TrimByte
namespace Go.Proofs.YtghiibdhibcbaaaDoor.ParD
open Go.Lib
def isDig (c : UInt8) : Prop := 48 ≤ c.toNat ∧ c.toNat ≤ 57
/-- digits as a number -/
def val (l : List UInt8) : Nat := l.foldl (fun n c => 10 * n + (c.toNat - 48)) 0
theorem dec_small {u : Nat} (h : u < 10) : decDigits u = [UInt8.ofNat (48 + u)] := by rw [decDigits, dif_pos h]
theorem dec_big {u : Nat} (h : ¬ u < 10) : decDigits u = decDigits (u / 10) ++ [UInt8.ofNat (48 + u % 10)] := by rw [decDigits, dif_neg h]
def digits10 : List UInt8 := [48, 49, 50, 51, 52, 53, 54, 55, 56, 57]
theorem index_at (l r : List UInt8) (c : UInt8) (h : c ∉ l) : indexByte (l ++ c :: r) c = (l.length : Int) := by
  induction l with
  | nil => simp [indexByte]
  | cons b l ih =>
    have hb : (b == c) = false := by simp; rintro rfl; exact h List.mem_cons_self
    rw [List.cons_append]
    unfold indexByte
    rw [hb, ih (fun x => h (List.mem_cons_of_mem _ x))]
    have e : (((l.length : Nat) : Int) == -1) = false := by simp
    rw [e]; simp
theorem cut_at (l r : List UInt8) (c : UInt8) (h : c ∉ l) : cut (l ++ c :: r) [c] = (l, r, true) := by
  unfold cut
  rw [index_one, index_at l r c h, if_pos (by omega), Int.toNat_natCast]
  simp
end Go.Proofs.YtghiibdhibcbaaaDoor.ParD
