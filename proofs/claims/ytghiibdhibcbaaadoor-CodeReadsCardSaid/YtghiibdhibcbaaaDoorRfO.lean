/- The reference: Number told at all inputs. -/
import Derived.Test.YtghiibdhibcbaaaDoorRfN
import Derived.Test.YtghiibdhibcbaaaDoorCodR
namespace Go.Proofs.YtghiibdhibcbaaaDoor.PA
open Go Go.RowKit Go.Proofs.YtghiibdhibcbaaaDoor.CS
set_option linter.unusedSimpArgs false
set_option linter.unusedVariables false
theorem tl_nil {S : ByteArray} {a : Nat} (h : a ≤ S.size) : tl S a = [] ↔ a = S.size := by
  rw [← List.length_eq_zero_iff, tl_len]; omega
theorem rhrs_le (S : ByteArray) (a : Nat) (b : Bool) (least : Nat) (h : a ≤ S.size) : (rhrsS S a b least).2.1 ≤ S.size := by
  have hl := run_le (tl S a)
  rw [tl_len] at hl
  unfold rhrsS
  split
  · exact h
  · unfold rnumS
    rw [show S.data.toList.drop a = tl S a from rfl]
    split <;> (dsimp only; omega)
end Go.Proofs.YtghiibdhibcbaaaDoor.PA
