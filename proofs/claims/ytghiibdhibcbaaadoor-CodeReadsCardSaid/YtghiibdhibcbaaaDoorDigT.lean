/- Texts of numbers, digit by digit. -/
import Derived.Test.YtghiibdhibcbaaaDoorCodR
import Derived.Test.YtghiibdhibcbaaaDoorCodH
namespace Go.Proofs.YtghiibdhibcbaaaDoor.PA
open Go
set_option linter.unusedSimpArgs false
set_option linter.unusedVariables false
def dg (n : Nat) : UInt8 := UInt8.ofNat (48 + n % 10)
theorem dec1 {u : Nat} (h : u < 10) : Lib.decDigits u = [dg u] := by rw [ParD.dec_small h]; unfold dg; rw [Nat.mod_eq_of_lt h]
theorem dec2 {u : Nat} (h0 : 10 ≤ u) (h : u < 100) : Lib.decDigits u = [dg (u / 10), dg u] := by rw [ParD.dec_big (by omega), dec1 (by omega)]; rfl
theorem dec3 {u : Nat} (h0 : 100 ≤ u) (h : u < 1000) : Lib.decDigits u = [dg (u / 100), dg (u / 10), dg u] := by rw [ParD.dec_big (by omega), dec2 (by omega) (by omega), Nat.div_div_eq_div_mul]; rfl
theorem dg_0 {n : Nat} (h : n % 10 = 0) : dg n = 48 := by unfold dg; rw [h]; rfl
theorem digL2 {n : Int} (h0 : 0 ≤ n) (h1 : n < 100) : digL n 2 = [dg (n.toNat / 10), dg n.toNat] := by
  unfold digL; rw [itoa_nat h0]
  by_cases h : n.toNat < 10
  · rw [dec1 h, dg_0 (n := n.toNat / 10) (by omega)]; rfl
  · rw [dec2 (by omega) (by omega)]; rfl
theorem digL3 {n : Int} (h0 : 0 ≤ n) (h1 : n < 1000) : digL n 3 = [dg (n.toNat / 100), dg (n.toNat / 10), dg n.toNat] := by
  unfold digL; rw [itoa_nat h0]
  by_cases h : n.toNat < 10
  · rw [dec1 h, dg_0 (n := n.toNat / 10) (by omega), dg_0 (n := n.toNat / 100) (by omega)]; rfl
  · by_cases h2 : n.toNat < 100
    · rw [dec2 (by omega) (by omega), dg_0 (n := n.toNat / 100) (by omega)]; rfl
    · rw [dec3 (by omega) (by omega)]; rfl
theorem known_t : timF 24000 1001 false 24 = (1001, 1000, 0) := by decide
theorem known_c : clkS 1 7 2 = ([48, 48, 58, 48, 48, 58, 48, 51, 44, 53, 48, 48], 0) := by
  have h : timeS 7 2 = 0 := by decide
  unfold clkS
  rw [if_neg (by decide), if_pos h, if_pos (by decide)]
  unfold clkL clkT
  rw [show leastOf 1 = 2 from rfl, show widthOf 1 = 3 from rfl, digL2 (by decide) (by decide), digL2 (by decide) (by decide), digL2 (by decide) (by decide), digL3 (by decide) (by decide)]
  decide
theorem known_l : lblS 30000 1001 true 1800 = ([48, 48, 58, 48, 49, 58, 48, 48, 59, 48, 50], 0) := by
  unfold lblS
  rw [if_pos (by decide), if_pos (by decide)]
  unfold labL labT
  rw [show wide (CS.full 30000 1001) = 2 from by decide, digL2 (by decide) (by decide), digL2 (by decide) (by decide), digL2 (by decide) (by decide), digL2 (by decide) (by decide)]
  decide
theorem known_n : nmbS 30000 1001 true [48, 48, 58, 48, 49, 58, 48, 48, 59, 48, 49] = (0, 15) := by decide
end Go.Proofs.YtghiibdhibcbaaaDoor.PA
