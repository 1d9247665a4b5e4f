/- RateText told at all inputs. -/
import Derived.Test.YtghiibdhibcbaaaDoorRtxT
namespace Go.Proofs.YtghiibdhibcbaaaDoor.PA
open Go Go.RowKit Go.Proofs.YtghiibdhibcbaaaDoor.CS
set_option linter.unusedSimpArgs false
set_option linter.unusedVariables false
/-- a rate as text -/
def rtxL (n d : Int) (dr : Bool) : List UInt8 := Lib.itoa n ++ ((if d = 1 then [] else 47 :: Lib.itoa d) ++ (if dr = true then [100] else []))
def rtxS (n d : Int) (dr : Bool) : List UInt8 × Int := if okR n d dr = true then (rtxL n d dr, 0) else ([], 14)
theorem rtxL_1f (n : Int) : bs (rtxL n 1 false) = bs (Lib.itoa n) := by unfold rtxL; simp
theorem rtxL_1t (n : Int) : bs (rtxL n 1 true) = bs (Lib.itoa n) ++ (⟨#[100]⟩ : ByteArray) := by unfold rtxL; rw [show (⟨#[100]⟩ : ByteArray) = bs [100] from rfl, bs_cat]; simp
theorem rtxL_2f (n d : Int) (h : d ≠ 1) : bs (rtxL n d false) = bs (Lib.itoa n) ++ ((⟨#[47]⟩ : ByteArray) ++ bs (Lib.itoa d)) := by unfold rtxL; rw [show (⟨#[47]⟩ : ByteArray) = bs [47] from rfl, bs_cat, bs_cat, if_neg h]; simp
theorem rtxL_2t (n d : Int) (h : d ≠ 1) : bs (rtxL n d true) = bs (Lib.itoa n) ++ ((⟨#[47]⟩ : ByteArray) ++ bs (Lib.itoa d)) ++ (⟨#[100]⟩ : ByteArray) := by
  unfold rtxL; rw [show (⟨#[47]⟩ : ByteArray) = bs [47] from rfl, show (⟨#[100]⟩ : ByteArray) = bs [100] from rfl, bs_cat, bs_cat, bs_cat, if_neg h]; simp
theorem assoc3 (a b c : ByteArray) : a ++ (b ++ c) = a ++ b ++ c := (ByteArray.append_assoc).symm
theorem digL_1 {n : Int} (h : 0 ≤ n) : digL n 1 = Lib.itoa n := by
  unfold digL
  have : 1 ≤ (Lib.itoa n).length := by have := itoa_one n; rw [bs_size] at this; exact this
  rw [show 1 - (Lib.itoa n).length = 0 by omega]; rfl
theorem ctext_any (n d : Int) (dr : Bool) (w : World) (ht : TabN w) :
    Calls Tryd.prog 35 #[rate n d dr] w fun e w' => e = .returned (.tuple #[.string (bs (rtxS n d dr).1), .int .i64 (rtxS n d dr).2]) ∧ Below w.heap.size w w' := by
  have m1 := check_any n d dr
  unfold checkS at m1
  unfold rtxS
  by_cases h : okR n d dr = true
  · rw [if_pos h] at m1 ⊢
    obtain ⟨n1, n2, d1, d2, _, _, _, _⟩ := okR_iff.mp h
    have m2 := citoa_any n (by omega) (by omega)
    have m3 := citoa_any d (by omega) (by omega)
    dsimp only
    by_cases hd : d = 1
    · subst hd
      cases dr
      · rw [rtxL_1f]; exact ctext_1f n _ (itoa_len _ (by omega) (by omega)) w ht m1 m2
      · rw [rtxL_1t]; exact ctext_1t n _ (itoa_len _ (by omega) (by omega)) w ht m1 m2
    · cases dr
      · rw [rtxL_2f n d hd]; exact ctext_2f n d _ _ (itoa_len _ (by omega) (by omega)) (itoa_len _ (by omega) (by omega)) (beq_f hd) w ht m1 m2 m3
      · rw [rtxL_2t n d hd]; exact ctext_2t n d _ _ (itoa_len _ (by omega) (by omega)) (itoa_len _ (by omega) (by omega)) (beq_f hd) w ht m1 m2 m3
  · rw [if_neg h] at m1 ⊢; exact ctext_bad n d 14 dr (by decide) w m1
theorem rtext_any (n d : Int) (dr : Bool) (w : World) :
    Calls Tryd.prog 37 #[rate n d dr] w fun e w' => e = .returned (.tuple #[.string (bs (rtxS n d dr).1), .int .i64 (rtxS n d dr).2]) ∧ Below w.heap.size w w' := by
  have m1 := rcheck_any n d dr
  unfold checkS at m1
  unfold rtxS
  by_cases h : okR n d dr = true
  · rw [if_pos h] at m1 ⊢
    obtain ⟨n1, n2, d1, d2, _, _, _, _⟩ := okR_iff.mp h
    have m2 := rdigits1 n (by omega) (by omega)
    have m3 := rdigits1 d (by omega) (by omega)
    rw [digL_1 (by omega)] at m2 m3
    dsimp only
    by_cases hd : d = 1
    · subst hd
      cases dr
      · rw [rtxL_1f]; exact rtext_1f n _ (itoa_len _ (by omega) (by omega)) w m1 m2
      · rw [rtxL_1t]; exact rtext_1t n _ (itoa_len _ (by omega) (by omega)) w m1 m2
    · cases dr
      · rw [rtxL_2f n d hd, assoc3]; exact rtext_2f n d _ _ (itoa_len _ (by omega) (by omega)) (itoa_len _ (by omega) (by omega)) (beq_f hd) w m1 m2 m3
      · rw [rtxL_2t n d hd, assoc3]; exact rtext_2t n d _ _ (itoa_len _ (by omega) (by omega)) (itoa_len _ (by omega) (by omega)) (beq_f hd) w m1 m2 m3
  · rw [if_neg h] at m1 ⊢; exact rtext_bad n d 14 dr (by decide) w m1
end Go.Proofs.YtghiibdhibcbaaaDoor.PA
