/- CodeTens. -/
import Derived.Test.YtghiibdhibcbaaaDoorLwTen
import Derived.Test.YtghiibdhibcbaaaDoorLabR
import Derived.Test.YtghiibdhibcbaaaDoorCodR
namespace Go.Proofs.YtghiibdhibcbaaaDoor.PA
open Go Go.RowKit Go.Proofs.YtghiibdhibcbaaaDoor.CS Go.ChangeShapes Go.WideShapes
set_option linter.unusedVariables false
theorem full_bound {n d : Int} {dr : Bool} (o : Ok n d dr) : full n d * d ≤ 2 * n := by
  obtain ⟨n1, n2, d1, d2, _, h2, _, _⟩ := o
  have h := Int.ediv_mul_le (n + d - 1) (show d ≠ 0 by omega)
  unfold full
  omega
/-- each ten minutes -/
theorem nmb_tens {n d k : Int} {dr : Bool} (h : okR n d dr = true) (k0 : 0 ≤ k) (k1 : k < 144) :
    nmbS n d dr (labT dr (k / 6) (k % 6 * 10) 0 0 (wide (full n d))) = ((600 * full n d - 9 * drop n d dr) * k, 0) := by
  have o := okR_iff.mp h
  obtain ⟨f0, f1⟩ := full_le o
  obtain ⟨D0, D1⟩ := @drop_le n d dr
  have hfd := full_bound o
  have hl := (last_le o).2.2.2
  have hd1 := o.d1
  unfold nmbS
  rw [if_pos h, labO_labT (by omega) (by omega) (by omega) (by omega) (by decide) (by decide) (by decide) (by omega) (by omega)]
  dsimp only
  unfold valS
  rw [if_neg (by rintro ⟨_, _, h3, _⟩; omega)]
  have e : said n d (k / 6) (k % 6 * 10) 0 0 - drop n d dr * (60 * (k / 6) + k % 6 * 10 - (60 * (k / 6) + k % 6 * 10) / 10) = (600 * full n d - 9 * drop n d dr) * k := by
    unfold said
    rw [show 60 * (k / 6) + k % 6 * 10 = 10 * k by omega, show 10 * k / 10 = k by omega]
    grind
  rw [e, if_pos]
  rw [inF_iff]
  have hDF : drop n d dr = 0 ∨ 30 ≤ full n d := by rcases o.kinds with ⟨_, h⟩ | ⟨_, _, _, _, h⟩ | ⟨_, _, _, _, h⟩ <;> omega
  have z0 : 0 ≤ (600 * full n d - 9 * drop n d dr) * k := Int.mul_nonneg (by omega) k0
  refine ⟨z0, ?_⟩
  have z1 : (600 * full n d - 9 * drop n d dr) * k ≤ 600 * full n d * 143 := Int.mul_le_mul (by omega) (by omega) k0 (by omega)
  rcases Int.lt_or_le (last n d) ((600 * full n d - 9 * drop n d dr) * k) with hlt | hle
  · exfalso
    have y1 : (last n d + 1) * d ≤ 600 * full n d * 143 * d := Int.mul_le_mul_of_nonneg_right (by omega) (by omega)
    have y2 : 600 * full n d * 143 * d = 85800 * (full n d * d) := by grind
    have n1 := o.n1
    omega
  · exact hle
theorem bs_tens (dr : Bool) (a b z : List UInt8) : bs (a ++ 58 :: (b ++ 58 :: ([48, 48] ++ (if dr = true then 59 else 58) :: z))) = bs a ++ (⟨#[58]⟩ : ByteArray) ++ bs b ++ (⟨#[58, 48, 48]⟩ : ByteArray) ++ (if dr = true then ⟨#[59]⟩ else ⟨#[58]⟩) ++ bs z := by
  have e1 : (⟨#[58]⟩ : ByteArray) = bs [58] := rfl
  have e2 : (⟨#[58, 48, 48]⟩ : ByteArray) = bs [58, 48, 48] := rfl
  have e3 : (if dr = true then (⟨#[59]⟩ : ByteArray) else ⟨#[58]⟩) = bs [if dr = true then 59 else 58] := by cases dr <;> rfl
  rw [e3, e1, e2, bs_cat, bs_cat, bs_cat, bs_cat, bs_cat]
  congr 1
  simp
theorem tens5_true (n d : Int) (dr : Bool) (t : Int) (hn : (Lit.int .i64 n).wf = true) (hd : (Lit.int .i64 d).wf = true) (hv : (Lit.int .i64 t).wf = true) (w : World) (ht : TabN w) :
    Calls Tryd.prog 9 #[rate n d dr, .int .i64 t] w fun e w' => e = .returned (.bool true) ∧ Below w.heap.size w w' := by
  have m1 := rcheck_any n d dr
  unfold checkS at m1
  by_cases h : okR n d dr = true
  · rw [if_pos h] at m1
    have o := okR_iff.mp h
    obtain ⟨f0, f1⟩ := full_le o
    have k0 := Int.emod_nonneg t (show (144 : Int) ≠ 0 by decide)
    have k1 := Int.emod_lt_of_pos t (show (0 : Int) < 144 by decide)
    have m2 := within5_any t 144 (by decide) (by decide)
    obtain ⟨k, hk⟩ : ∃ k, t % 144 = k := ⟨_, rfl⟩
    rw [hk] at k0 k1 m2
    have m3 := two_any (k / 6) (by omega) (by omega)
    have m4 := two_any (k % 6 * 10) (by omega) (by omega)
    have m5 := three_any 0 (full n d) (by decide) (by omega) f1
    have hnm := nmb_tens h k0 k1
    have m6 := fun w ht => cnumber_any n d dr (labT dr (k / 6) (k % 6 * 10) 0 0 (wide (full n d))) w ht
    rw [hnm] at m6
    have e0 : digL 0 2 = [48, 48] := by rw [digL2 (by decide) (by decide)]; decide
    unfold labT at m6
    rw [e0, bs_tens] at m6
    dsimp only at m6
    have z1 : (bs (digL (k / 6) 2)).size = 2 := by rw [bs_size, (digs2 (n := k / 6) (by omega) (by omega)).len]
    have z2 : (bs (digL (k % 6 * 10) 2)).size = 2 := by rw [bs_size, (digs2 (n := k % 6 * 10) (by omega) (by omega)).len]
    have z3 : (bs (digL 0 (wide (full n d)))).size ≤ 3 := by
      unfold wide
      split
      · rw [bs_size, (digs3 (n := 0) (by decide) (by decide)).len]; decide
      · rw [bs_size, (digs2 (n := 0) (by decide) (by decide)).len]; decide
    obtain ⟨n1, n2, d1, d2, o5, o6, o7, o8⟩ := o
    have o := okR_iff.mp h
    have hfd := full_bound o
    have hF : (n + d - 1) / d = full n d := rfl
    rcases o.kinds with ⟨rfl, hD⟩ | ⟨rfl, rfl, rfl, hD, hf⟩ | ⟨rfl, rfl, rfl, hD, hf⟩
    · rw [hD] at m6
      rw [show 600 * full n d - 9 * 0 = 600 * full n d by omega] at m6
      have q0 : 0 ≤ 600 * full n d * k := Int.mul_nonneg (by omega) k0
      have q1 : 600 * full n d * k ≤ 600 * 240 * 143 := Int.mul_le_mul (by omega) (by omega) k0 (by decide)
      by_cases hw : 100 < full n d
      · rw [decide_eq_true hw] at m5
        exact tens_false_w n d t k _ _ (full n d) _ _ 0 0 0 _ _ _ n1 n2 d1 d2 k0 k1 rfl rfl z1 z2 z3 hF f0 f1 hw rfl rfl q0 (by omega) w ht known_any m1 m2 m3 m4 m5 m6
      · rw [decide_eq_false hw] at m5
        exact tens_false n d t k _ _ (full n d) _ _ 0 0 0 _ _ _ n1 n2 d1 d2 k0 k1 rfl rfl z1 z2 z3 hF f0 f1 (by omega) rfl rfl q0 (by omega) w ht known_any m1 m2 m3 m4 m5 m6
    · rw [hD, hf] at m6
      rw [hf] at m5 z3 hF
      exact tens_true 30000 1001 t k _ _ 30 17982 (17982 * k) (k * 600 * 30000) (17982 * k * 1001) (18 * k) _ _ _ n1 n2 d1 d2 k0 k1 rfl rfl z1 z2 z3 hF (by decide) (by decide) (by decide) (by decide) rfl (by omega) (by omega) rfl rfl (by omega) (by omega) (by omega) (by omega) (by omega) (by omega) (by omega) w ht known_any m1 m2 m3 m4 m5 m6
    · rw [hD, hf] at m6
      rw [hf] at m5 z3 hF
      exact tens_true 60000 1001 t k _ _ 60 35964 (35964 * k) (k * 600 * 60000) (35964 * k * 1001) (36 * k) _ _ _ n1 n2 d1 d2 k0 k1 rfl rfl z1 z2 z3 hF (by decide) (by decide) (by decide) (by decide) rfl (by omega) (by omega) rfl rfl (by omega) (by omega) (by omega) (by omega) (by omega) (by omega) (by omega) w ht known_any m1 m2 m3 m4 m5 m6
  · rw [if_neg h] at m1
    exact tens_no n d t 14 dr (by decide) w ht known_any m1
end Go.Proofs.YtghiibdhibcbaaaDoor.PA
