/- A clock's text, in plain lists: what both readers come to. -/
import Derived.Test.YtghiibdhibcbaaaDoorCodQ
import Derived.Test.YtghiibdhibcbaaaDoorRfO
namespace Go.Proofs.YtghiibdhibcbaaaDoor.PA
open Go Go.RowKit Go.Proofs.YtghiibdhibcbaaaDoor.CS
set_option linter.unusedSimpArgs false
set_option linter.unusedVariables false
/-- minutes, seconds, parts to the end -/
def tlO (pt : UInt8) (size : Nat) (l : List UInt8) : Option (Int × Int × Int) :=
  (belO 2 60 l).bind fun b => (byteO 58 b.2).bind fun c => (belO 2 60 c).bind fun d => (byteO pt d.2).bind fun e => (digO size e).bind fun g => if g.2 = [] then some (b.1, d.1, g.1) else none
theorem tl_run (pt : UInt8) (size : Nat) (z1 : 1 ≤ size) {x : St} {o : Option (List UInt8)} (h : rel x o) :
    ∃ x5 x6 x7 x9 x11, belS x 2 60 = x5 ∧ sgnS x5.2 58 = x6 ∧ belS x6 2 60 = x7 ∧ sgnS x7.2 pt = x9 ∧ numS x9 (size : Int) = x11 ∧
      (match o.bind (tlO pt size) with | some (m, s, k) => x5.1 = m ∧ x7.1 = s ∧ x11 = (k, [], false) | none => x11.2.2 = true ∨ x11.2.1 ≠ []) := by
  obtain ⟨x5, e5⟩ : ∃ y, belS x 2 60 = y := ⟨_, rfl⟩
  obtain ⟨x6, e6⟩ : ∃ y, sgnS x5.2 58 = y := ⟨_, rfl⟩
  obtain ⟨x7, e7⟩ : ∃ y, belS x6 2 60 = y := ⟨_, rfl⟩
  obtain ⟨x9, e9⟩ : ∃ y, sgnS x7.2 pt = y := ⟨_, rfl⟩
  obtain ⟨x11, e11⟩ : ∃ y, numS x9 (size : Int) = y := ⟨_, rfl⟩
  refine ⟨x5, x6, x7, x9, x11, e5, e6, e7, e9, e11, ?_⟩
  have r3 := bel_rel 2 60 (by decide) h
  rw [show ((2 : Nat) : Int) = 2 from rfl, e5] at r3
  have r4 := sgn_rel 58 r3.st
  rw [e6] at r4
  have r5 := bel_rel 2 60 (by decide) r4
  rw [show ((2 : Nat) : Int) = 2 from rfl, e7] at r5
  have r6 := sgn_rel pt r5.st
  rw [e9] at r6
  have r7 := num_rel size z1 r6
  rw [e11] at r7
  unfold tlO
  cases o with
  | none => simp only [Option.map_none, Option.bind_none] at r7 ⊢; exact .inl r7
  | some l =>
  cases h2 : belO 2 60 l with
  | none => simp only [Option.map_some, Option.bind_some, h2, Option.map_none, Option.bind_none] at r7 ⊢; exact .inl r7
  | some b =>
  cases h3 : byteO 58 b.2 with
  | none => simp only [Option.map_some, Option.bind_some, h2, h3, Option.map_none, Option.bind_none] at r7 ⊢; exact .inl r7
  | some c =>
  cases h4 : belO 2 60 c with
  | none => simp only [Option.map_some, Option.bind_some, h2, h3, h4, Option.map_none, Option.bind_none] at r7 ⊢; exact .inl r7
  | some d =>
  cases h5 : byteO pt d.2 with
  | none => simp only [Option.map_some, Option.bind_some, h2, h3, h4, h5, Option.map_none, Option.bind_none] at r7 ⊢; exact .inl r7
  | some q =>
  cases h6 : digO size q with
  | none => simp only [Option.map_some, Option.bind_some, h2, h3, h4, h5, h6, Option.map_none, Option.bind_none] at r7 ⊢; exact .inl r7
  | some g =>
    simp only [Option.map_some, Option.bind_some, h2, h3, h4, h5, h6] at r3 r5 r7 ⊢
    unfold relV at r3 r5 r7
    dsimp only at r3 r5 r7
    by_cases hg : g.2 = []
    · rw [if_pos hg]
      dsimp only
      rw [hg] at r7
      exact ⟨by rw [r3], by rw [r5], r7⟩
    · rw [if_neg hg]
      dsimp only
      exact .inr (by rw [r7]; exact hg)
theorem rtl_run (pt : UInt8) (size : Nat) (S : ByteArray) {y : Nat × Bool} {o : Option (List UInt8)} (h : relR S y o) :
    ∃ y5 y6 y7 y8 y10, rsixS S y.1 y.2 = y5 ∧ rmarkS S y5.2.1 y5.2.2 58 = y6 ∧ rsixS S y6.1 y6.2 = y7 ∧ rmarkS S y7.2.1 y7.2.2 pt = y8 ∧ rnumS S y8.1 y8.2 size = y10 ∧
      y.1 ≤ S.size ∧ y5.2.1 ≤ S.size ∧ y6.1 ≤ S.size ∧ y7.2.1 ≤ S.size ∧ y8.1 ≤ S.size ∧
      (match o.bind (tlO pt size) with | some (m, s, k) => y5.1 = m ∧ y7.1 = s ∧ y10 = (k, S.size, false) | none => y10.2.2 = true ∨ y10.2.1 ≠ S.size) := by
  obtain ⟨y5, e5⟩ : ∃ z, rsixS S y.1 y.2 = z := ⟨_, rfl⟩
  obtain ⟨y6, e6⟩ : ∃ z, rmarkS S y5.2.1 y5.2.2 58 = z := ⟨_, rfl⟩
  obtain ⟨y7, e7⟩ : ∃ z, rsixS S y6.1 y6.2 = z := ⟨_, rfl⟩
  obtain ⟨y8, e8⟩ : ∃ z, rmarkS S y7.2.1 y7.2.2 pt = z := ⟨_, rfl⟩
  obtain ⟨y10, e10⟩ : ∃ z, rnumS S y8.1 y8.2 size = z := ⟨_, rfl⟩
  refine ⟨y5, y6, y7, y8, y10, e5, e6, e7, e8, e10, ?_⟩
  have r3 := rsix_rel h
  rw [e5] at r3
  have r4 := rmark_rel 58 r3.st
  rw [e6] at r4
  have r5 := rsix_rel r4
  rw [e7] at r5
  have r6 := rmark_rel pt r5.st
  rw [e8] at r6
  have r7 := rnum_rel size r6
  rw [e10] at r7
  refine ⟨h.1, r3.1, r4.1, r5.1, r6.1, ?_⟩
  have z7 := r7.1
  unfold tlO
  cases o with
  | none => simp only [Option.map_none, Option.bind_none] at r7 ⊢; exact .inl r7.2
  | some l =>
  cases h2 : belO 2 60 l with
  | none => simp only [Option.map_some, Option.bind_some, h2, Option.map_none, Option.bind_none] at r7 ⊢; exact .inl r7.2
  | some b =>
  cases h3 : byteO 58 b.2 with
  | none => simp only [Option.map_some, Option.bind_some, h2, h3, Option.map_none, Option.bind_none] at r7 ⊢; exact .inl r7.2
  | some c =>
  cases h4 : belO 2 60 c with
  | none => simp only [Option.map_some, Option.bind_some, h2, h3, h4, Option.map_none, Option.bind_none] at r7 ⊢; exact .inl r7.2
  | some d =>
  cases h5 : byteO pt d.2 with
  | none => simp only [Option.map_some, Option.bind_some, h2, h3, h4, h5, Option.map_none, Option.bind_none] at r7 ⊢; exact .inl r7.2
  | some q =>
  cases h6 : digO size q with
  | none => simp only [Option.map_some, Option.bind_some, h2, h3, h4, h5, h6, Option.map_none, Option.bind_none] at r7 ⊢; exact .inl r7.2
  | some g =>
    simp only [Option.map_some, Option.bind_some, h2, h3, h4, h5, h6] at r3 r5 r7 ⊢
    obtain ⟨_, v1, v2, v3⟩ := r7
    by_cases hg : g.2 = []
    · rw [if_pos hg]
      dsimp only
      rw [hg] at v2
      exact ⟨r3.2.1, r5.2.1, Prod.ext v1 (Prod.ext ((tl_nil z7).mp v2) v3)⟩
    · rw [if_neg hg]
      dsimp only
      exact .inr (fun e2 => hg (Eq.trans v2.symm ((tl_nil z7).mpr e2)))
/-- a whole number of parts, as a ratio: is it a time -/
theorem time_new {V g : Int} (v0 : 0 ≤ V) (v1 : V ≤ 4000000000) (g0 : 1 ≤ g) (g1 : g ≤ 1000) : ∃ x y, newS V g = (x, y, 0) ∧ (timeS x y = if V ≤ 360000 * g then 0 else 31) ∧ 0 ≤ x ∧ x ≤ V ∧ 1 ≤ y ∧ y ≤ g := by
  have e := new_pos v0 (by omega) g0 (by omega)
  obtain ⟨c, hc⟩ : ∃ c, Nat.gcd V.natAbs g.natAbs = c := ⟨_, rfl⟩
  have hp : 0 < c := by rw [← hc]; exact Nat.gcd_pos_of_pos_right _ (by omega)
  have hcop := Nat.gcd_div_gcd_div_gcd_of_pos_right (n := V.natAbs) (m := g.natAbs) (by omega)
  have w1 : (c : Int) ∣ V := by have := Int.natCast_dvd_natCast.mpr (Nat.gcd_dvd_left V.natAbs g.natAbs); rw [hc] at this; rwa [show (V.natAbs : Int) = V by omega] at this
  have w2 : (c : Int) ∣ g := by have := Int.natCast_dvd_natCast.mpr (Nat.gcd_dvd_right V.natAbs g.natAbs); rw [hc] at this; rwa [show (g.natAbs : Int) = g by omega] at this
  rw [hc] at e hcop
  have u1 : (c : Int) * (V / c) = V := Int.mul_ediv_cancel' w1
  have u2 : (c : Int) * (g / c) = g := Int.mul_ediv_cancel' w2
  have x0 : 0 ≤ V / (c : Int) := Int.ediv_nonneg v0 (by omega)
  have x1 : V / (c : Int) ≤ V := Int.ediv_le_self _ v0
  have y1 : g / (c : Int) ≤ g := Int.ediv_le_self _ (by omega)
  have y0 : 1 ≤ g / (c : Int) := by
    rcases Int.lt_or_le (g / (c : Int)) 1 with hlt | hge2
    · have h0 : 0 ≤ g / (c : Int) := Int.ediv_nonneg (by omega) (by omega)
      have : g / (c : Int) = 0 := by omega
      rw [this, Int.mul_zero] at u2; omega
    · exact hge2
  have hx : (V / (c : Int)).natAbs = V.natAbs / c := by
    have : V / (c : Int) = ((V.natAbs / c : Nat) : Int) := by rw [Int.natCast_ediv]; congr 1; omega
    rw [this, Int.natAbs_natCast]
  have hy : (g / (c : Int)).natAbs = g.natAbs / c := by
    have : g / (c : Int) = ((g.natAbs / c : Nat) : Int) := by rw [Int.natCast_ediv]; congr 1; omega
    rw [this, Int.natAbs_natCast]
  refine ⟨_, _, e, ?_, x0, x1, y0, y1⟩
  rw [timeS_iff, if_pos ⟨y0, by omega, by omega, by rw [hx, hy]; exact hcop⟩]
  have k1 : (c : Int) * (360000 * (g / c)) = 360000 * g := by rw [show (c : Int) * (360000 * (g / c)) = 360000 * (c * (g / c)) by grind, u2]
  by_cases hle : V ≤ 360000 * g
  · rw [if_pos hle, if_pos ⟨x0, Int.le_of_mul_le_mul_left (by rw [u1, k1]; exact hle) (by omega : (0 : Int) < c)⟩]
  · rw [if_neg hle, if_neg]
    rintro ⟨_, h2⟩
    have := Int.mul_le_mul_of_nonneg_left h2 (show (0 : Int) ≤ c by omega)
    rw [u1, k1] at this
    exact hle this
end Go.Proofs.YtghiibdhibcbaaaDoor.PA
