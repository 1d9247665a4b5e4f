/- RatioCounts: whole numbers over small parts: what Go's own division tells. -/
import Derived.Test.YtofndakpenpkbaaDoorLCntx1
import Derived.OpenShut
namespace Go.Proofs.YtofndakpenpkbaaDoor.PA
open Go.RowKit Go.ChangeShapes Go.WideShapes Go.Proofs.YtofndakpenpkbaaDoor.PC Go.Proofs.YtofndakpenpkbaaDoor.LCnt
theorem ediv_same (a b c d : Int) (hb : 0 < b) (hd : 0 < d) (h : a * d = c * b) : a / b = c / d := by
  rw [← Int.mul_ediv_mul_of_pos_left a b hd, h, Int.mul_comm b d, Int.mul_ediv_mul_of_pos_left c d hb]
theorem wholeZ_same (a c : Int) (b d : Nat) (how : Int) (hb : 0 < b) (hd : 0 < d) (h : a * (d : Int) = c * (b : Int)) : wholeZ a b how = wholeZ c d how := by
  unfold wholeZ
  have h1 := ediv_same a b c d (by omega) (by omega) h
  have h2 := ediv_same (-a) b (-c) d (by omega) (by omega) (by rw [Int.neg_mul, Int.neg_mul, h])
  have h3 := ediv_same (2 * a + b) (2 * b : Nat) (2 * c + d) (2 * d : Nat) (by omega) (by omega) (by
    simp only [Int.natCast_mul, Int.add_mul]
    have e1 : 2 * a * (((2 : Nat) : Int) * (d : Int)) = 4 * (a * (d : Int)) := by grind
    have e2 : 2 * c * (((2 : Nat) : Int) * (b : Int)) = 4 * (c * (b : Int)) := by grind
    have e3 : (b : Int) * (((2 : Nat) : Int) * (d : Int)) = (d : Int) * (((2 : Nat) : Int) * (b : Int)) := by grind
    rw [e1, e2, e3, h])
  rw [h1, h2, h3]
/-- Go's own division, and what is made of it -/
theorem go_floor (p q : Int) (hq : 0 < q) : p.tdiv q = (if p.tmod q ≠ 0 ∧ p < 0 then p / q + 1 else p / q) := by
  have h1 := Int.tdiv_eq_ediv (a := p) (b := q)
  have h2 : p.tmod q = 0 ↔ q ∣ p := (Int.dvd_iff_tmod_eq_zero).symm
  rw [h1]
  by_cases h : 0 ≤ p ∨ q ∣ p
  · rw [if_pos h, if_neg (by rintro ⟨a, b⟩; rcases h with h | h; omega; exact a (h2.mpr h))]; omega
  · rw [if_neg h, if_pos ⟨fun a => h (.inr (h2.mp a)), by omega⟩, Int.sign_eq_one_of_pos hq]
theorem tmod_zero (p q : Int) : p.tmod q = 0 ↔ p % q = 0 := by
  rw [← Int.dvd_iff_tmod_eq_zero, Int.dvd_iff_emod_eq_zero]
theorem ceil_of (p q : Int) (hq : 0 < q) : -((-p) / q) = if p % q = 0 then p / q else p / q + 1 := by
  have h := Int.mul_ediv_add_emod p q
  have h0 := Int.emod_nonneg p (show q ≠ 0 by omega)
  have h1 := Int.emod_lt_of_pos p hq
  by_cases hz : p % q = 0
  · rw [if_pos hz]
    rw [hz, Int.add_zero] at h
    have e : -p = q * (-(p / q)) := by rw [Int.mul_neg, h]
    rw [e, Int.mul_ediv_cancel_left _ (by omega)]; omega
  · rw [if_neg hz]
    have e : -p = q * (-(p / q + 1)) + (q - p % q) := by rw [Int.mul_neg, Int.mul_add]; omega
    have z : (q - p % q) / q = 0 := Int.ediv_eq_zero_of_lt (by omega) (by omega)
    rw [e, Int.mul_add_ediv_left _ _ (by omega), z]; omega
theorem near_of (p q : Int) (hq : 0 < q) : (2 * p + q) / (2 * q) = if 2 * (p - p / q * q) ≥ q then p / q + 1 else p / q := by
  have h := Int.mul_ediv_add_emod p q
  have h0 := Int.emod_nonneg p (show q ≠ 0 by omega)
  have h1 := Int.emod_lt_of_pos p hq
  have e0 : p - p / q * q = p % q := by rw [Int.mul_comm]; omega
  rw [e0]
  by_cases hc : 2 * (p % q) ≥ q
  · rw [if_pos hc]
    have e : 2 * p + q = 2 * q * (p / q + 1) + (2 * (p % q) - q) := by rw [Int.mul_add, Int.mul_assoc]; omega
    have z : (2 * (p % q) - q) / (2 * q) = 0 := Int.ediv_eq_zero_of_lt (by omega) (by omega)
    rw [e, Int.mul_add_ediv_left _ _ (by omega), z]; omega
  · rw [if_neg hc]
    have e : 2 * p + q = 2 * q * (p / q) + (2 * (p % q) + q) := by rw [Int.mul_assoc]; omega
    have z : (2 * (p % q) + q) / (2 * q) = 0 := Int.ediv_eq_zero_of_lt (by omega) (by omega)
    rw [e, Int.mul_add_ediv_left _ _ (by omega), z]; omega
theorem new_small (n d : Int) (hn : n.natAbs ≤ 2147483648) (hd0 : 0 < d) (hd : d ≤ 65535) :
    ∃ x y, newS n d = (x, y, 0) ∧ rightS x y = true ∧ x * d = n * y ∧ x.natAbs ≤ 2147483648 := by
  obtain ⟨x, y, z, hs⟩ : ∃ x y z, newS n d = (x, y, z) := ⟨_, _, _, rfl⟩
  have hT := newS_T3 (n := n) (d := d) (by omega)
  rw [hs, ← qv_div hd0] at hT
  have e : d.toNat ≠ 0 := by omega
  have hnum : (qv n d).num.natAbs ≤ 2147483648 := by
    unfold qv
    rw [Rat.num_mkRat, if_neg e]
    exact Nat.le_trans (Int.natAbs_ediv_le_natAbs _ _) hn
  have hden : (qv n d).den ≤ 65535 := by
    unfold qv
    rw [Rat.den_mkRat, if_neg e]
    exact Nat.le_trans (Nat.div_le_self _ _) (by omega)
  have h2 := hT.symm
  unfold T3 at h2
  rw [if_pos ⟨by omega, by omega⟩] at h2
  simp only [Prod.mk.injEq] at h2
  obtain ⟨hx, hy, hz⟩ := h2
  rw [← hz] at hT
  have hk := T3_ok hT.symm
  have hy0 : 0 < y := by have := (rightS_iff.mp hk.1).1; omega
  refine ⟨x, y, by rw [hs, ← hz], hk.1, ?_, by rw [← hx]; exact hnum⟩
  have h3 := hk.2
  unfold qv at h3
  rw [Rat.mkRat_eq_iff (by omega) e] at h3
  rw [show ((d.toNat : Nat) : Int) = d by omega, show ((y.toNat : Nat) : Int) = y by omega] at h3
  exact h3
theorem wrap64_id {x : Int} (h0 : -9223372036854775808 ≤ x) (h1 : x ≤ 9223372036854775807) : wrap64 x = x := by unfold wrap64; omega
theorem wholeT_small (z : Int) (D : Nat) (how : Int) (hD : 0 < D) (hz : z.natAbs ≤ 70368744177664) (hh : how = 1 ∨ how = 2 ∨ how = 3) : wholeT z D how = (wholeZ z D how, 0) := by
  unfold wholeT
  have hb : ∀ a b : Int, 0 < b → a.natAbs ≤ 140737488355328 + b.natAbs → (a / b).natAbs ≤ 140737488355329 := fun a b hb ha => by
    have h := Int.mul_ediv_add_emod a b
    have h0 := Int.emod_nonneg a (show b ≠ 0 by omega)
    have h1 := Int.emod_lt_of_pos a hb
    have h2 : a / b ≤ 140737488355329 := by
      refine Int.le_of_lt_add_one ((Int.ediv_lt_iff_lt_mul hb).mpr ?_)
      have : (140737488355329 + 1) * b = 140737488355330 * b := by omega
      omega
    have h3 : -140737488355329 ≤ a / b := by
      refine (Int.le_ediv_iff_mul_le hb).mpr ?_
      omega
    omega
  rw [if_pos hh, if_pos]
  unfold wholeZ
  have h1 := hb z D (by omega) (by omega)
  have h2 := hb (-z) D (by omega) (by omega)
  have h3 := hb (2 * z + D) (2 * D : Nat) (by omega) (by omega)
  by_cases e1 : how = 1
  · rw [if_pos e1]; omega
  · rw [if_neg e1]
    by_cases e2 : how = 2
    · rw [if_pos e2]; omega
    · rw [if_neg e2]; omega
theorem counts_j1 (k : Nat) (t p q x y : Int) (hq0 : 0 < q) (hq : q ≤ 65535) (hp : p.natAbs ≤ 70368744177664) (ht : -32768 ≤ t ∧ t ≤ 32767)
    (W1 : ratio_Whole.f x y t 1 = some (p / q, 0)) (W3 : ratio_Whole.f x y t 3 = some (if p % q = 0 then p / q else p / q + 1, 0))
    (W2 : ratio_Whole.f x y t 2 = some (if 2 * (p - p / q * q) ≥ q then p / q + 1 else p / q, 0)) : surtitlelaw3_RatioCounts.j1 (k + 3) t p q (p / q) x y = some true := by
  have h := Int.mul_ediv_add_emod p q
  have h0 := Int.emod_nonneg p (show q ≠ 0 by omega)
  have h1 := Int.emod_lt_of_pos p hq0
  have hL1 : p / q ≤ 70368744177665 := by
    refine Int.le_of_lt_add_one ((Int.ediv_lt_iff_lt_mul hq0).mpr ?_)
    have : (70368744177665 + 1) * q = 70368744177666 * q := by omega
    omega
  have hL0 : -70368744177665 ≤ p / q := by
    refine (Int.le_ediv_iff_mul_le hq0).mpr ?_
    omega
  have eM : p / q * q = q * (p / q) := Int.mul_comm _ _
  have e1 : wrap64 (p / q + 1) = p / q + 1 := wrap64_id (by omega) (by omega)
  have e2 : wrap64 (p / q * q) = p / q * q := wrap64_id (by omega) (by omega)
  have e3 : wrap64 (p - p / q * q) = p - p / q * q := wrap64_id (by omega) (by omega)
  have e4 : wrap64 (2 * (p - p / q * q)) = 2 * (p - p / q * q) := wrap64_id (by omega) (by omega)
  have et : wrap64 t = t := wrap64_id (by omega) (by omega)
  have hqn : ¬ q = 0 := by omega
  simp only [surtitlelaw3_RatioCounts.j1, tmod_zero]
  rw [if_neg hqn]
  by_cases hz : p % q = 0
  · rw [if_pos hz] at W3 ⊢
    simp only [surtitlelaw3_RatioCounts.j2, e2, e3, e4, e1]
    by_cases hc : 2 * (p - p / q * q) ≥ q
    · rw [if_pos hc] at W2 ⊢
      simp only [surtitlelaw3_RatioCounts.j3, et, W1, W2, W3, Option.bind_some, surtitlelaw3_fine.f]; simp
    · rw [if_neg hc] at W2 ⊢
      simp only [surtitlelaw3_RatioCounts.j3, et, W1, W2, W3, Option.bind_some, surtitlelaw3_fine.f]; simp
  · rw [if_neg hz] at W3 ⊢
    simp only [surtitlelaw3_RatioCounts.j2, e2, e3, e4, e1]
    by_cases hc : 2 * (p - p / q * q) ≥ q
    · rw [if_pos hc] at W2 ⊢
      simp only [surtitlelaw3_RatioCounts.j3, et, W1, W2, W3, Option.bind_some, surtitlelaw3_fine.f]; simp
    · rw [if_neg hc] at W2 ⊢
      simp only [surtitlelaw3_RatioCounts.j3, et, W1, W2, W3, Option.bind_some, surtitlelaw3_fine.f]; simp
theorem mul_small (a b : Int) (ha : a.natAbs ≤ 2147483648) (hb : b.natAbs ≤ 32768) : (a * b).natAbs ≤ 70368744177664 := by
  rw [Int.natAbs_mul]
  exact Nat.le_trans (Nat.mul_le_mul ha hb) (by decide)
theorem counts_f (a0 a1 a2 : Int) (h0 : (Lit.int .i32 a0).wf = true) (h1 : (Lit.int .u16 a1).wf = true) (h2 : (Lit.int .i16 a2).wf = true) : surtitlelaw3_RatioCounts.f 9 a0 a1 a2 = some true := by
  have b0 := bounds_i32 h0
  have b1 := bounds_u16 h1
  have b2 := bounds_i16 h2
  clear h0 h1 h2
  have hp := mul_small a0 a2 (by omega) (by omega)
  unfold surtitlelaw3_RatioCounts.f surtitlelaw3_known.f
  simp only [Option.bind_some, if_true]
  by_cases hz : a1 = 0
  · rw [if_pos hz]
  · rw [if_neg hz, wrap64_id (x := a0) (by omega) (by omega), wrap64_id (x := a1) (by omega) (by omega), wrap64_id (x := a2) (by omega) (by omega), wrap64_id (x := a0 * a2) (by omega) (by omega)]
    obtain ⟨x, y, hs, hr, hxy, hx⟩ := new_small a0 a1 (by omega) (by omega) (by omega)
    obtain ⟨y1, y2, _, _⟩ := rightS_iff.mp hr
    have hxp := mul_small x a2 hx (by omega)
    have hyt : ((y.toNat : Nat) : Int) = y := by omega
    have hqt : ((a1.toNat : Nat) : Int) = a1 := by omega
    have hw : ∀ how, how = 1 ∨ how = 2 ∨ how = 3 → ratio_Whole.f x y a2 how = some (wholeZ (a0 * a2) a1.toNat how, 0) := fun how hh => by
      unfold ratio_Whole.f
      rw [Whole_f 0 x y a2 how (by omega) (by omega) (by omega), if_pos hr, wholeT_small _ _ _ (by omega) hxp hh]
      rw [wholeZ_same (x * a2) (a0 * a2) y.toNat a1.toNat how (by omega) (by omega) (by rw [hyt, hqt]; grind)]
    have W1 := hw 1 (.inl rfl)
    have W2 := hw 2 (.inr (.inl rfl))
    have W3 := hw 3 (.inr (.inr rfl))
    rw [show wholeZ (a0 * a2) a1.toNat 1 = a0 * a2 / a1 from by unfold wholeZ; rw [if_pos rfl, hqt]] at W1
    rw [show wholeZ (a0 * a2) a1.toNat 2 = (2 * (a0 * a2) + a1) / (2 * a1) from by unfold wholeZ; rw [if_neg (by decide), if_pos rfl, Int.natCast_mul, hqt]; rfl, near_of _ _ (by omega)] at W2
    rw [show wholeZ (a0 * a2) a1.toNat 3 = -((-(a0 * a2)) / a1) from by unfold wholeZ; rw [if_neg (by decide), if_neg (by decide), hqt], ceil_of _ _ (by omega)] at W3
    have J := counts_j1 5 a2 (a0 * a2) a1 x y (by omega) (by omega) hp (by omega) W1 W3 W2
    have hN : ratio_New.f a0 a1 = some (x, y, 0) := by unfold ratio_New.f; rw [if_pos ⟨i64ok_iff.mpr (by omega), i64ok_iff.mpr (by omega)⟩, hs]
    rw [hN]
    simp only [Option.bind_some, surtitlelaw3_fine.f, beq_self_eq_true, if_true]
    rw [if_neg hz]
    have hg := go_floor (a0 * a2) a1 (by omega)
    have hLb : -70368744177668 ≤ a0 * a2 / a1 ∧ a0 * a2 / a1 ≤ 70368744177668 := by
      constructor
      · exact (Int.le_ediv_iff_mul_le (by omega)).mpr (by omega)
      · refine Int.le_of_lt_add_one ((Int.ediv_lt_iff_lt_mul (by omega)).mpr ?_)
        have : (70368744177668 + 1) * a1 = 70368744177669 * a1 := by omega
        omega
    by_cases hm : (a0 * a2).tmod a1 = 0
    · rw [if_neg (fun h => h.1 hm)] at hg
      rw [if_pos hm, hg, wrap64_id (by omega) (by omega)]
      simp only [surtitlelaw3_RatioCounts.j0, Bool.false_eq_true, if_false]
      exact J
    · rw [if_neg hm]
      by_cases hn : a0 * a2 < 0
      · rw [if_pos ⟨hm, hn⟩] at hg
        rw [hg, wrap64_id (by omega) (by omega), decide_eq_true hn]
        simp only [surtitlelaw3_RatioCounts.j0, if_true]
        rw [show a0 * a2 / a1 + 1 - 1 = a0 * a2 / a1 by omega, wrap64_id (by omega) (by omega)]
        exact J
      · rw [if_neg (fun h => hn h.2)] at hg
        rw [hg, wrap64_id (by omega) (by omega), decide_eq_false hn]
        simp only [surtitlelaw3_RatioCounts.j0, Bool.false_eq_true, if_false]
        exact J
theorem counts_true (a0 a1 a2 : Int) (h0 : (Lit.int .i32 a0).wf = true) (h1 : (Lit.int .u16 a1).wf = true) (h2 : (Lit.int .i16 a2).wf = true) (w : World) :
    Calls Tryd.prog 11 #[.int .i32 a0, .int .u16 a1, .int .i16 a2] w fun e w' => e = .returned (.bool true) ∧ Below w.heap.size w w' :=
  surtitlelaw3_RatioCounts.calls 9 a0 a1 a2 true w (counts_f a0 a1 a2 h0 h1 h2)
end Go.Proofs.YtofndakpenpkbaaDoor.PA
