/- A label's parts, minute by minute. -/
import Derived.Test.YtghiibdhibcbaaaDoorRfC
namespace Go.Proofs.YtghiibdhibcbaaaDoor.PA
open Go Go.Proofs.YtghiibdhibcbaaaDoor.CS
set_option linter.unusedSimpArgs false
set_option linter.unusedVariables false
/-- how many numbers the first minutes have -/
def consq (q : Nat → Int) : Nat → Int
  | 0 => 0
  | m + 1 => q m + consq q m
/-- the minute that has been come to, and what is left -/
def stepP (q : Nat → Int) (r0 : Int) (m : Nat) (r : Int) : Prop := m ≤ 9 ∧ consq q m + r = r0 ∧ 0 ≤ r
theorem outS_0 (n d : Int) (dr : Bool) : outS n d dr 0 = 0 := by unfold outS; rw [if_pos (by decide)]
theorem outS_p (n d : Int) (dr : Bool) {m : Nat} (h0 : 1 ≤ m) (h9 : m ≤ 9) : outS n d dr m = drop n d dr := by unfold outS; rw [if_neg (by omega)]
theorem consq_eq (F D : Int) (q : Nat → Int) (h0 : q 0 = 60 * F) (hq : ∀ m, 1 ≤ m → m ≤ 9 → q m = 60 * F - D) : ∀ m : Nat, m ≤ 9 → consq q (m + 1) = 60 * F + (m : Int) * (60 * F - D) := by
  intro m
  induction m with
  | zero => intro _; show q 0 + 0 = _; rw [h0]; simp
  | succ m ih =>
    intro h
    show q (m + 1) + consq q (m + 1) = _
    rw [hq (m + 1) (by omega) h, ih (by omega), Int.natCast_succ, Int.add_mul]
    omega
/-- all of ten minutes -/
theorem consq_ten (F D : Int) (q : Nat → Int) (h0 : q 0 = 60 * F) (hq : ∀ m, 1 ≤ m → m ≤ 9 → q m = 60 * F - D) : consq q 10 = 600 * F - 9 * D := by
  rw [consq_eq F D q h0 hq 9 (by decide)]; omega
/-- a step more -/
theorem stepP_next {F D r0 : Int} {q : Nat → Int} (h0 : q 0 = 60 * F) (hq : ∀ m, 1 ≤ m → m ≤ 9 → q m = 60 * F - D) (hr : r0 < 600 * F - 9 * D) {m : Nat} {r : Int} (h : stepP q r0 m r) (hge : q m ≤ r) : stepP q r0 (m + 1) (r - q m) := by
  obtain ⟨h1, h2, h3⟩ := h
  have h4 : consq q (m + 1) = q m + consq q m := rfl
  refine ⟨?_, by omega, by omega⟩
  rcases Nat.lt_or_ge m 9 with h5 | h5
  · omega
  · have h6 : m = 9 := by omega
    have := consq_ten F D q h0 hq
    subst h6
    have h7 : consq q (9 + 1) = consq q 10 := rfl
    omega
/-- the number that is said, by minutes -/
theorem num_parts {n d fr : Int} {dr : Bool} (o : Ok n d dr) {q : Nat → Int} (hq : ∀ m : Nat, q m = 60 * full n d - outS n d dr m) {m : Nat} {r : Int}
    (h : stepP q (fr % (600 * full n d - 9 * drop n d dr)) m r) (hlt : r < q m) :
    num n d dr fr = 60 * full n d * (m + 10 * (fr / (600 * full n d - 9 * drop n d dr))) + (r + outS n d dr m) ∧ 0 ≤ r + outS n d dr m ∧ r + outS n d dr m < 60 * full n d := by
  obtain ⟨f0, f1⟩ := full_le o
  obtain ⟨D0, D1⟩ := @drop_le n d dr
  have q0 : q 0 = 60 * full n d := by rw [hq 0]; show 60 * full n d - outS n d dr 0 = _; rw [outS_0]; omega
  have qp : ∀ m, 1 ≤ m → m ≤ 9 → q m = 60 * full n d - drop n d dr := fun m a b => by rw [hq m, outS_p n d dr a b]
  obtain ⟨h1, h2, h3⟩ := h
  unfold num
  have e0 : (600 * full n d - 9 * drop n d dr) * (fr / (600 * full n d - 9 * drop n d dr)) + fr % (600 * full n d - 9 * drop n d dr) = fr := Int.mul_ediv_add_emod _ _
  obtain ⟨F, hF⟩ : ∃ F, full n d = F := ⟨_, rfl⟩
  obtain ⟨D, hD⟩ : ∃ D, drop n d dr = D := ⟨_, rfl⟩
  rw [hF] at f0 f1 q0 qp h2 e0 ⊢
  rw [hD] at D0 D1 qp h2 e0 ⊢
  obtain ⟨T, hT⟩ : ∃ T, fr / (600 * F - 9 * D) = T := ⟨_, rfl⟩
  obtain ⟨R, hR⟩ : ∃ R, fr % (600 * F - 9 * D) = R := ⟨_, rfl⟩
  rw [hT, hR] at e0
  rw [hR] at h2
  rw [hT, hR]
  have e1 : (600 * F - 9 * D) * T = 10 * (60 * F * T) - 9 * (T * D) := by grind
  have e2 : T * 9 * D = 9 * (T * D) := by grind
  rcases Nat.eq_zero_or_pos m with rfl | hm
  · have hc : consq q 0 = 0 := rfl
    have ho : outS n d dr ((0 : Nat) : Int) = 0 := outS_0 n d dr
    rw [ho, if_neg (by omega), e2]
    have e3 : 60 * F * (((0 : Nat) : Int) + 10 * T) = 10 * (60 * F * T) := by grind
    rw [e3]
    refine ⟨by omega, by omega, by omega⟩
  · have ho := outS_p n d dr hm h1
    obtain ⟨j, rfl⟩ : ∃ j, m = j + 1 := ⟨m - 1, by omega⟩
    have hc := consq_eq F D q q0 qp j (by omega)
    have hqm := qp (j + 1) (by omega) h1
    rw [ho, hD]
    have hj : (R - 60 * F) / (60 * F - D) = j := by
      rw [show R - 60 * F = r + (j : Int) * (60 * F - D) by omega, Int.add_mul_ediv_right _ _ (by omega), Int.ediv_eq_zero_of_lt h3 (by omega)]
      omega
    have h9 : 0 ≤ (j : Int) * (60 * F - D) := Int.mul_nonneg (by omega) (by omega)
    rw [if_pos (by omega), hj, e2]
    have e3 : 60 * F * (((j + 1 : Nat) : Int) + 10 * T) = 10 * (60 * F * T) + 60 * F * (j : Int) + 60 * F := by rw [Int.natCast_succ]; grind
    have e4 : (j : Int) * (60 * F - D) = 60 * F * (j : Int) - (j : Int) * D := by grind
    rw [e3]
    refine ⟨by omega, by omega, by omega⟩
/-- a label's text out of these -/
theorem labL_parts {n d fr : Int} {dr : Bool} (o : Ok n d dr) {M K : Int} (h : num n d dr fr = 60 * full n d * M + K) (k0 : 0 ≤ K) (k1 : K < 60 * full n d) :
    labL n d dr fr = labT dr (M / 60) (M % 60) (K / full n d) (K % full n d) (wide (full n d)) := by
  obtain ⟨f0, f1⟩ := full_le o
  unfold labL
  rw [h]
  obtain ⟨F, hF⟩ : ∃ F, full n d = F := ⟨_, rfl⟩
  rw [hF] at f0 f1 k1 ⊢
  have e1 : 60 * F * M + K = K + (60 * M) * F := by grind
  have e2 : (60 * F * M + K) / F = 60 * M + K / F := by rw [e1, Int.add_mul_ediv_right _ _ (by omega)]; omega
  have e3 : (60 * F * M + K) % F = K % F := by rw [e1, Int.add_mul_emod_self_right]
  have e4 : K / F < 60 := (Int.ediv_lt_iff_lt_mul (by omega)).mpr (by omega)
  have e5 : 0 ≤ K / F := Int.ediv_nonneg k0 (by omega)
  rw [e2, e3, show (60 * M + K / F) / 3600 = M / 60 by omega, show (60 * M + K / F) / 60 % 60 = M % 60 by omega, show (60 * M + K / F) % 60 = K / F by omega]
end Go.Proofs.YtghiibdhibcbaaaDoor.PA
