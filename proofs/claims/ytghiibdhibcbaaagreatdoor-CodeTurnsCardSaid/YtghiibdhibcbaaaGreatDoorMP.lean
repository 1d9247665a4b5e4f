/- A clock is read as it was written; clocks rise with the times. A rate is read as it was written. How long labels and clocks are. -/
import Derived.Test.YtghiibdhibcbaaaGreatDoorMI
import Derived.Test.YtghiibdhibcbaaaGreatDoorMN
import Derived.Test.YtghiibdhibcbaaaGreatDoorM2
import Derived.Test.YtghiibdhibcbaaaGreatDoorMO
namespace Go.Proofs.YtghiibdhibcbaaaGreatDoor.PA
open Go Go.Proofs.YtghiibdhibcbaaaGreatDoor.CS
set_option linter.unusedSimpArgs false
set_option linter.unusedVariables false
theorem digsH1 {n : Int} (h0 : 0 ≤ n) (h1 : n < 1000) : ∃ k, 1 ≤ k ∧ k ≤ 3 ∧ (k > 1 → (digL n 1).head? ≠ some 48) ∧ Digs (digL n 1) k n := by
  by_cases h : n < 10
  · exact ⟨1, by decide, by decide, fun h => absurd h (by decide), digs1 h0 h⟩
  · by_cases h2 : n < 100
    · have e : digL n 2 = digL n 1 := by rw [digL2 h0 h2, digL12 (by omega) h2]
      refine ⟨2, by decide, by decide, fun _ => ?_, digs_eq e (digs2 h0 h2)⟩
      rw [digL12 (by omega) h2]
      simp only [List.head?_cons, ne_eq, Option.some.injEq]
      intro e
      have := congrArg UInt8.toNat e
      rw [dg_nat] at this
      have h48 : (48 : UInt8).toNat = 48 := rfl
      omega
    · have e : digL n 3 = digL n 1 := by rw [digL3 h0 h1, digL13 (by omega) h1]
      refine ⟨3, by decide, by decide, fun _ => ?_, digs_eq e (digs3 h0 h1)⟩
      rw [digL13 (by omega) h1]
      simp only [List.head?_cons, ne_eq, Option.some.injEq]
      intro e
      have := congrArg UInt8.toNat e
      rw [dg_nat] at this
      have h48 : (48 : UInt8).toNat = 48 := rfl
      omega
/-- the parts of a number of a format's parts -/
theorem clk_parts {V G : Int} (g0 : 1 ≤ G) (v0 : 0 ≤ V) (v1 : V ≤ 360000 * G) :
    0 ≤ V / G / 3600 ∧ V / G / 3600 ≤ 100 ∧ 0 ≤ V / G / 60 % 60 ∧ V / G / 60 % 60 < 60 ∧ 0 ≤ V / G % 60 ∧ V / G % 60 < 60 ∧ 0 ≤ V % G ∧ V % G < G ∧ (V / G / 3600 * 3600 + V / G / 60 % 60 * 60 + V / G % 60) * G + V % G = V := by
  have t0 : 0 ≤ V / G := Int.ediv_nonneg v0 (by omega)
  have t1 : V / G ≤ 360000 := Int.le_of_lt_add_one ((Int.ediv_lt_iff_lt_mul (by omega)).mpr (by omega))
  have r0 := Int.emod_nonneg V (show G ≠ 0 by omega)
  have r1 := Int.emod_lt_of_pos V (show 0 < G by omega)
  have e := Int.mul_ediv_add_emod V G
  obtain ⟨T, hT⟩ : ∃ T, V / G = T := ⟨_, rfl⟩
  rw [hT] at t0 t1 e ⊢
  refine ⟨by omega, by omega, by omega, by omega, by omega, by omega, r0, r1, ?_⟩
  rw [show T / 3600 * 3600 + T / 60 % 60 * 60 + T % 60 = T by omega, Int.mul_comm T G]
  exact e
end Go.Proofs.YtghiibdhibcbaaaGreatDoor.PA
namespace Go.Proofs.YtghiibdhibcbaaaGreatDoor.PA
open Go Go.Proofs.YtghiibdhibcbaaaGreatDoor.CS
set_option linter.unusedSimpArgs false
set_option linter.unusedVariables false
theorem rtxL_len {n d : Int} {dr : Bool} (o : Ok n d dr) : 1 ≤ (rtxL n d dr).length ∧ (rtxL n d dr).length ≤ 50 := by
  have n1 := o.n1
  have n2 := o.n2
  have d1 := o.d1
  have d2 := o.d2
  have l1 := itoa_len n (by omega) (by omega)
  have l2 := itoa_len d (by omega) (by omega)
  have l3 := itoa_one n
  rw [bs_size] at l1 l2 l3
  unfold rtxL
  simp only [List.length_append]
  constructor
  · omega
  · split <;> split <;> (simp only [List.length_cons, List.length_nil]; omega)
end Go.Proofs.YtghiibdhibcbaaaGreatDoor.PA
namespace Go.Proofs.YtghiibdhibcbaaaGreatDoor.PA
open Go Go.Proofs.YtghiibdhibcbaaaGreatDoor.CS
set_option linter.unusedSimpArgs false
set_option linter.unusedVariables false
theorem lab_len {n d fr : Int} {dr : Bool} (h : okR n d dr = true) (hf : inF n d fr = true) : 1 ≤ (labL n d dr fr).length ∧ (labL n d dr fr).length ≤ 50 := by
  have o := okR_iff.mp h
  obtain ⟨f0, f1⟩ := full_le o
  obtain ⟨M, K, e1, k0, k1, M0, e2, e3⟩ := num_read o (fr_le o hf).1
  have hM := minutes_few h hf e1 k0 e2
  rw [labL_parts o e1 k0 k1]
  obtain ⟨F, hF⟩ : ∃ F, full n d = F := ⟨_, rfl⟩
  rw [hF] at f0 f1 k1 ⊢
  have a0 : 0 ≤ K / F := Int.ediv_nonneg k0 (by omega)
  have a1 : K / F < 60 := (Int.ediv_lt_iff_lt_mul (by omega)).mpr k1
  have c0 := Int.emod_nonneg K (show F ≠ 0 by omega)
  have c1 := Int.emod_lt_of_pos K (show 0 < F by omega)
  obtain ⟨j, hj, dh⟩ := digsH (n := M / 60) (by omega) (by omega)
  have l1 := dh.len
  have l2 := len2 (a := M % 60) (by omega) (by omega)
  have l3 := len2 a0 (by omega)
  have l4 := lenw c0 c1 f1
  have l5 : wide F ≤ 3 := by unfold wide; split <;> omega
  unfold labT
  simp only [List.length_append, List.length_cons, l1, l2, l3, l4]
  omega
theorem clk_len {f V : Int} (hf : f = 1 ∨ f = 2 ∨ f = 4) (v0 : 0 ≤ V) (v1 : V ≤ 360000 * partsOf f) : 1 ≤ (clkL f V).length ∧ (clkL f V).length ≤ 50 := by
  have g0 : 1 ≤ partsOf f := by rcases hf with rfl | rfl | rfl <;> decide
  obtain ⟨h0, h1, m0, m1, s0, s1, k0, k1, e⟩ := clk_parts g0 v0 v1
  have l2 := len2 m0 (by omega)
  have l3 := len2 s0 (by omega)
  have hl : (digL (V % partsOf f) (widthOf f)).length ≤ 3 := by
    rcases hf with rfl | rfl | rfl
    · rw [show widthOf 1 = 3 from rfl, (digs3 k0 k1).len]; decide
    · rw [show widthOf 2 = 3 from rfl, (digs3 k0 k1).len]; decide
    · rw [show widthOf 4 = 2 from rfl, (digs2 k0 k1).len]; decide
  have hh : (digL (V / partsOf f / 3600) (leastOf f)).length ≤ 3 := by
    rcases hf with rfl | rfl | rfl
    · obtain ⟨j, hj, dh⟩ := digsH h0 (by omega); rw [show leastOf 1 = 2 from rfl, dh.len]; omega
    · obtain ⟨j, hj, dh⟩ := digsH h0 (by omega); rw [show leastOf 2 = 2 from rfl, dh.len]; omega
    · obtain ⟨j, j1, j3, hj, dh⟩ := digsH1 h0 (by omega); rw [show leastOf 4 = 1 from rfl, dh.len]; omega
  unfold clkL clkT
  simp only [List.length_append, List.length_cons, l2, l3]
  omega
/-- a whole second's clock -/
theorem clk_whole {f q : Int} (q0 : 0 ≤ q) (q1 : q ≤ 360000) (h : (clkS f q 1).2 = 0) : 1 ≤ (clkS f q 1).1.length ∧ (clkS f q 1).1.length ≤ 50 := by
  by_cases hf : f = 1 ∨ f = 2 ∨ f = 4
  · have hp : 1 ≤ partsOf f ∧ partsOf f ≤ 1000 := by rcases hf with rfl | rfl | rfl <;> decide
    have ht : timeS q 1 = 0 := by rw [timeS_iff, if_pos ⟨by decide, by decide, by omega, by simp⟩, if_pos ⟨q0, by omega⟩]
    have e : clkS f q 1 = (clkL f (q * (partsOf f / 1)), 0) := by
      unfold clkS
      rw [if_neg (by omega), if_pos ht, if_pos (by omega)]
    rw [e]
    obtain ⟨G, hG⟩ : ∃ G, partsOf f = G := ⟨_, rfl⟩
    have e2 : q * (partsOf f / 1) = q * G := by rw [hG, Int.ediv_one]
    rw [e2]
    refine clk_len hf (Int.mul_nonneg q0 (by omega)) ?_
    rw [hG]
    exact Int.mul_le_mul_of_nonneg_right q1 (by omega)
  · have e : clkS f q 1 = ([], 5) := by unfold clkS partsOf; rw [if_neg (show ¬ f = 1 from fun e => hf (.inl e)), if_neg (show ¬ f = 2 from fun e => hf (.inr (.inl e))), if_neg (show ¬ f = 4 from fun e => hf (.inr (.inr e))), if_pos rfl]
    rw [e] at h
    exact absurd h (by decide)
end Go.Proofs.YtghiibdhibcbaaaGreatDoor.PA
