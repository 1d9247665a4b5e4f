/- The reference: Clock told at all inputs. -/
import Derived.Test.YtghiibdhibcbaaaDoorRfG
namespace Go.Proofs.YtghiibdhibcbaaaDoor.PA
open Go Go.RowKit Go.Proofs.YtghiibdhibcbaaaDoor.CS
set_option linter.unusedSimpArgs false
set_option linter.unusedVariables false
theorem rdigits1 (n : Int) (n0 : 0 ≤ n) (n1 : n ≤ 1000000000) (w : World) :
    Calls Tryd.prog 54 #[.int .i64 n, .int .i64 1] w fun e w' => e = .returned (.string (bs (digL n 1))) ∧ Below w.heap.size w w' := rdigits_any n 1 (by decide) (by decide) n0 n1 w
theorem rdigits3 (n : Int) (n0 : 0 ≤ n) (n1 : n ≤ 1000000000) (w : World) :
    Calls Tryd.prog 54 #[.int .i64 n, .int .i64 3] w fun e w' => e = .returned (.string (bs (digL n 3))) ∧ Below w.heap.size w w' := rdigits_any n 3 (by decide) (by decide) n0 n1 w
theorem rclock_any (f a b : Int) (w : World) (ha0 : -9223372036854775808 ≤ a) (ha1 : a ≤ 9223372036854775807) (hb0 : -9223372036854775808 ≤ b) (hb1 : b ≤ 9223372036854775807) :
    Calls Tryd.prog 24 #[.int .i64 f, .agg #[.int .i64 a, .int .i64 b]] w fun e w' => e = .returned (.tuple #[.string (bs (clkS f a b).1), .int .i64 (clkS f a b).2]) ∧ Below w.heap.size w w' := by
  have m0 := rgridf_any f
  have m1 := fun w => rtimed_any a b ha0 ha1 hb0 hb1 w
  have ok : ∀ (G : Int), 1 ≤ G → G ≤ 1000 → timeS a b = 0 → (G % b == 0) = true → 1 ≤ b ∧ b ≤ 1048576 ∧ 0 ≤ G / b ∧ G / b ≤ 1000 ∧ 0 ≤ a * (G / b) ∧ a * (G / b) ≤ 1000000000 ∧ 0 ≤ a * (G / b) / G ∧ a * (G / b) / G ≤ 1000000000 ∧ 0 ≤ a * (G / b) % G ∧ a * (G / b) % G < G := by
    intro G h1 h2 ht hz
    obtain ⟨_, b1, b2, _, _⟩ := timeS_le ht
    obtain ⟨q0, q1, k0, k1⟩ := clk_le h1 h2 ht (by simpa using hz)
    have s1 : a * (G / b) / G ≤ a * (G / b) := Int.ediv_le_self _ k0
    have s0 : 0 ≤ a * (G / b) / G := Int.ediv_nonneg k0 (by omega)
    exact ⟨b1, b2, q0, q1, k0, by omega, s0, by omega, Int.emod_nonneg _ (by omega), Int.emod_lt_of_pos _ (by omega)⟩
  unfold clkS
  by_cases h1 : f = 1
  · subst h1
    rw [show partsOf 1 = 1000 from rfl] at m0 ⊢
    rw [if_neg (by decide)]
    by_cases ht : timeS a b = 0
    · rw [ht] at m1
      rw [if_pos ht]
      by_cases hz : (1000 : Int) % b = 0
      · have hz' : ((1000 : Int) % b == 0) = true := by simpa using hz
        obtain ⟨b1, b2, q0, q1, k0, k1, s0, s1, r0, r1⟩ := ok 1000 (by omega) (by omega) ht hz'
        rw [if_pos hz]
        dsimp only
        rw [clkL_cat 1 _ 44 rfl, show partsOf 1 = 1000 from rfl]
        exact rclock_ok1 a b _ _ _ _ _ _ _ ⟨#[]⟩ _ _ _ _ b1 b2 hz' rfl q0 q1 rfl k0 k1 rfl s0 s1 rfl rfl rfl rfl (digL_sz (by omega) (by omega) (by decide)) (digL_sz (by omega) (by omega) (by decide)) (digL_sz (by omega) (by omega) (by decide)) (digL_sz (by omega) (by omega) (by decide)) w m0 m1
          (rdigits2 _ (by omega) (by omega)) (rdigits2 _ (by omega) (by omega)) (rdigits2 _ (by omega) (by omega)) (rdigits3 _ (by omega) (by omega))
      · rw [if_neg hz]; exact rclock_arg1 a b (timeS_le ht).2.1 (timeS_le ht).2.2.1 (beq_f hz) w m0 m1
    · rw [if_neg ht]; exact rclock_time1 a b _ (beq_f ht) w m0 m1
  · by_cases h2 : f = 2
    · subst h2
      rw [show partsOf 2 = 1000 from rfl] at m0 ⊢
      rw [if_neg (by decide)]
      by_cases ht : timeS a b = 0
      · rw [ht] at m1
        rw [if_pos ht]
        by_cases hz : (1000 : Int) % b = 0
        · have hz' : ((1000 : Int) % b == 0) = true := by simpa using hz
          obtain ⟨b1, b2, q0, q1, k0, k1, s0, s1, r0, r1⟩ := ok 1000 (by omega) (by omega) ht hz'
          rw [if_pos hz]
          dsimp only
          rw [clkL_cat 2 _ 46 rfl, show partsOf 2 = 1000 from rfl]
          exact rclock_ok2 a b _ _ _ _ _ _ _ ⟨#[]⟩ _ _ _ _ b1 b2 hz' rfl q0 q1 rfl k0 k1 rfl s0 s1 rfl rfl rfl rfl (digL_sz (by omega) (by omega) (by decide)) (digL_sz (by omega) (by omega) (by decide)) (digL_sz (by omega) (by omega) (by decide)) (digL_sz (by omega) (by omega) (by decide)) w m0 m1
            (rdigits2 _ (by omega) (by omega)) (rdigits2 _ (by omega) (by omega)) (rdigits2 _ (by omega) (by omega)) (rdigits3 _ (by omega) (by omega))
        · rw [if_neg hz]; exact rclock_arg2 a b (timeS_le ht).2.1 (timeS_le ht).2.2.1 (beq_f hz) w m0 m1
      · rw [if_neg ht]; exact rclock_time2 a b _ (beq_f ht) w m0 m1
    · by_cases h4 : f = 4
      · subst h4
        rw [show partsOf 4 = 100 from rfl] at m0 ⊢
        rw [if_neg (by decide)]
        by_cases ht : timeS a b = 0
        · rw [ht] at m1
          rw [if_pos ht]
          by_cases hz : (100 : Int) % b = 0
          · have hz' : ((100 : Int) % b == 0) = true := by simpa using hz
            obtain ⟨b1, b2, q0, q1, k0, k1, s0, s1, r0, r1⟩ := ok 100 (by omega) (by omega) ht hz'
            rw [if_pos hz]
            dsimp only
            rw [clkL_cat 4 _ 46 rfl, show partsOf 4 = 100 from rfl]
            exact rclock_ok4 a b _ _ _ _ _ _ _ _ _ _ _ _ b1 b2 hz' rfl q0 q1 rfl k0 k1 rfl s0 s1 rfl rfl rfl rfl (digL_sz (by omega) (by omega) (by decide)) (digL_sz (by omega) (by omega) (by decide)) (digL_sz (by omega) (by omega) (by decide)) (digL_sz (by omega) (by omega) (by decide)) w m0 m1
              (rdigits2 _ (by omega) (by omega)) (rdigits1 _ (by omega) (by omega)) (rdigits2 _ (by omega) (by omega)) (rdigits2 _ (by omega) (by omega)) (rdigits2 _ (by omega) (by omega))
          · rw [if_neg hz]; exact rclock_arg4 a b (timeS_le ht).2.1 (timeS_le ht).2.2.1 (beq_f hz) w m0 m1
        · rw [if_neg ht]; exact rclock_time4 a b _ (beq_f ht) w m0 m1
      · have e : partsOf f = 0 := by unfold partsOf; rw [if_neg h1, if_neg h2, if_neg h4]
        rw [e] at m0 ⊢
        rw [if_pos rfl]; exact rclock_kind a b f w m0
end Go.Proofs.YtghiibdhibcbaaaDoor.PA
