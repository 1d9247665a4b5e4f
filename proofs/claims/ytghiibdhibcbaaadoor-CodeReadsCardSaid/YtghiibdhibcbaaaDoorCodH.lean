/- code: Clock told at all inputs. -/
import Derived.Test.YtghiibdhibcbaaaDoorCodG
namespace Go.Proofs.YtghiibdhibcbaaaDoor.PA
open Go Go.RowKit Go.Proofs.YtghiibdhibcbaaaDoor.CS
set_option linter.unusedSimpArgs false
set_option linter.unusedVariables false
/-- how many parts a format's second has; 0: it has no clocks -/
def partsOf (f : Int) : Int := if f = 1 then 1000 else if f = 2 then 1000 else if f = 4 then 100 else 0
def pointOf (f : Int) : UInt8 := if f = 1 then 44 else 46
def leastOf (f : Int) : Nat := if f = 4 then 1 else 2
def widthOf (f : Int) : Nat := if f = 4 then 2 else 3
def clkT (f : Int) (h m s k : Int) : List UInt8 := digL h (leastOf f) ++ 58 :: (digL m 2 ++ 58 :: (digL s 2 ++ pointOf f :: digL k (widthOf f)))
def clkL (f k : Int) : List UInt8 := clkT f (k / partsOf f / 3600) (k / partsOf f / 60 % 60) (k / partsOf f % 60) (k % partsOf f)
def clkS (f a b : Int) : List UInt8 × Int :=
  if partsOf f = 0 then ([], 5) else if timeS a b = 0 then (if partsOf f % b = 0 then (clkL f (a * (partsOf f / b)), 0) else ([], 1)) else ([], timeS a b)
theorem clk_le {G a b : Int} (hG : 1 ≤ G) (hG2 : G ≤ 1000) (h : timeS a b = 0) (hz : G % b = 0) : 0 ≤ G / b ∧ G / b ≤ 1000 ∧ 0 ≤ a * (G / b) ∧ a * (G / b) ≤ 360000 * G := by
  obtain ⟨_, b1, _, a0, a1⟩ := timeS_le h
  have q0 : 0 ≤ G / b := Int.ediv_nonneg (by omega) (by omega)
  have q1 : G / b ≤ G := Int.ediv_le_self _ (by omega)
  have e : b * (G / b) = G := Int.mul_ediv_cancel' (Int.dvd_of_emod_eq_zero hz)
  refine ⟨q0, by omega, Int.mul_nonneg a0 q0, ?_⟩
  calc a * (G / b) ≤ (360000 * b) * (G / b) := Int.mul_le_mul_of_nonneg_right a1 q0
    _ = 360000 * G := by rw [Int.mul_assoc, e]
theorem clkL_cat (f k : Int) (p : UInt8) (h : pointOf f = p) : bs (clkL f k) = bs (digL (k / partsOf f / 3600) (leastOf f)) ++ (⟨#[58]⟩ : ByteArray) ++ bs (digL (k / partsOf f / 60 % 60) 2) ++ (⟨#[58]⟩ : ByteArray) ++ bs (digL (k / partsOf f % 60) 2) ++ (⟨#[p]⟩ : ByteArray) ++ bs (digL (k % partsOf f) (widthOf f)) := by
  unfold clkL clkT
  rw [h, show (⟨#[58]⟩ : ByteArray) = bs [58] from rfl, show (⟨#[p]⟩ : ByteArray) = bs [p] from rfl]
  simp only [bs_cat, List.append_assoc, List.cons_append, List.nil_append]
theorem clock_any (f a b : Int) (w : World) (ha0 : -9223372036854775808 ≤ a) (ha1 : a ≤ 9223372036854775807) (hb0 : -9223372036854775808 ≤ b) (hb1 : b ≤ 9223372036854775807) (ht : TabN w) :
    Calls Tryd.prog 23 #[.int .i64 f, .agg #[.int .i64 a, .int .i64 b]] w fun e w' => e = .returned (.tuple #[.string (bs (clkS f a b).1), .int .i64 (clkS f a b).2]) ∧ Below w.heap.size w w' := by
  have m1 := fun w => time_any a b w ha0 ha1 hb0 hb1
  have go : ∀ (G : Int) (p : UInt8) (k0 : 1 ≤ G ∧ G ≤ 1000), partsOf f = G → pointOf f = p →
      ((c : Int) → (c == 0) = false → (∀ w, Calls Tryd.prog 64 #[.agg #[.int .i64 a, .int .i64 b]] w fun e w' => e = .returned (.int .i64 c) ∧ Below w.heap.size w w') → Calls Tryd.prog 23 #[.int .i64 f, .agg #[.int .i64 a, .int .i64 b]] w fun e w' => e = .returned (.tuple #[.string ⟨#[]⟩, .int .i64 c]) ∧ Below w.heap.size w w') →
      (timeS a b = 0 → (∀ w, Calls Tryd.prog 64 #[.agg #[.int .i64 a, .int .i64 b]] w fun e w' => e = .returned (.int .i64 0) ∧ Below w.heap.size w w') → (G % b == 0) = false → Calls Tryd.prog 23 #[.int .i64 f, .agg #[.int .i64 a, .int .i64 b]] w fun e w' => e = .returned (.tuple #[.string ⟨#[]⟩, .int .i64 1]) ∧ Below w.heap.size w w') →
      (timeS a b = 0 → (∀ w, Calls Tryd.prog 64 #[.agg #[.int .i64 a, .int .i64 b]] w fun e w' => e = .returned (.int .i64 0) ∧ Below w.heap.size w w') → (G % b == 0) = true → Calls Tryd.prog 23 #[.int .i64 f, .agg #[.int .i64 a, .int .i64 b]] w fun e w' => e = .returned (.tuple #[.string (bs (clkL f (a * (G / b)))), .int .i64 0]) ∧ Below w.heap.size w w') →
      Calls Tryd.prog 23 #[.int .i64 f, .agg #[.int .i64 a, .int .i64 b]] w fun e w' => e = .returned (.tuple #[.string (bs (clkS f a b).1), .int .i64 (clkS f a b).2]) ∧ Below w.heap.size w w' := by
    intro G p hG e1 e2 c1 c2 c3
    unfold clkS
    rw [e1, if_neg (by omega)]
    by_cases ht : timeS a b = 0
    · rw [ht] at m1
      rw [if_pos ht]
      by_cases hz : G % b = 0
      · rw [if_pos hz]; exact c3 ht m1 (by simpa using hz)
      · rw [if_neg hz]; exact c2 ht m1 (beq_f hz)
    · rw [if_neg ht]; exact c1 _ (beq_f ht) m1
  have ok : ∀ (G : Int), 1 ≤ G → G ≤ 1000 → timeS a b = 0 → (G % b == 0) = true → 1 ≤ b ∧ b ≤ 1048576 ∧ 0 ≤ G / b ∧ G / b ≤ 1000 ∧ 0 ≤ a * (G / b) ∧ a * (G / b) ≤ 1000000000 ∧ 0 ≤ a * (G / b) / G ∧ a * (G / b) / G ≤ 1000000000 ∧ 0 ≤ a * (G / b) % G ∧ a * (G / b) % G < G := by
    intro G h1 h2 ht hz
    obtain ⟨_, b1, b2, _, _⟩ := timeS_le ht
    obtain ⟨q0, q1, k0, k1⟩ := clk_le h1 h2 ht (by simpa using hz)
    have s1 : a * (G / b) / G ≤ a * (G / b) := Int.ediv_le_self _ k0
    have s0 : 0 ≤ a * (G / b) / G := Int.ediv_nonneg k0 (by omega)
    exact ⟨b1, b2, q0, q1, k0, by omega, s0, by omega, Int.emod_nonneg _ (by omega), Int.emod_lt_of_pos _ (by omega)⟩
  by_cases h1 : f = 1
  · subst h1
    refine go 1000 44 (by omega) rfl rfl (fun c hc m => clock_time1 a b c hc w m) (fun ht m hz => clock_arg1 a b (timeS_le ht).2.1 (timeS_le ht).2.2.1 hz w m) (fun tt m hz => ?_)
    obtain ⟨b1, b2, q0, q1, k0, k1, s0, s1, r0, r1⟩ := ok 1000 (by omega) (by omega) tt hz
    rw [clkL_cat 1 _ 44 rfl, show partsOf 1 = 1000 from rfl]
    exact clock_ok1 a b _ _ _ _ _ _ _ _ _ _ _ (bs (Lib.itoa 999)) b1 b2 hz rfl q0 q1 rfl k0 k1 rfl s0 s1 rfl rfl rfl rfl (digL_sz (by omega) (by omega) (by decide)) (digL_sz (by omega) (by omega) (by decide)) (digL_sz (by omega) (by omega) (by decide)) (digL_sz (by omega) (by omega) (by decide))
      (by rw [bs_size, itoa_nat (by omega), dec_len3 (by decide) (by decide)]; rfl) w ht m (digits_any _ 2 (by omega) (by omega) (by omega)) (digits_any _ 2 (by omega) (by omega) (by omega)) (digits_any _ 2 (by omega) (by omega) (by omega)) (format_any 999 (by omega) (by omega)) (digits_any _ 3 (by omega) (by omega) (by omega))
  · by_cases h2 : f = 2
    · subst h2
      refine go 1000 46 (by omega) rfl rfl (fun c hc m => clock_time2 a b c hc w m) (fun ht m hz => clock_arg2 a b (timeS_le ht).2.1 (timeS_le ht).2.2.1 hz w m) (fun tt m hz => ?_)
      obtain ⟨b1, b2, q0, q1, k0, k1, s0, s1, r0, r1⟩ := ok 1000 (by omega) (by omega) tt hz
      rw [clkL_cat 2 _ 46 rfl, show partsOf 2 = 1000 from rfl]
      exact clock_ok2 a b _ _ _ _ _ _ _ _ _ _ _ (bs (Lib.itoa 999)) b1 b2 hz rfl q0 q1 rfl k0 k1 rfl s0 s1 rfl rfl rfl rfl (digL_sz (by omega) (by omega) (by decide)) (digL_sz (by omega) (by omega) (by decide)) (digL_sz (by omega) (by omega) (by decide)) (digL_sz (by omega) (by omega) (by decide))
        (by rw [bs_size, itoa_nat (by omega), dec_len3 (by decide) (by decide)]; rfl) w ht m (digits_any _ 2 (by omega) (by omega) (by omega)) (digits_any _ 2 (by omega) (by omega) (by omega)) (digits_any _ 2 (by omega) (by omega) (by omega)) (format_any 999 (by omega) (by omega)) (digits_any _ 3 (by omega) (by omega) (by omega))
    · by_cases h4 : f = 4
      · subst h4
        refine go 100 46 (by omega) rfl rfl (fun c hc m => clock_time4 a b c hc w m) (fun ht m hz => clock_arg4 a b (timeS_le ht).2.1 (timeS_le ht).2.2.1 hz w m) (fun tt m hz => ?_)
        obtain ⟨b1, b2, q0, q1, k0, k1, s0, s1, r0, r1⟩ := ok 100 (by omega) (by omega) tt hz
        rw [clkL_cat 4 _ 46 rfl, show partsOf 4 = 100 from rfl]
        exact clock_ok4 a b _ _ _ _ _ _ _ _ _ _ _ (bs (Lib.itoa 99)) b1 b2 hz rfl q0 q1 rfl k0 k1 rfl s0 s1 rfl rfl rfl rfl (digL_sz (by omega) (by omega) (by decide)) (digL_sz (by omega) (by omega) (by decide)) (digL_sz (by omega) (by omega) (by decide)) (digL_sz (by omega) (by omega) (by decide))
          (by rw [bs_size, itoa_nat (by omega), dec_len2 (by decide) (by decide)]; rfl) w ht m (digits_any _ 1 (by omega) (by omega) (by omega)) (digits_any _ 2 (by omega) (by omega) (by omega)) (digits_any _ 2 (by omega) (by omega) (by omega)) (format_any 99 (by omega) (by omega)) (digits_any _ 2 (by omega) (by omega) (by omega))
      · have e : clkS f a b = ([], 5) := by unfold clkS partsOf; rw [if_neg h1, if_neg h2, if_neg h4, if_pos rfl]
        rw [e]; exact clock_kind a b f (beq_f h1) (beq_f h2) (beq_f h4) w
end Go.Proofs.YtghiibdhibcbaaaDoor.PA
