/- The reference: digits. -/
import Derived.Test.YtghiibdhibcbaaaDoorRfC
import Derived.Test.YtghiibdhibcbaaaDoorDigT
import Derived.Laws.IdiomStrings
namespace Go.Proofs.YtghiibdhibcbaaaDoor.PA
open Go Go.RowKit Go.Proofs.YtghiibdhibcbaaaDoorW.PrintWords Go.Proofs.YtghiibdhibcbaaaDoorW.PrintLast Go.Proofs.YtghiibdhibcbaaaDoorW.PrintMore Go.Proofs.YtghiibdhibcbaaaDoor.CS
set_option linter.unusedSimpArgs false
set_option linter.unusedVariables false
/-- the last k digits -/
def padL (N : Nat) : Nat → List UInt8
  | 0 => []
  | k + 1 => dg (N / 10 ^ k) :: padL N k
theorem padL_snoc (N k : Nat) : padL N (k + 1) = padL (N / 10) k ++ [dg N] := by
  induction k with
  | zero => simp [padL]
  | succ k ih =>
    rw [padL, ih, padL, Nat.div_div_eq_div_mul, Nat.pow_succ, Nat.mul_comm 10]; rfl
theorem padL_dec : ∀ (k N : Nat), N < 10 ^ (k + 1) → (k = 0 ∨ 10 ^ k ≤ N) → padL N (k + 1) = Lib.decDigits N := by
  intro k
  induction k with
  | zero => intro N h _; rw [padL_snoc, dec1 (by simpa using h)]; rfl
  | succ k ih =>
    intro N h1 h2
    have h3 : 10 ^ (k + 1) ≤ N := h2.resolve_left (by omega)
    have e1 : (10 : Nat) ^ (k + 1) = 10 ^ k * 10 := Nat.pow_succ _ _
    have e2 : (10 : Nat) ^ (k + 1 + 1) = 10 ^ (k + 1) * 10 := Nat.pow_succ _ _
    have hp : 1 ≤ 10 ^ k := Nat.one_le_pow _ _ (by decide)
    rw [padL_snoc, ParD.dec_big (by omega), ih (N / 10) (by omega) (by omega)]
    rfl
theorem padL_pad (N k : Nat) (h : N < 10 ^ k) (j : Nat) : padL N (k + j) = List.replicate j 48 ++ padL N k := by
  induction j with
  | zero => rfl
  | succ j ih =>
    have h2 : N / 10 ^ (k + j) = 0 := Nat.div_eq_of_lt (Nat.lt_of_lt_of_le h (Nat.pow_le_pow_right (by decide) (by omega)))
    rw [← Nat.add_assoc, padL, ih, h2, List.replicate_succ]; rfl
theorem dec_bound (N : Nat) : ∃ k, (Lib.decDigits N).length = k + 1 ∧ N < 10 ^ (k + 1) ∧ (k = 0 ∨ 10 ^ k ≤ N) := by
  induction N using Nat.strongRecOn with
  | ind N ih =>
    by_cases h : N < 10
    · exact ⟨0, by rw [dec1 h]; rfl, by simpa using h, .inl rfl⟩
    · obtain ⟨k, h1, h2, h3⟩ := ih (N / 10) (by omega)
      have e1 : (10 : Nat) ^ (k + 1) = 10 ^ k * 10 := Nat.pow_succ _ _
      have e2 : (10 : Nat) ^ (k + 1 + 1) = 10 ^ (k + 1) * 10 := Nat.pow_succ _ _
      refine ⟨k + 1, by rw [ParD.dec_big h, List.length_append, h1]; rfl, by omega, .inr ?_⟩
      rcases h3 with rfl | h3 <;> omega
/-- where the loop ends -/
theorem padL_end {N L k : Nat} (h1 : N / 10 ^ k = 0) (h2 : L ≤ k) (h3 : k ≤ max L (Lib.decDigits N).length) (hL : 1 ≤ L) : padL N k = digL (N : Int) L := by
  obtain ⟨j, e1, e2, e3⟩ := dec_bound N
  have hN : N < 10 ^ k := by
    have := Nat.div_eq_zero_iff.mp h1
    have hp : 1 ≤ 10 ^ k := Nat.one_le_pow _ _ (by decide)
    omega
  have hjk : j + 1 ≤ k := by
    rcases e3 with rfl | e3
    · omega
    · have : 10 ^ j < 10 ^ k := Nat.lt_of_le_of_lt e3 hN
      have := (Nat.pow_lt_pow_iff_right (by decide : 1 < 10)).mp this
      omega
  unfold digL
  rw [itoa_nat (by omega), Int.toNat_natCast]
  rw [show k = (j + 1) + (k - (j + 1)) by omega, padL_pad N (j + 1) e2, padL_dec j N e2 e3]
  congr 2
  omega
theorem padL_len (N k : Nat) : (padL N k).length = k := by
  induction k with
  | zero => rfl
  | succ k ih => rw [padL, List.length_cons, ih]
def loopD (w wr : World) (N L : Nat) (x y z : Value) : Prop :=
  ∃ k : Nat, k ≤ max L (Lib.decDigits N).length ∧ x = .int .i64 ((N / 10 ^ k : Nat) : Int) ∧ y = .int .i64 ((L : Int) - k) ∧ z = .string (bs (padL N k)) ∧ Below w.heap.size w wr
set_option maxHeartbeats 1600000 in
set_option maxRecDepth 100000 in
theorem rdigits_nat (N L : Nat) (hL : 1 ≤ L) (hL2 : L ≤ 10) (hN : N ≤ 1000000000) (w : World) :
    Calls Tryd.prog 54 #[.int .i64 (N : Int), .int .i64 (L : Int)] w fun e w' => e = .returned (.string (bs (digL (N : Int) L))) ∧ Below w.heap.size w w' := by
  obtain ⟨j, e1, e2, e3⟩ := dec_bound N
  have hj : j ≤ 9 := by
    rcases e3 with rfl | e3
    · omega
    · have : 10 ^ j < 10 ^ 10 := Nat.lt_of_le_of_lt e3 (by omega)
      have := (Nat.pow_lt_pow_iff_right (by decide : 1 < 10)).mp this
      omega
  have hlen : max L (Lib.decDigits N).length ≤ 10 := by omega
  have hE := Lib.hid (fun k h1 h2 h3 => padL_end (N := N) (L := L) (k := k) h1 h2 h3 hL)
  have hE2 := Lib.hid e2
  have hE1 := Lib.hid e1
  clear e1 e2 e3
  go_enter Tryd.func54, Tryd.ntmps54
  go_wp2
  go_loopw [0, 1, 5] (fun x y z wr => loopD w wr N L x y z) (fun x y _ _ => (intOf x).toNat + (intOf y).toNat)
  case atStart => exact ⟨0, by omega, by simp, by simp, rfl, Below.refl _ _⟩
  case round =>
    obtain ⟨k, hk, rfl, rfl, rfl, hB⟩ := hrel
    have HB := Lib.hid hB
    have hu : N / 10 ^ k ≤ 1000000000 := Nat.le_trans (Nat.div_le_self _ _) hN
    have hnext : N / 10 ^ k / 10 = N / 10 ^ (k + 1) := by rw [Nat.div_div_eq_div_mul, Nat.pow_succ]
    obtain ⟨u, hue⟩ : ∃ u, N / 10 ^ k = u := ⟨_, rfl⟩
    obtain ⟨S, hS⟩ : ∃ S, bs (padL N k) = S := ⟨_, rfl⟩
    have hsz : S.size ≤ 10 := by rw [← hS, bs_size, padL_len]; omega
    rw [hue] at hu hnext ⊢
    rw [hS]
    have HU := Lib.hid hue
    have HS := Lib.hid hS
    have HN := Lib.hid hnext
    have hc : ((dg u).toNat : Int) = 48 + (u : Int) % 10 := by rw [dg_nat]; omega
    have HC := Lib.hid hc
    clear hue hS hnext hB hc
    have kc : (convert 92 9 (.slice (some ⟨wr.heap.size, 0, none⟩) 1 1)).run Tryd.prog (wr.alloc (.cells #[.int .u8 (48 + (u : Int) % 10)] 5)) = .ok (.string ⟨#[dg u]⟩) (wr.alloc (.cells #[.int .u8 (48 + (u : Int) % 10)] 5)) := by
      refine run_convert_bytes_back (P := Tryd.prog) _ 92 9 5 ⟨wr.heap.size, 0, none⟩ 1 [dg u] Tryd.underlying92 Tryd.underlying5 Tryd.underlying9 (fun j hj => ?_)
      have hj0 : j = 0 := by simpa using hj
      subst hj0
      rw [← HC.out]
      exact Hand.cell_of (Hand.q3 _ _ _ rfl) 0 _ rfl
    have key := Lib.hid (fun (wr' : World) (hb : Below w.heap.size w wr') (hk1 : k + 1 ≤ max L (Lib.decDigits N).length) =>
      (⟨k + 1, hk1, by rw [← HN.out]; simp, by congr 1; omega, by rw [padL, HU.out, ← HS.out]; exact congrArg Value.string (bs_cat [dg u] (padL N k)), hb⟩ : loopD w wr' N L (.int .i64 ((u : Int) / 10)) (.int .i64 ((L : Int) - k - 1)) (.string ((⟨#[dg u]⟩ : ByteArray) ++ S))))
    by_cases hx : 0 < u
    · have hk1 : k + 1 ≤ max L (Lib.decDigits N).length := by
        have hk2 : k < (Lib.decDigits N).length := by
          refine Nat.lt_of_not_le (fun h => ?_)
          have h1 : N < 10 ^ k := Nat.lt_of_lt_of_le hE2.out (Nat.pow_le_pow_right (by decide) (by rw [← hE1.out]; exact h))
          have h2 : N / 10 ^ k = 0 := Nat.div_eq_of_lt h1
          rw [HU.out] at h2; omega
        omega
      go_wp2
      go_roundw
      case rel => exact key.out _ ((HB.out.alloc (by have := HB.out.size; omega) _)) hk1
      case measure => simp [intOf]; omega
    · by_cases hy : 0 < (L : Int) - k
      · go_wp2
        go_roundw
        case rel => exact key.out _ ((HB.out.alloc (by have := HB.out.size; omega) _)) (by omega)
        case measure => simp [intOf]; omega
      · go_wp2
        go_ret
        refine ⟨?_, HB.out⟩
        rw [← hE.out k (by rw [HU.out]; omega) (by omega) hk, HS.out]; rfl
theorem rdigits_any (n : Int) (L : Nat) (hL : 1 ≤ L) (hL2 : L ≤ 10) (n0 : 0 ≤ n) (n1 : n ≤ 1000000000) (w : World) :
    Calls Tryd.prog 54 #[.int .i64 n, .int .i64 (L : Int)] w fun e w' => e = .returned (.string (bs (digL n L))) ∧ Below w.heap.size w w' := by
  have h := rdigits_nat n.toNat L hL hL2 (by omega) w
  rw [Int.toNat_of_nonneg n0] at h
  exact h
end Go.Proofs.YtghiibdhibcbaaaDoor.PA
