/- CodeTurns: a right text, turned, read by both. -/
import Derived.Test.YtghiibdhibcbaaaGreatDoorLwTrn
import Derived.Test.YtghiibdhibcbaaaGreatDoorLwNum
import Derived.Test.YtghiibdhibcbaaaGreatDoorLwRds
import Derived.Test.YtghiibdhibcbaaaGreatDoorMP
import Derived.Test.YtghiibdhibcbaaaGreatDoorMO
namespace Go.Proofs.YtghiibdhibcbaaaGreatDoor.PA
open Go Go.RowKit Go.Proofs.YtghiibdhibcbaaaGreatDoor.CS Go.ChangeShapes Go.WideShapes
set_option linter.unusedVariables false
set_option linter.unusedSimpArgs false
theorem bs_get (m : List UInt8) (i : Nat) (h : i < (bs m).size) (h2 : i < m.length) : (bs m)[i]'h = m[i]'h2 := by
  show (m.toArray)[i]'(by simpa using h2) = _
  simp
theorem turned_any (n d f at_ y cu : Int) (dr : Bool) (S M : ByteArray) (hn : (Lit.int .i64 n).wf = true) (hd : (Lit.int .i64 d).wf = true) (hf : (Lit.int .i64 f).wf = true) (s0 : 1 ≤ S.size) (s1 : S.size ≤ 1000) (w : World) (ht : TabN w) :
    Calls Tryz.prog 10 #[rate n d dr, .int .i64 f, .string S, .int .i64 at_, .int .u8 y, .int .i64 cu, .string M] w fun e w' => e = .returned (.bool true) ∧ Below w.heap.size w w' := by
  have m1 := fun w => within5_any at_ (S.size : Int) (by omega) (by omega) w
  have m2 := fun w => within5_any cu ((S.size : Int) + 1) (by omega) (by omega) w
  obtain ⟨k, hk⟩ : ∃ k : Nat, at_ % (S.size : Int) = (k : Int) := ⟨(at_ % (S.size : Int)).toNat, by have := Int.emod_nonneg at_ (show (S.size : Int) ≠ 0 by omega); omega⟩
  obtain ⟨j, hj⟩ : ∃ j : Nat, cu % ((S.size : Int) + 1) = (j : Int) := ⟨(cu % ((S.size : Int) + 1)).toNat, by have := Int.emod_nonneg cu (show (S.size : Int) + 1 ≠ 0 by omega); omega⟩
  have hk2 : k < S.size := by have := Int.emod_lt_of_pos at_ (show 0 < (S.size : Int) by omega); omega
  have hj2 : j ≤ S.size := by have := Int.emod_lt_of_pos cu (show 0 < (S.size : Int) + 1 by omega); omega
  rw [hk] at m1
  rw [hj] at m2
  obtain ⟨c, hc⟩ : ∃ c : UInt8, (c.toNat : Int) = (((S[k]'hk2).toNat : Int) + y) % 256 := by
    refine ⟨UInt8.ofNat (((((S[k]'hk2).toNat : Int) + y) % 256).toNat), ?_⟩
    have h0 := Int.emod_nonneg (((S[k]'hk2).toNat : Int) + y) (show (256 : Int) ≠ 0 by decide)
    have h1 := Int.emod_lt_of_pos (((S[k]'hk2).toNat : Int) + y) (show (0 : Int) < 256 by decide)
    rw [UInt8.toNat_ofNat']
    omega
  have hlen : S.data.toList.length = S.size := by rw [Array.length_toList]; rfl
  have e1 : (bs (S.data.toList.set k c)).size = S.size := by rw [bs_size, List.length_set, hlen]
  have e2 : ∀ i (h : i < (bs (S.data.toList.set k c)).size) (h2 : i < S.size), (((bs (S.data.toList.set k c))[i]'h).toNat : Int) = if i = k then (((S[k]'hk2).toNat : Int) + y) % 256 else ((S[i]'h2).toNat : Int) := by
    intro i h h2
    rw [bs_get _ i h (by rw [List.length_set, hlen]; exact h2), List.getElem_set]
    by_cases hik : i = k
    · rw [if_pos hik.symm, if_pos hik, hc]
    · rw [if_neg (fun e => hik e.symm), if_neg hik]
      rfl
  have z2 : (S.extract 0 j).size ≤ 1000 := by rw [ByteArray.size_extract]; omega
  have hN : ∀ (X : ByteArray), X.size ≤ 2000 → ∀ w, TabN w → Calls Tryz.prog 29 #[rate n d dr, .string X] w fun e w' => e = .returned (.bool true) ∧ Below w.heap.size w w' := fun X hX w ht => numbers5_true n d dr X hn hd (by show X.size ≤ 9223372036854775807; omega) w ht
  have hR : ∀ (X : ByteArray), X.size ≤ 2000 → ∀ w, TabN w → Calls Tryz.prog 30 #[.int .i64 f, .string X] w fun e w' => e = .returned (.bool true) ∧ Below w.heap.size w w' := fun X hX w ht => reads5_true f X hf (by show X.size ≤ 9223372036854775807; omega) w ht
  by_cases hM : M.size ≤ 50
  · have z3 : (S ++ M).size ≤ 2000 := by rw [ByteArray.size_append]; omega
    exact turned_short n d f at_ y cu dr S M k j _ _ _ _ w hM hk2 rfl e1 hj2 e2 rfl rfl s1 ht m1 m2 (hN _ (by omega)) (hN _ (by omega)) (hN _ z3) (hR _ (by omega)) (hR _ (by omega)) (hR _ z3)
  · have hE : (M.extract 0 50).size ≤ 50 := by rw [ByteArray.size_extract]; omega
    have z3 : (S ++ M.extract 0 50).size ≤ 2000 := by rw [ByteArray.size_append]; omega
    exact turned_long n d f at_ y cu dr S M k j _ _ _ _ w _ (by omega) rfl hE hk2 rfl e1 hj2 e2 rfl rfl s1 ht m1 m2 (hN _ (by omega)) (hN _ (by omega)) (hN _ z3) (hR _ (by omega)) (hR _ (by omega)) (hR _ z3)
theorem turns5_true (n d : Int) (dr : Bool) (fr f at_ y cu : Int) (M : ByteArray) (hn : (Lit.int .i64 n).wf = true) (hd : (Lit.int .i64 d).wf = true) (hr : (Lit.int .i64 fr).wf = true) (hf : (Lit.int .i64 f).wf = true) (ha : (Lit.int .i64 at_).wf = true) (hy : (Lit.int .u8 y).wf = true) (hc : (Lit.int .i64 cu).wf = true) (hM : M.size ≤ maxLen) (w : World) (ht : TabN w) :
    Calls Tryz.prog 3 #[rate n d dr, .int .i64 fr, .int .i64 f, .int .i64 at_, .int .u8 y, .int .i64 cu, .string M] w fun e w' => e = .returned (.bool true) ∧ Below w.heap.size w w' := by
  have m1 := fun w => rlabel_any n d fr dr w
  unfold lblS at m1
  have b := bounds_i64 hr
  have tu : ∀ (X : ByteArray), 1 ≤ X.size → X.size ≤ 1000 → ∀ w, TabN w → Calls Tryz.prog 10 #[rate n d dr, .int .i64 f, .string X, .int .i64 at_, .int .u8 y, .int .i64 cu, .string M] w fun e w' => e = .returned (.bool true) ∧ Below w.heap.size w w' := fun X h0 h1 w ht => turned_any n d f at_ y cu dr X M hn hd hf h0 h1 w ht
  by_cases h : okR n d dr = true
  · rw [if_pos h] at m1
    by_cases hi : inF n d fr = true
    · rw [if_pos hi] at m1
      have ll := lab_len h hi
      have lr := rtxL_len (okR_iff.mp h)
      have m2 := fun w => within5_any fr 360001 (by decide) (by decide) w
      obtain ⟨q, hq⟩ : ∃ q, fr % 360001 = q := ⟨_, rfl⟩
      rw [hq] at m2
      have m3 := fun w => rclock_any f q 1 w (by omega) (by omega) (by decide) (by decide)
      have m4 := fun w => rtext_any n d dr w
      unfold rtxS at m4
      rw [if_pos h] at m4
      have t5 := tu (bs (labL n d dr fr)) (by rw [bs_size]; omega) (by rw [bs_size]; omega)
      have t7 := tu (bs (rtxL n d dr)) (by rw [bs_size]; omega) (by rw [bs_size]; omega)
      by_cases he : (clkS f q 1).2 = 0
      · have lc := clk_whole (by omega) (by omega) he
        have t6 := tu (bs (clkS f q 1).1) (by rw [bs_size]; omega) (by rw [bs_size]; omega)
        rw [he] at m3
        exact turns_ok n d fr f at_ y cu q 0 _ dr M _ _ _ b.1 b.2 w ht known_any m1 m2 m3 m4 t5 t6 t7
      · have t6 := tu ⟨#[48, 48, 58, 48, 48, 58, 48, 48, 44, 48, 48, 48]⟩ (by decide) (by decide)
        exact turns_alt n d fr f at_ y cu q _ _ dr M _ _ _ (beq_f he) b.1 b.2 w ht known_any m1 m2 m3 m4 t5 t6 t7
    · rw [if_neg hi] at m1
      exact turns_no n d fr f at_ y cu 31 dr M _ (by decide) w ht known_any m1
  · rw [if_neg h] at m1
    exact turns_no n d fr f at_ y cu 14 dr M _ (by decide) w ht known_any m1
end Go.Proofs.YtghiibdhibcbaaaGreatDoor.PA
