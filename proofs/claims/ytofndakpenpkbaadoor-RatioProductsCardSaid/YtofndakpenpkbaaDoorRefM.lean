/- What the reference's Mul, Div tell is what the program tells. -/
import Derived.Test.YtofndakpenpkbaaDoorRefO
import Derived.Test.YtofndakpenpkbaaDoorPMx1
namespace Go.Proofs.YtofndakpenpkbaaDoor.PA
open Go.RowKit Go.Proofs.YtofndakpenpkbaaDoorW.PrintWords Go.Proofs.YtofndakpenpkbaaDoorW.PrintLast Go.Proofs.YtofndakpenpkbaaDoorW.PrintMore Go.Proofs.YtofndakpenpkbaaDoor.PR Go.Proofs.YtofndakpenpkbaaDoor.PO Go.Proofs.YtofndakpenpkbaaDoor.PM
set_option linter.unusedSimpArgs false
set_option linter.unusedVariables false
theorem mul_neg_of {a d : Int} (hd : 0 < d) : decide (a * d < 0) = decide (a < 0) := by
  rw [decide_eq_decide]
  constructor
  · intro h
    by_cases h1 : a < 0
    · exact h1
    · have := Int.mul_nonneg (show 0 ≤ a by omega) (show 0 ≤ d by omega); omega
  · intro h; exact Int.mul_neg_of_neg_of_pos h hd
theorem fitS_val {s t : Bool} {n m d e : Nat} (hd : 0 < d) (he : d = e) (h : (if s = true then -(n : Int) else n) = (if t = true then -(m : Int) else m)) : fitS s n d = fitS t m e := by
  subst he
  rw [fitS_T3 _ _ _ hd, fitS_T3 _ _ _ hd, h]
theorem mulR (k : Nat) (hk : 2147483648 < k) (a b c d : Int) : surtitleref3_Mul.f k a b c d = some (mulS a b c d) := by
  unfold surtitleref3_Mul.f
  rw [bothR k hk]
  simp only [Option.bind_some]
  by_cases h : (rightS a b && rightS c d) = true
  · rw [if_pos h]
    rw [Bool.and_eq_true] at h
    obtain ⟨b1, b2, b3, _⟩ := right_bounds h.1
    obtain ⟨d1, d2, d3, _⟩ := right_bounds h.2
    rw [timesW a c (by omega) (by omega) (by omega) (by omega), timesW b d (by omega) (by omega) (by omega) (by omega)]
    simp only [Option.bind_some]
    have m1 : (a * c).natAbs ≤ 21267647932558653966460912964485513216 := by rw [Int.natAbs_mul]; exact Nat.mul_le_mul b3 d3
    have m3 : (b * d).natAbs ≤ 4611686018427387904 := by rw [Int.natAbs_mul]; exact Nat.mul_le_mul (show b.natAbs ≤ 2147483648 by omega) (show d.natAbs ≤ 2147483648 by omega)
    have m4 : 0 < b * d := Int.mul_pos (by omega) (by omega)
    have e : wI (b * d) = (false, hiN (b * d).natAbs, loN (b * d).natAbs) := by unfold wI; rw [decide_eq_false (by omega)]
    rw [e]
    dsimp only
    rw [lowest_f _ _ (by omega) (by omega) (by omega)]
    simp only [Option.bind_some]
    congr 1
    unfold mulS
    rw [if_pos (by rw [h.1, h.2]; rfl)]
    refine fitS_val (by omega) (Int.natAbs_mul b d) ?_
    rw [sgn_mul]
    exact sgn_abs _
  · rw [if_neg h, (bad2 (by simpa using h)).2.2.1]
theorem divR (k : Nat) (hk : 2147483648 < k) (a b c d : Int) : surtitleref3_Div.f k a b c d = some (divS a b c d) := by
  unfold surtitleref3_Div.f
  rw [bothR k hk]
  simp only [Option.bind_some]
  by_cases h : (rightS a b && rightS c d) = true
  · rw [if_pos h]
    have h0 := h
    rw [Bool.and_eq_true] at h
    by_cases hc : c = 0
    · subst hc
      rw [if_pos rfl]
      unfold divS
      rw [if_pos h0, if_pos rfl]
    rw [if_neg hc]
    obtain ⟨b1, b2, b3, _⟩ := right_bounds h.1
    obtain ⟨d1, d2, d3, _⟩ := right_bounds h.2
    rw [timesW a d (by omega) (by omega) (by omega) (by omega), timesW b c (by omega) (by omega) (by omega) (by omega)]
    simp only [Option.bind_some]
    have m1 : (a * d).natAbs ≤ 9903520314283042199192993792 := by rw [Int.natAbs_mul]; exact Nat.mul_le_mul b3 (show d.natAbs ≤ 2147483648 by omega)
    have m2 : (b * c).natAbs ≤ 9903520314283042199192993792 := by rw [Int.natAbs_mul, Nat.mul_comm]; exact Nat.mul_le_mul d3 (show b.natAbs ≤ 2147483648 by omega)
    have m4 : 0 < (b * c).natAbs := by
      have : b * c ≠ 0 := Int.mul_ne_zero (by omega) hc
      omega
    have e : ∀ s : Bool, (surtitleref3_right.f s (wI (a * d)).2.1 (wI (a * d)).2.2) = some (s && decide ((a * d).natAbs ≠ 0), hiN (a * d).natAbs, loN (a * d).natAbs) := fun s => rightW s (a * d).natAbs
    have hlow : ∀ s : Bool, surtitleref3_lowest.f (s && decide ((a * d).natAbs ≠ 0)) (hiN (a * d).natAbs) (loN (a * d).natAbs) false (hiN (b * c).natAbs) (loN (b * c).natAbs) = some (fitS (s && decide ((a * d).natAbs ≠ 0)) (a * d).natAbs (b * c).natAbs) := fun s => by
      unfold surtitleref3_lowest.f
      rw [wvN_hl, wvN_hl, if_pos ⟨hiN_ok (by omega), loN_ok _, hiN_ok (by omega), loN_ok _, rfl, fun h => by rw [h]; simp, by omega⟩]
    have hs1 := mul_neg_of (a := a) (show 0 < d by omega)
    have hs2 := mul_neg_of (a := c) (show 0 < b by omega)
    rw [Int.mul_comm c b] at hs2
    have hfin : ∀ s : Bool, (s = (decide (a < 0) != decide (c < 0))) → fitS (s && decide ((a * d).natAbs ≠ 0)) (a * d).natAbs (b * c).natAbs = divS a b c d := fun s hs => by
      unfold divS
      rw [if_pos h0, if_neg hc, Int.natAbs_mul a d, Int.natAbs_mul b c]
      rw [Int.natAbs_mul] at m4
      refine fitS_sign _ _ _ _ (fun hne => ?_) m4
      rw [hs]
      simp only [hne, ne_eq, not_false_eq_true, decide_true, Bool.and_true]
    by_cases h2 : b * c < 0
    · rw [if_pos (show (wI (b * c)).1 = true from decide_eq_true h2), e]
      simp only [Option.bind_some]
      rw [show (wI (b * c)).2.1 = hiN (b * c).natAbs from rfl, show (wI (b * c)).2.2 = loN (b * c).natAbs from rfl, hlow]
      simp only [Option.bind_some]
      congr 1
      refine hfin _ ?_
      show (!decide (a * d < 0)) = _
      rw [hs1, ← hs2, decide_eq_true h2]
      cases decide (a < 0) <;> rfl
    · rw [if_neg (show ¬ (wI (b * c)).1 = true from fun x => h2 (of_decide_eq_true x)), e]
      simp only [Option.bind_some]
      rw [show (wI (b * c)).1 = false from decide_eq_false h2, show (wI (b * c)).2.1 = hiN (b * c).natAbs from rfl, show (wI (b * c)).2.2 = loN (b * c).natAbs from rfl, hlow]
      simp only [Option.bind_some]
      congr 1
      refine hfin _ ?_
      show decide (a * d < 0) = _
      rw [hs1, ← hs2, decide_eq_false h2]
      cases decide (a < 0) <;> rfl
  · rw [if_neg h, (bad2 (by simpa using h)).2.2.2]
end Go.Proofs.YtofndakpenpkbaaDoor.PA
