/- RatioSnaps: the program's Snap and Time tell what the document's do. -/
import Derived.Test.YtofndakpenpkbaaDoorRefR
import Derived.Test.YtofndakpenpkbaaDoorRefL
import Derived.Test.YtofndakpenpkbaaDoorPTx1
import Derived.Test.YtofndakpenpkbaaDoorSnpC
import Derived.Test.YtofndakpenpkbaaDoorRefG
import Derived.Test.YtofndakpenpkbaaDoorRefO
import Derived.Test.YtofndakpenpkbaaDoorPIx2
import Derived.Test.YtofndakpenpkbaaDoorLSnapsx1
import Derived.OpenShut
namespace Go.Proofs.YtofndakpenpkbaaDoor.PA
open Go.RowKit Go.Proofs.YtofndakpenpkbaaDoorW.PrintWords Go.Proofs.YtofndakpenpkbaaDoorW.PrintLast Go.Proofs.YtofndakpenpkbaaDoorW.PrintMore Go.Proofs.YtofndakpenpkbaaDoor.PR Go.Proofs.YtofndakpenpkbaaDoor.PL Go.Proofs.YtofndakpenpkbaaDoor.PT
set_option linter.unusedSimpArgs false
set_option linter.unusedVariables false
theorem cmpI (a b c d : Int) (ha : -9223372036854775808 ≤ a ∧ a ≤ 9223372036854775807) (hb : 0 < b ∧ b ≤ 9223372036854775807) (hc : -9223372036854775808 ≤ c ∧ c ≤ 9223372036854775807) (hd : 0 < d ∧ d ≤ 9223372036854775807) :
    surtitleref3_Cmp.f a b c d = some (cmpS a b c d) := by
  unfold surtitleref3_Cmp.f
  rw [timesW a d (by omega) (by omega) (by omega) (by omega), timesW c b (by omega) (by omega) (by omega) (by omega)]
  simp only [Option.bind_some]
  rw [lessW, lessW]
  simp only [Option.bind_some]
  rw [cmpS_eq hb.1 hd.1]
  by_cases h1 : a * d < c * b
  · rw [if_pos (decide_eq_true h1), if_neg (by omega), if_pos h1]
  · rw [if_neg (by simpa using h1)]
    by_cases h2 : c * b < a * d
    · rw [if_pos (decide_eq_true h2), if_neg (by omega), if_neg h1]
    · rw [if_neg (by simpa using h2), if_pos (by omega)]
theorem refTime (k : Nat) (hk : 2147483648 < k) (a b : Int) : surtitleref3_Time.f k a b = some (timeS a b) := by
  unfold surtitleref3_Time.f timeS
  rw [rightR k hk]
  simp only [Option.bind_some]
  obtain ⟨k, rfl⟩ : ∃ m, k = m + 1 := ⟨k - 1, by omega⟩
  cases h : rightS a b
  · rw [if_neg (by decide), Bool.false_and, if_neg (by decide)]
    simp only [surtitleref3_Time.j0, if_true]
  · rw [if_pos rfl, Bool.true_and]
    have hb := right_bounds h
    by_cases h1 : b ≤ 1048576
    · rw [decide_eq_false (show ¬ b > 1048576 by omega), decide_eq_true h1, if_pos rfl]
      simp only [surtitleref3_Time.j0, Bool.false_eq_true, if_false]
      by_cases h2 : a < 0
      · rw [if_pos h2, if_pos h2]
      · rw [if_neg h2, if_neg h2, cmpI a b 360000 1 (by omega) (by omega) (by decide) (by decide)]
        simp only [Option.bind_some]
        by_cases h3 : cmpS a b 360000 1 > 0
        · rw [if_pos h3, if_pos h3]
        · rw [if_neg h3, if_neg h3]
    · rw [decide_eq_true (show b > 1048576 by omega), decide_eq_false h1, if_neg (by decide)]
      simp only [surtitleref3_Time.j0, if_true]
end Go.Proofs.YtofndakpenpkbaaDoor.PA
namespace Go.Proofs.YtofndakpenpkbaaDoor.PA
open Go.RowKit Go.Proofs.YtofndakpenpkbaaDoorW.PrintWords Go.Proofs.YtofndakpenpkbaaDoorW.PrintLast Go.Proofs.YtofndakpenpkbaaDoorW.PrintMore Go.Proofs.YtofndakpenpkbaaDoor.PR Go.Proofs.YtofndakpenpkbaaDoor.PO Go.Proofs.YtofndakpenpkbaaDoor.PP Go.Proofs.YtofndakpenpkbaaDoor.PF Go.Proofs.YtofndakpenpkbaaDoor.PI
set_option linter.unusedSimpArgs false
set_option linter.unusedVariables false
theorem fitS_val2 {s t : Bool} {n m d e : Nat} (hd : 0 < d) (he : d = e) (h : (if s = true then -(n : Int) else n) = (if t = true then -(m : Int) else m)) : fitS s n d = fitS t m e := by
  subst he
  rw [fitS_T3 _ _ _ hd, fitS_T3 _ _ _ hd, h]
theorem refSnap (k : Nat) (hk : 2147483648 < k) (a b c d how : Int) : surtitleref3_Snap.f k a b c d how = some (snapS a b c d how) := by
  unfold surtitleref3_Snap.f snapS
  rw [bothR k hk]
  simp only [Option.bind_some]
  by_cases h : (rightS a b && rightS c d) = true
  case neg => rw [if_neg h, if_neg h]
  rw [if_pos h, if_pos h]
  rw [Bool.and_eq_true] at h
  obtain ⟨b1, b2, b3, _⟩ := right_bounds h.1
  obtain ⟨d1, d2, d3, _⟩ := right_bounds h.2
  by_cases hc : c ≤ 0
  · rw [if_pos hc, if_pos hc]
  rw [if_neg hc, if_neg hc]
  obtain ⟨k, rfl⟩ : ∃ m, k = m + 4 := ⟨k - 4, by omega⟩
  by_cases hh : how = 1 ∨ how = 2 ∨ how = 3
  · rw [if_neg (by omega), decide_eq_false (by omega)]
    simp only [surtitleref3_Snap.j0, Bool.false_eq_true, if_false]
    rw [timesW a d (by omega) (by omega) (by omega) (by omega), timesW b c (by omega) (by omega) (by omega) (by omega)]
    simp only [Option.bind_some]
    have m1 : (a * d).natAbs ≤ 9903520314283042199192993792 := by rw [Int.natAbs_mul]; exact Nat.mul_le_mul b3 (show d.natAbs ≤ 2147483648 by omega)
    have m2 : (b * c).natAbs ≤ 9903520314283042199192993792 := by rw [Int.natAbs_mul, Nat.mul_comm]; exact Nat.mul_le_mul d3 (show b.natAbs ≤ 2147483648 by omega)
    have m3 : 0 < b * c := Int.mul_pos (by omega) (by omega)
    rw [wholeW k (by omega) (a * d) (b * c) how m3 (by omega) hh]
    simp only [Option.bind_some]
    rw [fitsW]
    simp only [Option.bind_some]
    unfold wholeT
    rw [if_pos hh, Int.natAbs_mul b c]
    by_cases hz : (wholeZ (a * d) (b.natAbs * c.natAbs) how).natAbs ≤ 4611686018427387904
    · rw [if_pos (decide_eq_true hz), if_pos hz, numberW _ hz]
      simp only [Option.bind_some, if_true]
      generalize hZ : wholeZ (a * d) (b.natAbs * c.natAbs) how = Z at hz ⊢
      rw [timesW Z c (by omega) (by omega) (by omega) (by omega), timesW d 1 (by omega) (by omega) (by omega) (by omega), Int.mul_one]
      simp only [Option.bind_some]
      have m4 : (Z * c).natAbs ≤ 21267647932558653966460912964485513216 := by rw [Int.natAbs_mul]; exact Nat.mul_le_mul hz d3
      have e : wI d = (false, hiN d.natAbs, loN d.natAbs) := by unfold wI; rw [decide_eq_false (by omega)]
      rw [e]
      dsimp only
      rw [lowest_f _ _ (by omega) (by omega) (by omega)]
      simp only [Option.bind_some, Prod.eta]
      congr 1
      unfold mulS
      rw [if_pos (by rw [right_n1 hz, h.2]; rfl)]
      refine fitS_val2 (by omega) (by simp) ?_
      rw [sgn_mul]
      exact sgn_abs _
    · rw [if_neg (by simpa using hz), if_neg hz, if_neg (by decide)]
  · have hw : wholeT (a * d) (b.natAbs * c.natAbs) how = (0, 1) := by unfold wholeT; rw [if_neg hh]
    rw [hw]
    by_cases h1 : how < 1
    · rw [if_pos h1]
      simp only [surtitleref3_Snap.j0, if_true]
      rfl
    · rw [if_neg h1, decide_eq_true (by omega)]
      simp only [surtitleref3_Snap.j0, if_true]
      rfl
end Go.Proofs.YtofndakpenpkbaaDoor.PA
namespace Go.Proofs.YtofndakpenpkbaaDoor.PA
open Go.RowKit Go.ChangeShapes Go.WideShapes Go.Proofs.YtofndakpenpkbaaDoor.PC Go.Proofs.YtofndakpenpkbaaDoor.PI Go.Proofs.YtofndakpenpkbaaDoor.PT Go.Proofs.YtofndakpenpkbaaDoor.PO Go.Proofs.YtofndakpenpkbaaDoor.LSnaps
theorem told_same (x y z : Int) : surtitlelaw3_told.f x y z x y z = some true := by
  unfold surtitlelaw3_told.f
  rw [if_pos (by simp)]; simp
theorem snaps_f (a b c d how : Int) (ha : (Lit.int .i64 a).wf = true) (hb : (Lit.int .i64 b).wf = true) (hc : (Lit.int .i64 c).wf = true) (hd : (Lit.int .i64 d).wf = true) : surtitlelaw3_RatioSnaps.f 2147483649 a b c d how = some true := by
  have i0 := i64ok_iff.mpr (bounds_i64 ha)
  have i1 := i64ok_iff.mpr (bounds_i64 hb)
  have i2 := i64ok_iff.mpr (bounds_i64 hc)
  have i3 := i64ok_iff.mpr (bounds_i64 hd)
  unfold surtitlelaw3_RatioSnaps.f surtitlelaw3_known.f
  rw [snap_f a b c d how i0 i1 i2 i3, refSnap _ (by decide), time_f a b i0 i1, refTime _ (by decide)]
  simp only [Option.bind_some, if_true]
  rw [told_same]
  simp
theorem snaps_true (a b c d how : Int) (ha : (Lit.int .i64 a).wf = true) (hb : (Lit.int .i64 b).wf = true) (hc : (Lit.int .i64 c).wf = true) (hd : (Lit.int .i64 d).wf = true) (_ : (Lit.int .i64 how).wf = true) (w : World) :
    Calls Tryd.prog 13 #[.agg #[.int .i64 a, .int .i64 b], .agg #[.int .i64 c, .int .i64 d], .int .i64 how] w fun e w' => e = .returned (.bool true) ∧ Below w.heap.size w w' :=
  surtitlelaw3_RatioSnaps.calls 2147483649 a b c d how true w (snaps_f a b c d how ha hb hc hd)
end Go.Proofs.YtofndakpenpkbaaDoor.PA
