/- The reference's New, as chapter 5 asks it. The reference's Cmp, as chapter 5 asks it. -/
import Derived.Test.YtghiibdhibcbaaaGreatDoorMQ
import Derived.Test.YtghiibdhibcbaaaGreatDoorPNx1
import Derived.Test.YtghiibdhibcbaaaGreatDoorPLx1
import Derived.Test.YtghiibdhibcbaaaGreatDoorMB
namespace Go.Proofs.YtghiibdhibcbaaaGreatDoor.PA
open Go Go.RowKit Go.Proofs.YtghiibdhibcbaaaGreatDoorW.PrintWords Go.Proofs.YtghiibdhibcbaaaGreatDoorW.PrintLast Go.Proofs.YtghiibdhibcbaaaGreatDoorW.PrintMore Go.Proofs.YtghiibdhibcbaaaGreatDoor.PR Go.Proofs.YtghiibdhibcbaaaGreatDoor.PN
set_option linter.unusedSimpArgs false
set_option linter.unusedVariables false
theorem fitS_sign (s t : Bool) (n d : Nat) (h : n ≠ 0 → s = t) (hd : 0 < d) : fitS s n d = fitS t n d := by
  by_cases h0 : n = 0
  · subst h0
    unfold fitS
    rw [Nat.gcd_zero_left, Nat.zero_div, Nat.div_self hd]
    cases s <;> cases t <;> rfl
  · rw [h h0]
theorem newR (n d : Int) (hn0 : -9223372036854775808 ≤ n) (hn1 : n ≤ 9223372036854775807) (hd0 : -9223372036854775808 ≤ d) (hd1 : d ≤ 9223372036854775807) : surtitleref3_New.f n d = some (newS n d) := by
  unfold surtitleref3_New.f newS
  by_cases h : d = 0
  · rw [if_pos h, if_pos h]
  · rw [if_neg h, if_neg h, timesW n 1 hn0 hn1 (by omega) (by omega), Int.mul_one, sizeW d hd0 hd1]
    simp only [Option.bind_some]
    have hz : (0 : Int) = hiN d.natAbs := by unfold hiN; omega
    have hl : ((d.natAbs : Nat) : Int) = loN d.natAbs := by unfold loN; omega
    have e : ∀ s : Bool, (surtitleref3_right.f s (wI n).2.1 (wI n).2.2) = some (s && decide (n.natAbs ≠ 0), hiN n.natAbs, loN n.natAbs) := fun s => rightW s n.natAbs
    have hn2 : n.natAbs < 340282366920938463463374607431768211456 := by omega
    have hd2 : d.natAbs < 340282366920938463463374607431768211456 := by omega
    have hlow : ∀ s : Bool, surtitleref3_lowest.f (s && decide (n.natAbs ≠ 0)) (hiN n.natAbs) (loN n.natAbs) false 0 ((d.natAbs : Nat) : Int) = some (fitS (s && decide (n.natAbs ≠ 0)) n.natAbs d.natAbs) := fun s => by
      rw [hz, hl]
      unfold surtitleref3_lowest.f
      rw [wvN_hl, wvN_hl, if_pos ⟨hiN_ok hn2, loN_ok _, hiN_ok hd2, loN_ok _, rfl, fun h => by rw [h]; simp, by omega⟩]
    by_cases h2 : d < 0
    · rw [if_pos h2, e]
      simp only [Option.bind_some]
      rw [hlow]
      simp only [Option.bind_some]
      congr 1
      refine fitS_sign _ _ _ _ (fun hne => ?_) (by omega)
      unfold wI
      simp only [hne, ne_eq, not_false_eq_true, decide_true, Bool.and_true, h2]
      cases decide (n < 0) <;> rfl
    · rw [if_neg h2, e]
      simp only [Option.bind_some]
      rw [hlow]
      simp only [Option.bind_some]
      congr 1
      refine fitS_sign _ _ _ _ (fun hne => ?_) (by omega)
      unfold wI
      simp only [hne, ne_eq, not_false_eq_true, decide_true, Bool.and_true, h2, decide_false]
      cases decide (n < 0) <;> rfl
theorem new3_any (n d : Int) (w : World) (hn0 : -9223372036854775808 ≤ n) (hn1 : n ≤ 9223372036854775807) (hd0 : -9223372036854775808 ≤ d) (hd1 : d ≤ 9223372036854775807) :
    Calls Tryz.prog 11 #[.int .i64 n, .int .i64 d] w fun e w' => e = .returned (.tuple #[.agg #[.int .i64 (newS n d).1, .int .i64 (newS n d).2.1], .int .i64 (newS n d).2.2]) ∧ Below w.heap.size w w' :=
  surtitleref3_New.calls n d _ _ _ w (newR n d hn0 hn1 hd0 hd1)
end Go.Proofs.YtghiibdhibcbaaaGreatDoor.PA
namespace Go.Proofs.YtghiibdhibcbaaaGreatDoor.PA
open Go Go.RowKit Go.Proofs.YtghiibdhibcbaaaGreatDoorW.PrintWords Go.Proofs.YtghiibdhibcbaaaGreatDoorW.PrintLast Go.Proofs.YtghiibdhibcbaaaGreatDoorW.PrintMore Go.Proofs.YtghiibdhibcbaaaGreatDoor.PR Go.Proofs.YtghiibdhibcbaaaGreatDoor.PL
set_option linter.unusedSimpArgs false
set_option linter.unusedVariables false
theorem lessW (x y : Int) : surtitleref3_Less.f (wI x).1 (wI x).2.1 (wI x).2.2 (wI y).1 (wI y).2.1 (wI y).2.2 = some (decide (x < y)) := by
  unfold surtitleref3_Less.f wI
  dsimp only
  rw [above_any, above_any]
  simp only [Option.bind_some]
  by_cases hx : x < 0 <;> by_cases hy : y < 0
  · rw [decide_eq_true hx, decide_eq_true hy, if_neg (by decide), if_pos rfl]; congr 1; rw [decide_eq_decide]; omega
  · rw [decide_eq_true hx, decide_eq_false hy, if_pos (by decide)]; congr 1; symm; rw [decide_eq_true_eq]; omega
  · rw [decide_eq_false hx, decide_eq_true hy, if_pos (by decide)]; congr 1; symm; rw [decide_eq_false_iff_not]; omega
  · rw [decide_eq_false hx, decide_eq_false hy, if_neg (by decide), if_neg (by decide)]; congr 1; rw [decide_eq_decide]; omega
theorem cmpS_eq {a b c d : Int} (hb : 0 < b) (hd : 0 < d) : cmpS a b c d = if a * d < c * b then -1 else if a * d = c * b then 0 else 1 := by
  have e1 : ((a.natAbs * d.natAbs : Nat) : Int) = a.natAbs * d := by rw [Int.natCast_mul]; congr 1; omega
  have e2 : ((c.natAbs * b.natAbs : Nat) : Int) = c.natAbs * b := by rw [Int.natCast_mul]; congr 1; omega
  unfold cmpS cmpN
  by_cases ha : a < 0 <;> by_cases hc : c < 0
  · have h1 : (a.natAbs : Int) * d = -(a * d) := by rw [show (a.natAbs : Int) = -a by omega, Int.neg_mul]
    have h2 : (c.natAbs : Int) * b = -(c * b) := by rw [show (c.natAbs : Int) = -c by omega, Int.neg_mul]
    rw [decide_eq_true ha, decide_eq_true hc, if_pos (by rfl), if_pos ha]
    split
    · rw [if_neg (by omega), if_pos (by omega)]; rfl
    · split
      · rw [if_neg (by omega), if_neg (by omega)]; rfl
      · rw [if_pos (by omega)]
  · have h1 : a * d < 0 := Int.mul_neg_of_neg_of_pos ha hd
    have h2 : 0 ≤ c * b := Int.mul_nonneg (by omega) (by omega)
    rw [decide_eq_true ha, decide_eq_false hc, if_neg (by decide), if_pos ha, if_pos (by omega)]
  · have h1 : c * b < 0 := Int.mul_neg_of_neg_of_pos hc hb
    have h2 : 0 ≤ a * d := Int.mul_nonneg (by omega) (by omega)
    rw [decide_eq_false ha, decide_eq_true hc, if_neg (by decide), if_neg ha, if_neg (by omega), if_neg (by omega)]
  · have h1 : (a.natAbs : Int) * d = a * d := by rw [show (a.natAbs : Int) = a by omega]
    have h2 : (c.natAbs : Int) * b = c * b := by rw [show (c.natAbs : Int) = c by omega]
    rw [decide_eq_false ha, decide_eq_false hc, if_pos (by rfl), if_neg ha]
    split
    · rw [if_neg (by omega), if_pos (by omega)]
    · split
      · rw [if_pos (by omega)]
      · rw [if_neg (by omega), if_neg (by omega)]
theorem cmpI (a b c d : Int) (ha : -9223372036854775808 ≤ a ∧ a ≤ 9223372036854775807) (hb : 0 < b ∧ b ≤ 9223372036854775807) (hc : -9223372036854775808 ≤ c ∧ c ≤ 9223372036854775807) (hd : 0 < d ∧ d ≤ 9223372036854775807) :
    surtitleref3_Cmp.f a b c d = some (cmpS a b c d) := by
  unfold surtitleref3_Cmp.f
  rw [timesW a d (by omega) (by omega) (by omega) (by omega), timesW c b (by omega) (by omega) (by omega) (by omega)]
  simp only [Option.bind_some]
  rw [lessW, lessW]
  simp only [Option.bind_some]
  rw [cmpS_eq hb.1 hd.1]
  by_cases h1 : a * d < c * b
  · rw [if_pos (decide_eq_true h1), if_pos h1]
  · rw [if_neg (by simpa using h1)]
    by_cases h2 : c * b < a * d
    · rw [if_pos (decide_eq_true h2), if_neg h1, if_neg (by omega)]
    · rw [if_neg (by simpa using h2), if_neg h1, if_pos (by omega)]
theorem cmp3_any (a b c d : Int) (w : World) (ha : -9223372036854775808 ≤ a ∧ a ≤ 9223372036854775807) (hb : 0 < b ∧ b ≤ 9223372036854775807) (hc : -9223372036854775808 ≤ c ∧ c ≤ 9223372036854775807) (hd : 0 < d ∧ d ≤ 9223372036854775807) :
    Calls Tryz.prog 14 #[.agg #[.int .i64 a, .int .i64 b], .agg #[.int .i64 c, .int .i64 d]] w fun e w' => e = .returned (.int .i64 (cmpS a b c d)) ∧ Below w.heap.size w w' :=
  surtitleref3_Cmp.calls a b c d _ w (cmpI a b c d ha hb hc hd)
end Go.Proofs.YtghiibdhibcbaaaGreatDoor.PA
