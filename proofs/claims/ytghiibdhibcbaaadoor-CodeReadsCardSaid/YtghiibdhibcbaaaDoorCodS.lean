/- Chapter 5 in plain mathematics: rates, frames, numbers. -/
import Derived.Lib.Hide
namespace Go.Proofs.YtghiibdhibcbaaaDoor.CS
/-- is n / d (dropping or not) a rate? -/
def okR (n d : Int) (dr : Bool) : Bool :=
  decide (1 ≤ n ∧ n ≤ 240000 ∧ 1 ≤ d ∧ d ≤ 1001 ∧ Nat.gcd n.natAbs d.natAbs = 1 ∧ d ≤ n ∧ n ≤ 240 * d ∧ (dr = true → d = 1001 ∧ (n = 30000 ∨ n = 60000)))
structure Ok (n d : Int) (dr : Bool) : Prop where
  n1 : 1 ≤ n
  n2 : n ≤ 240000
  d1 : 1 ≤ d
  d2 : d ≤ 1001
  g : Nat.gcd n.natAbs d.natAbs = 1
  le : d ≤ n
  ge : n ≤ 240 * d
  dr : dr = true → d = 1001 ∧ (n = 30000 ∨ n = 60000)
theorem okR_iff {n d : Int} {dr : Bool} : okR n d dr = true ↔ Ok n d dr := by
  unfold okR
  rw [decide_eq_true_iff]
  exact ⟨fun ⟨a, b, c, d, e, f, g, h⟩ => ⟨a, b, c, d, e, f, g, h⟩, fun h => ⟨h.n1, h.n2, h.d1, h.d2, h.g, h.le, h.ge, h.dr⟩⟩
def checkS (n d : Int) (dr : Bool) : Int := if okR n d dr = true then 0 else 14
/-- the full rate -/
def full (n d : Int) : Int := (n + d - 1) / d
theorem full_le {n d : Int} {dr : Bool} (h : Ok n d dr) : 1 ≤ full n d ∧ full n d ≤ 240 := by
  obtain ⟨_, _, h1, _, _, h2, h3, _⟩ := h
  unfold full
  constructor
  · exact (Int.le_ediv_iff_mul_le (by omega)).mpr (by omega)
  · have : (n + d - 1) / d < 241 := (Int.ediv_lt_iff_lt_mul (by omega)).mpr (by omega)
    omega
theorem full_30 : full 30000 1001 = 30 := by decide
theorem full_60 : full 60000 1001 = 60 := by decide
/-- the last frame -/
def last (n d : Int) : Int := 360000 * n / d
theorem last_le {n d : Int} {dr : Bool} (h : Ok n d dr) : 0 ≤ last n d ∧ last n d ≤ 86400000 ∧ last n d * d ≤ 360000 * n ∧ 360000 * n < (last n d + 1) * d := by
  obtain ⟨_, _, h1, _, _, h2, h3, _⟩ := h
  unfold last
  have h0 : 0 ≤ 360000 * n / d := Int.ediv_nonneg (by omega) (by omega)
  have h4 : 360000 * n / d * d ≤ 360000 * n := Int.ediv_mul_le _ (by omega)
  have h5 : 360000 * n < (360000 * n / d + 1) * d := Int.lt_ediv_add_one_mul_self _ (by omega)
  refine ⟨h0, ?_, h4, h5⟩
  have : 360000 * n / d < 86400001 := (Int.ediv_lt_iff_lt_mul (by omega)).mpr (by omega)
  omega
/-- is it a frame? -/
def inF (n d fr : Int) : Bool := decide (0 ≤ fr) && decide (fr ≤ last n d)
theorem inF_iff {n d fr : Int} : inF n d fr = true ↔ 0 ≤ fr ∧ fr ≤ last n d := by unfold inF; simp
/-- how many numbers a minute leaves out -/
def drop (n d : Int) (dr : Bool) : Int := if dr = true then (if n = 30000 ∧ d = 1001 then 2 else if n = 60000 ∧ d = 1001 then 4 else 0) else 0
/-- the three kinds of a rate -/
theorem Ok.kinds {n d : Int} {dr : Bool} (h : Ok n d dr) : dr = false ∧ drop n d dr = 0 ∨ dr = true ∧ n = 30000 ∧ d = 1001 ∧ drop n d dr = 2 ∧ full n d = 30 ∨ dr = true ∧ n = 60000 ∧ d = 1001 ∧ drop n d dr = 4 ∧ full n d = 60 := by
  cases dr
  · exact .inl ⟨rfl, rfl⟩
  · obtain ⟨rfl, rfl | rfl⟩ := h.dr rfl
    · exact .inr (.inl ⟨rfl, rfl, rfl, by decide, by decide⟩)
    · exact .inr (.inr ⟨rfl, rfl, rfl, by decide, by decide⟩)
/-- the number of a frame, with those left out -/
def num (n d : Int) (dr : Bool) (fr : Int) : Int :=
  fr + fr / (600 * full n d - 9 * drop n d dr) * 9 * drop n d dr +
    (if fr % (600 * full n d - 9 * drop n d dr) ≥ 60 * full n d then drop n d dr + (fr % (600 * full n d - 9 * drop n d dr) - 60 * full n d) / (60 * full n d - drop n d dr) * drop n d dr else 0)
theorem num_false (n d fr : Int) : num n d false fr = fr := by
  have h : drop n d false = 0 := rfl
  unfold num
  rw [h]
  split <;> omega
end Go.Proofs.YtghiibdhibcbaaaDoor.CS
