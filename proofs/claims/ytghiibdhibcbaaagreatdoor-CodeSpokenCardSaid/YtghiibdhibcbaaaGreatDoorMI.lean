/- A label's parts, minute by minute. The reference: Label. The reference: Label told at all inputs. Reading a label that was written. Lists of bytes in order; texts of numbers that rise. (What TrRis has of these, without the walks.) -/
import Derived.Test.YtghiibdhibcbaaaGreatDoorMH
import Derived.Deep.RegionHeld3
import Derived.Test.YtghiibdhibcbaaaGreatDoorMG
namespace Go.Proofs.YtghiibdhibcbaaaGreatDoor.PA
open Go Go.Proofs.YtghiibdhibcbaaaGreatDoor.CS
set_option linter.unusedSimpArgs false
set_option linter.unusedVariables false
/-- how many numbers the first minutes have -/
def consq (q : Nat → Int) : Nat → Int
  | 0 => 0
  | m + 1 => q m + consq q m
/-- the minute that has been come to, and what is left -/
def stepP (q : Nat → Int) (r0 : Int) (m : Nat) (r : Int) : Prop := m ≤ 9 ∧ consq q m + r = r0 ∧ 0 ≤ r
end Go.Proofs.YtghiibdhibcbaaaGreatDoor.PA
namespace Go.Proofs.YtghiibdhibcbaaaGreatDoor.PA
open Go Go.RowKit Go.Proofs.YtghiibdhibcbaaaGreatDoorW.PrintWords Go.Proofs.YtghiibdhibcbaaaGreatDoorW.PrintLast Go.Proofs.YtghiibdhibcbaaaGreatDoorW.PrintMore Go.Proofs.YtghiibdhibcbaaaGreatDoor.CS
set_option linter.unusedSimpArgs false
set_option linter.unusedVariables false
/-- what the loop over minutes holds -/
def loopL (w wr : World) (n d : Int) (dr : Bool) (q : Nat → Int) (r0 : Int) (x y : Value) : Prop :=
  ∃ (m : Nat) (r : Int), x = .int .i64 r ∧ y = .int .i64 (m : Int) ∧ stepP q r0 m r ∧ r ≤ 86400000 ∧ wr.heap[w.heap.size]? = some (.cells #[.int .i64 n, .int .i64 d, .bool dr] 23 (0, 0)) ∧ Below w.heap.size w wr
end Go.Proofs.YtghiibdhibcbaaaGreatDoor.PA
namespace Go.Proofs.YtghiibdhibcbaaaGreatDoor.PA
open Go Go.RowKit Go.Proofs.YtghiibdhibcbaaaGreatDoor.CS
set_option linter.unusedSimpArgs false
set_option linter.unusedVariables false
end Go.Proofs.YtghiibdhibcbaaaGreatDoor.PA
namespace Go.Proofs.YtghiibdhibcbaaaGreatDoor.PA
open Go Go.Proofs.YtghiibdhibcbaaaGreatDoor.CS
set_option linter.unusedSimpArgs false
set_option linter.unusedVariables false
theorem isD_dg (n : Nat) : isD (dg n) = true := by unfold isD; rw [dg_nat]; simp; omega
/-- digits, as a reader takes them -/
structure Digs (l : List UInt8) (k : Nat) (v : Int) : Prop where
  len : l.length = k
  no : noD l = false
  val : vg l = v
theorem digs2 {n : Int} (h0 : 0 ≤ n) (h1 : n < 100) : Digs (digL n 2) 2 n := by
  rw [digL2 h0 h1]
  refine ⟨rfl, by simp [noD, isD_dg], ?_⟩
  show 10 * (10 * 0 + (((dg (n.toNat / 10)).toNat : Int) - 48) % 256) + (((dg n.toNat).toNat : Int) - 48) % 256 = n
  rw [dg_nat, dg_nat]; omega
theorem digs3 {n : Int} (h0 : 0 ≤ n) (h1 : n < 1000) : Digs (digL n 3) 3 n := by
  rw [digL3 h0 h1]
  refine ⟨rfl, by simp [noD, isD_dg], ?_⟩
  show 10 * (10 * (10 * 0 + (((dg (n.toNat / 100)).toNat : Int) - 48) % 256) + (((dg (n.toNat / 10)).toNat : Int) - 48) % 256) + (((dg n.toNat).toNat : Int) - 48) % 256 = n
  rw [dg_nat, dg_nat, dg_nat]; omega
theorem digs1 {n : Int} (h0 : 0 ≤ n) (h1 : n < 10) : Digs (digL n 1) 1 n := by
  rw [digL1 h0 h1]
  refine ⟨rfl, by simp [noD, isD_dg], ?_⟩
  show 10 * 0 + (((dg n.toNat).toNat : Int) - 48) % 256 = n
  rw [dg_nat]; omega
theorem digs_eq {n : Int} {a b : Nat} (h : digL n a = digL n b) {k : Nat} {v : Int} (d : Digs (digL n a) k v) : Digs (digL n b) k v := by rw [← h]; exact d
/-- hours in two digits, or in three -/
theorem digsH {n : Int} (h0 : 0 ≤ n) (h1 : n < 1000) : ∃ k, (k = 2 ∨ k = 3 ∧ (digL n 2).head? ≠ some 48) ∧ Digs (digL n 2) k n := by
  by_cases h : n < 100
  · exact ⟨2, .inl rfl, digs2 h0 h⟩
  · have e : digL n 3 = digL n 2 := by rw [digL3 h0 h1, digL23 (by omega) h1]
    refine ⟨3, .inr ⟨rfl, ?_⟩, digs_eq e (digs3 h0 h1)⟩
    rw [digL23 (by omega) h1]
    simp only [List.head?_cons, ne_eq, Option.some.injEq]
    intro e
    have := congrArg UInt8.toNat e
    rw [dg_nat] at this
    have h48 : (48 : UInt8).toNat = 48 := rfl
    omega
theorem digO_app {l r : List UInt8} {k : Nat} {v : Int} (d : Digs l k v) : digO k (l ++ r) = some (v, r) := by
  obtain ⟨h1, h2, h3⟩ := d
  unfold digO
  rw [← h1, List.take_left, List.drop_left, if_pos ⟨by simp, h2⟩, h3]
theorem belO_app {l r : List UInt8} {k : Nat} {v most : Int} (d : Digs l k v) (h : v < most) : belO k most (l ++ r) = some (v, r) := by
  unfold belO
  rw [digO_app d, Option.bind_some, if_pos h]
theorem byteO_app (c : UInt8) (r : List UInt8) : byteO c (c :: r) = some r := by unfold byteO; simp
theorem noD_not {l : List UInt8} (h : noD l = false) {c : UInt8} (hc : isD c = false) : c ∉ l := by
  intro hm
  unfold noD at h
  rw [List.any_eq_false] at h
  have := h c hm
  rw [hc] at this
  exact this rfl
theorem hcO_app {l r : List UInt8} {k least : Nat} {v : Int} (d : Digs l k v) (k1 : least ≤ k) (k3 : k ≤ 3) (hh : k > least → l.head? ≠ some 48) (l1 : 1 ≤ least) : hcO least (l ++ 58 :: r) = some (v, r) := by
  obtain ⟨h1, h2, h3⟩ := d
  have hi : Lib.indexByte (l ++ 58 :: r) 58 = (k : Int) := by rw [ParD.index_at _ _ _ (noD_not h2 (by decide)), h1]
  unfold hcO
  rw [hi, Int.toNat_natCast]
  have e1 : (l ++ 58 :: r).take k = l := by rw [← h1, List.take_left]
  have e2 : (l ++ 58 :: r).drop (k + 1) = r := by
    rw [← h1, show l.length + 1 = (l ++ [58]).length by simp, show l ++ 58 :: r = (l ++ [58]) ++ r by simp, List.drop_left]
  have e3 : (l ++ 58 :: r).head? = l.head? := by
    cases l with
    | nil => simp at h1; omega
    | cons a l => rfl
  rw [e1, e2, e3, if_pos ⟨by omega, by omega, fun h => hh (by omega), h2⟩, h3]
end Go.Proofs.YtghiibdhibcbaaaGreatDoor.PA
namespace Go.Proofs.YtghiibdhibcbaaaGreatDoor.PA
open Go Go.RowKit Go.Proofs.YtghiibdhibcbaaaGreatDoor.CS Go.ChangeShapes Go.WideShapes
set_option linter.unusedVariables false
theorem bl_irr : ∀ a : List UInt8, Op.bytesLess a a = false := by
  intro a
  induction a with
  | nil => rfl
  | cons x a ih => unfold Op.bytesLess; rw [ih]; simp
theorem bl_asym : ∀ a b : List UInt8, Op.bytesLess a b = true → Op.bytesLess b a = false := by
  intro a
  induction a with
  | nil => intro b h; cases b with
    | nil => rfl
    | cons y b => rfl
  | cons x a ih =>
    intro b h
    cases b with
    | nil => exact absurd h (by unfold Op.bytesLess; decide)
    | cons y b =>
      unfold Op.bytesLess at h ⊢
      simp only [Bool.or_eq_true, decide_eq_true_eq, Bool.and_eq_true, beq_iff_eq] at h
      rcases h with h | ⟨rfl, h⟩
      · have h1 : ¬ y < x := by rw [UInt8.lt_iff_toNat_lt] at h ⊢; omega
        have h2 : y ≠ x := by rintro rfl; rw [UInt8.lt_iff_toNat_lt] at h; omega
        simp [h1, h2]
      · simp [ih _ h, UInt8.lt_irrefl]
theorem bl_pre (r s : List UInt8) : ∀ a : List UInt8, Op.bytesLess (a ++ r) (a ++ s) = Op.bytesLess r s := by
  intro a
  induction a with
  | nil => rfl
  | cons x a ih => rw [List.cons_append, List.cons_append, Op.bytesLess, ih]; simp [UInt8.lt_irrefl]
theorem bl_app (r s : List UInt8) : ∀ a b : List UInt8, a.length = b.length → Op.bytesLess a b = true → Op.bytesLess (a ++ r) (b ++ s) = true := by
  intro a
  induction a with
  | nil => intro b hl h; cases b with
    | nil => rw [bl_irr] at h; cases h
    | cons y b => cases hl
  | cons x a ih =>
    intro b hl h
    cases b with
    | nil => cases hl
    | cons y b =>
      rw [List.cons_append, List.cons_append, Op.bytesLess]
      unfold Op.bytesLess at h
      simp only [Bool.or_eq_true, decide_eq_true_eq, Bool.and_eq_true, beq_iff_eq] at h ⊢
      rcases h with h | ⟨rfl, h⟩
      · exact .inl h
      · exact .inr ⟨rfl, ih b (by simpa using hl) h⟩
theorem dg_lt {a b : Nat} (h : a % 10 < b % 10) : dg a < dg b := by rw [UInt8.lt_iff_toNat_lt, dg_nat, dg_nat]; omega
theorem dg_mod {a b : Nat} (h : a % 10 = b % 10) : dg a = dg b := by unfold dg; rw [h]
theorem bl_cons_lt {a b : UInt8} (h : a < b) (r s : List UInt8) : Op.bytesLess (a :: r) (b :: s) = true := by unfold Op.bytesLess; simp [h]
theorem bl_cons_eq (a : UInt8) (r s : List UInt8) : Op.bytesLess (a :: r) (a :: s) = Op.bytesLess r s := bl_pre r s [a]
theorem bl_two {u v : Nat} (h : u < v) (hv : v < 100) : Op.bytesLess [dg (u / 10), dg u] [dg (v / 10), dg v] = true := by
  rcases Nat.lt_or_ge (u / 10) (v / 10) with h1 | h1
  · exact bl_cons_lt (dg_lt (by omega)) _ _
  · rw [dg_mod (a := u / 10) (b := v / 10) (by omega), bl_cons_eq]
    exact bl_cons_lt (dg_lt (by omega)) _ _
theorem bl_three {u v : Nat} (h : u < v) (hv : v < 1000) : Op.bytesLess [dg (u / 100), dg (u / 10), dg u] [dg (v / 100), dg (v / 10), dg v] = true := by
  rcases Nat.lt_or_ge (u / 100) (v / 100) with h1 | h1
  · exact bl_cons_lt (dg_lt (by omega)) _ _
  · rw [dg_mod (a := u / 100) (b := v / 100) (by omega), bl_cons_eq]
    rcases Nat.lt_or_ge (u / 10) (v / 10) with h2 | h2
    · exact bl_cons_lt (dg_lt (by omega)) _ _
    · rw [dg_mod (a := u / 10) (b := v / 10) (by omega), bl_cons_eq]
      exact bl_cons_lt (dg_lt (by omega)) _ _
/-- digits of the same width rise with the numbers -/
theorem bl_d2 {a b : Int} (a0 : 0 ≤ a) (h : a < b) (hb : b < 100) : Op.bytesLess (digL a 2) (digL b 2) = true := by
  rw [digL2 a0 (by omega), digL2 (by omega) hb]; exact bl_two (by omega) (by omega)
theorem len2 {a : Int} (h0 : 0 ≤ a) (h1 : a < 100) : (digL a 2).length = 2 := (digs2 h0 h1).len
/-- two labels: the same width, rising; or the shorter one ahead -/
def before (a b : List UInt8) : Prop := a.length < b.length ∨ (a.length = b.length ∧ Op.bytesLess a b = true)
theorem before_app {a b r s : List UInt8} (h : before a b) (hl : r.length = s.length) : before (a ++ r) (b ++ s) := by
  rcases h with h | ⟨h1, h2⟩
  · left; rw [List.length_append, List.length_append]; omega
  · right; exact ⟨by rw [List.length_append, List.length_append]; omega, bl_app _ _ _ _ h1 h2⟩
theorem before_pre {r s : List UInt8} (a : List UInt8) (h : before r s) : before (a ++ r) (a ++ s) := by
  rcases h with h | ⟨h1, h2⟩
  · left; rw [List.length_append, List.length_append]; omega
  · right; exact ⟨by rw [List.length_append, List.length_append]; omega, by rw [bl_pre]; exact h2⟩
theorem before_cons {r s : List UInt8} (a : UInt8) (h : before r s) : before (a :: r) (a :: s) := before_pre [a] h
theorem before_h {a b : Int} (a0 : 0 ≤ a) (h : a < b) (hb : b < 1000) : before (digL a 2) (digL b 2) := by
  by_cases h1 : b < 100
  · right; exact ⟨by rw [len2 a0 (by omega), len2 (by omega) h1], bl_d2 a0 h h1⟩
  · by_cases h2 : a < 100
    · left; rw [len2 a0 h2, digL23 (by omega) hb]; show 2 < 3; decide
    · right
      rw [digL23 (by omega) (by omega), digL23 (by omega) hb]
      exact ⟨rfl, bl_three (by omega) (by omega)⟩
theorem bs_same {a b : List UInt8} (h : (bs a).data = (bs b).data) : a = b := by unfold bs at h; simpa using h
end Go.Proofs.YtghiibdhibcbaaaGreatDoor.PA
