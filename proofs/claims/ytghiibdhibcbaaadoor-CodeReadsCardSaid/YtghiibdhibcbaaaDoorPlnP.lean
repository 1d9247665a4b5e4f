/- Reading in plain lists: what a reader comes to. -/
import Derived.Test.YtghiibdhibcbaaaDoorScnB
import Derived.Lib.IndexLaws
namespace Go.Proofs.YtghiibdhibcbaaaDoor.PA
open Go
set_option linter.unusedSimpArgs false
set_option linter.unusedVariables false
/-- so many digits, and what is behind them -/
def digO (k : Nat) (l : List UInt8) : Option (Int × List UInt8) := if k ≤ l.length ∧ noD (l.take k) = false then some (vg (l.take k), l.drop k) else none
def byteO (c : UInt8) (l : List UInt8) : Option (List UInt8) := if l.head? = some c then some l.tail else none
def belO (k : Nat) (most : Int) (l : List UInt8) : Option (Int × List UInt8) := (digO k l).bind fun p => if p.1 < most then some p else none
/-- hours, from least to three digits, and a colon -/
def hcO (least : Nat) (l : List UInt8) : Option (Int × List UInt8) :=
  if (least : Int) ≤ Lib.indexByte l 58 ∧ Lib.indexByte l 58 ≤ 3 ∧ (Lib.indexByte l 58 > least → l.head? ≠ some 48) ∧ noD (l.take (Lib.indexByte l 58).toNat) = false
  then some (vg (l.take (Lib.indexByte l 58).toNat), l.drop ((Lib.indexByte l 58).toNat + 1)) else none
/-- a reader's state against what is read -/
def rel (x : St) (o : Option (List UInt8)) : Prop := match o with | some l => x = (l, false) | none => x.2 = true
def relV (y : Int × St) (o : Option (Int × List UInt8)) : Prop := match o with | some p => y = (p.1, p.2, false) | none => y.2.2 = true
theorem relV.st {y : Int × St} {o : Option (Int × List UInt8)} (h : relV y o) : rel y.2 (o.map (·.2)) := by
  cases o with
  | none => exact h
  | some p => unfold relV at h; rw [h]; rfl
theorem sgn_rel {x : St} {o : Option (List UInt8)} (c : UInt8) (h : rel x o) : rel (sgnS x c) (o.bind (byteO c)) := by
  cases o with
  | none => unfold rel at h ⊢; unfold sgnS; simp only [Option.bind_none]; rw [h]; rfl
  | some l =>
    unfold rel at h
    rw [h]
    unfold sgnS byteO Lib.trimPrefix Lib.hasPrefix
    simp only [Option.bind_some]
    cases l with
    | nil => simp [rel, List.isPrefixOf]
    | cons a t =>
      by_cases e : a = c
      · subst e; simp [rel, List.isPrefixOf]
      · have e2 : (c == a) = false := by simpa using fun h => e h.symm
        simp [rel, List.isPrefixOf, e, e2]
theorem num_rel {x : St} {o : Option (List UInt8)} (k : Nat) (k1 : 1 ≤ k) (h : rel x o) : relV (numS x k) (o.bind (digO k)) := by
  cases o with
  | none =>
    unfold rel at h
    unfold relV numS
    simp only [Option.bind_none]
    split <;> simp [h]
  | some l =>
    unfold rel at h
    rw [h]
    unfold numS digO
    simp only [Option.bind_some]
    by_cases hk : k ≤ l.length
    · rw [if_neg (show ¬ ((k : Int) < 1 ∨ (l.length : Int) < k) by omega)]
      cases hn : noD (l.take k)
      · rw [if_pos ⟨hk, rfl⟩]; simp [relV, hn]
      · rw [if_neg (by simp)]; simp [relV, hn]
    · rw [if_pos (show (k : Int) < 1 ∨ (l.length : Int) < k by omega), if_neg (fun h => hk h.1)]
      rfl
theorem bel_rel {x : St} {o : Option (List UInt8)} (k : Nat) (most : Int) (k1 : 1 ≤ k) (h : rel x o) : relV (belS x k most) (o.bind (belO k most)) := by
  have h1 := num_rel k k1 h
  unfold belS
  have e : o.bind (belO k most) = (o.bind (digO k)).bind fun p => if p.1 < most then some p else none := by
    cases o <;> rfl
  rw [e]
  cases hd : o.bind (digO k) with
  | none => rw [hd] at h1; unfold relV at h1; simp [relV, h1]
  | some p =>
    rw [hd] at h1
    unfold relV at h1
    rw [h1]
    simp only [Option.bind_some]
    by_cases hm : p.1 < most
    · rw [if_pos hm]; simp [relV]; omega
    · rw [if_neg hm]; simp [relV]; omega
theorem idx_split (l : List UInt8) (c : UInt8) (h : 0 ≤ Lib.indexByte l c) : l.drop (Lib.indexByte l c).toNat = c :: l.drop ((Lib.indexByte l c).toNat + 1) ∧ (Lib.indexByte l c).toNat < l.length := by
  have h1 := idx_lt l c
  have h2 := Lib.indexByte_some (l := l) (c := c) (o := (Lib.indexByte l c).toNat) (by omega)
  have h3 : (Lib.indexByte l c).toNat < l.length := by omega
  refine ⟨?_, h3⟩
  rw [List.drop_eq_getElem_cons h3]
  have := h2.1
  rw [List.getElem?_eq_getElem h3] at this
  rw [Option.some.inj this]
/-- hours and a colon, as code reads them -/
theorem hours_rel (l : List UInt8) (least : Nat) (l1 : 1 ≤ least) : relV ((hrsS (l, false) least).1, sgnS (hrsS (l, false) least).2 58) (hcO least l) := by
  have hi := idx_lt l 58
  unfold hrsS hcO
  dsimp only
  by_cases h : Lib.indexByte l 58 < (least : Int) ∨ Lib.indexByte l 58 > 3 ∨ (Lib.indexByte l 58 > (least : Int) ∧ l.head? = some 48)
  · rw [if_pos h, if_neg]
    · unfold relV sgnS; simp
    · rintro ⟨h1, h2, h3, _⟩
      rcases h with h | h | ⟨h, h'⟩
      · omega
      · omega
      · exact h3 h h'
  · have h1 : (least : Int) ≤ Lib.indexByte l 58 := by omega
    have h2 : Lib.indexByte l 58 ≤ 3 := by omega
    have h3 : Lib.indexByte l 58 > (least : Int) → l.head? ≠ some 48 := fun a b => h (.inr (.inr ⟨a, b⟩))
    obtain ⟨d1, d2⟩ := idx_split l 58 (by omega)
    rw [if_neg h]
    obtain ⟨i, hii⟩ : ∃ i : Nat, Lib.indexByte l 58 = i := ⟨(Lib.indexByte l 58).toNat, by omega⟩
    rw [hii] at d1 d2 h1 h2 h3 ⊢
    rw [Int.toNat_natCast] at d1 d2 ⊢
    unfold numS
    dsimp only
    rw [if_neg (show ¬ ((i : Int) < 1 ∨ (l.length : Int) < i) by omega), Int.toNat_natCast]
    cases hn : noD (l.take i)
    · rw [if_pos ⟨h1, h2, h3, rfl⟩]
      unfold sgnS relV
      dsimp only
      rw [d1]
      simp [Lib.trimPrefix, Lib.hasPrefix, List.isPrefixOf]
    · rw [if_neg (by simp)]
      unfold sgnS relV
      simp
end Go.Proofs.YtghiibdhibcbaaaDoor.PA
