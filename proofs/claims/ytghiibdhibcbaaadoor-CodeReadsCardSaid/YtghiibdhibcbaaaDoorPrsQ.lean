/- A clock's text: its length and its colons. -/
import Derived.Test.YtghiibdhibcbaaaDoorPrsP
namespace Go.Proofs.YtghiibdhibcbaaaDoor.PA
open Go Go.RowKit Go.Proofs.YtghiibdhibcbaaaDoor.CS
set_option linter.unusedSimpArgs false
set_option linter.unusedVariables false
theorem digO_shape {k : Nat} {l r : List UInt8} {v : Int} (h : digO k l = some (v, r)) : ∃ a, l = a ++ r ∧ a.length = k ∧ noD a = false := by
  unfold digO at h
  split at h
  · rename_i hc
    simp only [Option.some.injEq, Prod.mk.injEq] at h
    exact ⟨l.take k, by rw [← h.2, List.take_append_drop], by rw [List.length_take]; omega, hc.2⟩
  · cases h
theorem belO_shape {k : Nat} {most v : Int} {l r : List UInt8} (h : belO k most l = some (v, r)) : ∃ a, l = a ++ r ∧ a.length = k ∧ noD a = false := by
  unfold belO at h
  cases hd : digO k l with
  | none => rw [hd] at h; cases h
  | some p =>
    rw [hd, Option.bind_some] at h
    split at h
    · simp only [Option.some.injEq] at h
      subst h
      exact digO_shape hd
    · cases h
theorem byteO_shape {c : UInt8} {l r : List UInt8} (h : byteO c l = some r) : l = c :: r := by
  unfold byteO at h
  split at h
  · rename_i hc
    simp only [Option.some.injEq] at h
    cases l with
    | nil => cases hc
    | cons a l => simp only [List.head?_cons, Option.some.injEq] at hc; simp only [List.tail_cons] at h; rw [hc, h]
  · cases h
theorem hcO_shape {least : Nat} {l r : List UInt8} {v : Int} (h : hcO least l = some (v, r)) : ∃ a, l = a ++ 58 :: r ∧ least ≤ a.length ∧ noD a = false := by
  unfold hcO at h
  split at h
  · rename_i hc
    obtain ⟨h1, h2, h3, h4⟩ := hc
    simp only [Option.some.injEq, Prod.mk.injEq] at h
    obtain ⟨d1, d2⟩ := idx_split l 58 (by omega)
    refine ⟨l.take (Lib.indexByte l 58).toNat, ?_, by rw [List.length_take]; omega, h4⟩
    rw [← h.2, ← d1, List.take_append_drop]
  · cases h
theorem noD_any {l : List UInt8} (h : noD l = false) (hc : (58 : UInt8) ∈ l) : False := by
  unfold noD at h
  rw [List.any_eq_false] at h
  exact h 58 hc (by decide)
/-- how many colons -/
def cols (l : List UInt8) : Nat := l.countP (· == 58)
theorem cols_app (a b : List UInt8) : cols (a ++ b) = cols a + cols b := List.countP_append
theorem cols_dig {l : List UInt8} (h : noD l = false) : cols l = 0 := by
  unfold cols
  rw [List.countP_eq_zero]
  intro c hc e
  have : c = 58 := by simpa using e
  subst this
  exact (noD_any h hc)
theorem tlO_shape {pt : UInt8} {size : Nat} {l : List UInt8} {t : Int × Int × Int} (hp : (pt == 58) = false) (h : tlO pt size l = some t) : l.length = 6 + size ∧ cols l = 1 := by
  unfold tlO at h
  cases h1 : belO 2 60 l with
  | none => rw [h1] at h; cases h
  | some b =>
  cases h2 : byteO 58 b.2 with
  | none => simp [h1, h2] at h
  | some c =>
  cases h3 : belO 2 60 c with
  | none => simp [h1, h2, h3] at h
  | some d =>
  cases h4 : byteO pt d.2 with
  | none => simp [h1, h2, h3, h4] at h
  | some q =>
  cases h5 : digO size q with
  | none => simp [h1, h2, h3, h4, h5] at h
  | some g =>
    simp only [h1, h2, h3, h4, h5, Option.bind_some] at h
    split at h
    · rename_i hg
      obtain ⟨a1, e1, l1, n1⟩ := belO_shape (v := b.1) (r := b.2) h1
      have e2 := byteO_shape h2
      obtain ⟨a3, e3, l3, n3⟩ := belO_shape (v := d.1) (r := d.2) h3
      have e4 := byteO_shape h4
      obtain ⟨a5, e5, l5, n5⟩ := digO_shape (v := g.1) (r := g.2) h5
      rw [hg, List.append_nil] at e5
      rw [e1, e2, e3, e4, e5]
      constructor
      · simp only [List.length_append, List.length_cons, l1, l3, l5]; omega
      · rw [cols_app, cols_dig n1, show (58 :: (a3 ++ pt :: a5) : List UInt8) = [58] ++ (a3 ++ ([pt] ++ a5)) by simp, cols_app, cols_app, cols_app, cols_dig n3, cols_dig n5, show cols [pt] = 0 by unfold cols; rw [List.countP_cons, hp]; rfl]
        rfl
    · cases h
theorem clO_shape {least size : Nat} {pt : UInt8} {l : List UInt8} {a : Int × List UInt8} {t : Int × Int × Int} (hp : (pt == 58) = false) (h1 : hcO least l = some a) (h2 : tlO pt size a.2 = some t) : least + 7 + size ≤ l.length ∧ cols l = 2 := by
  obtain ⟨b, e, l1, n1⟩ := hcO_shape (v := a.1) (r := a.2) h1
  obtain ⟨k1, k2⟩ := tlO_shape hp h2
  rw [e]
  constructor
  · simp only [List.length_append, List.length_cons, k1]; omega
  · rw [cols_app, cols_dig n1, show (58 :: a.2 : List UInt8) = [58] ++ a.2 by simp, cols_app, k2]; rfl
end Go.Proofs.YtghiibdhibcbaaaDoor.PA
