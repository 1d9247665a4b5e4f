/- code: Number told at all inputs. -/
import Derived.Test.YtghiibdhibcbaaaDoorCodN
import Derived.Test.YtghiibdhibcbaaaDoorPlnP
namespace Go.Proofs.YtghiibdhibcbaaaDoor.PA
open Go Go.RowKit Go.Proofs.YtghiibdhibcbaaaDoor.CS
set_option linter.unusedSimpArgs false
set_option linter.unusedVariables false
/-- hours, minutes, seconds, number of a label -/
def labO (dr : Bool) (f : Int) (l : List UInt8) : Option (Int × Int × Int × Int) :=
  (hcO 2 l).bind fun a => (belO 2 60 a.2).bind fun b => (byteO 58 b.2).bind fun c => (belO 2 60 c).bind fun d => (byteO (if dr = true then 59 else 58) d.2).bind fun e => (belO (wide f) f e).bind fun g => if g.2 = [] then some (a.1, b.1, d.1, g.1) else none
/-- the number that is said -/
def said (n d : Int) (h m s k : Int) : Int := k + full n d * (60 * (60 * h + m) + s)
def valS (n d : Int) (dr : Bool) (h m s k : Int) : Int × Int :=
  if dr = true ∧ s = 0 ∧ m % 10 ≠ 0 ∧ k < drop n d dr then (0, 15)
  else if inF n d (said n d h m s k - drop n d dr * (60 * h + m - (60 * h + m) / 10)) = true then (said n d h m s k - drop n d dr * (60 * h + m - (60 * h + m) / 10), 0) else (0, 31)
def nmbS (n d : Int) (dr : Bool) (l : List UInt8) : Int × Int :=
  if okR n d dr = true then (match labO dr (full n d) l with | some (h, m, s, k) => valS n d dr h m s k | none => (0, 13)) else (0, 14)
theorem noD_val {l : List UInt8} (h : noD l = false) : 0 ≤ vg l ∧ vg l + 1 ≤ 10 ^ l.length := by
  refine snoc_ind (P := fun l => noD l = false → 0 ≤ vg l ∧ vg l + 1 ≤ 10 ^ l.length) (fun _ => ⟨by decide, by decide⟩) (fun l c ih h => ?_) l h
  rw [noD_snoc, Bool.or_eq_false_iff] at h
  obtain ⟨i0, i1⟩ := ih h.1
  have hc : isD c = true := by simpa using h.2
  unfold isD at hc
  rw [Bool.and_eq_true, decide_eq_true_eq, decide_eq_true_eq] at hc
  rw [vg_snoc, List.length_append, List.length_singleton, Int.pow_succ]
  omega
theorem vg_range {l : List UInt8} (n : Nat) (hl : l.length ≤ n) (h : noD l = false) : 0 ≤ vg l ∧ vg l + 1 ≤ ((10 ^ n : Nat) : Int) := by
  have h1 := noD_val h
  have h2 : (10 : Nat) ^ l.length ≤ 10 ^ n := Nat.pow_le_pow_right (by decide) hl
  have h3 : (10 : Int) ^ l.length = (((10 : Nat) ^ l.length : Nat) : Int) := by simp
  omega
theorem hcO_le {least : Nat} {l r : List UInt8} {v : Int} (h : hcO least l = some (v, r)) : 0 ≤ v ∧ v ≤ 999 := by
  unfold hcO at h
  split at h
  · rename_i hc
    obtain ⟨h1, h2, h3, h4⟩ := hc
    simp only [Option.some.injEq, Prod.mk.injEq] at h
    have := vg_range 3 (by rw [List.length_take]; omega) h4
    omega
  · cases h
theorem belO_le {k : Nat} {most v : Int} {l r : List UInt8} (h : belO k most l = some (v, r)) : 0 ≤ v ∧ v < most := by
  unfold belO digO at h
  split at h
  · rename_i hc
    simp only [Option.bind_some] at h
    split at h
    · rename_i hm
      simp only [Option.some.injEq, Prod.mk.injEq] at h
      have := vg_range _ (Nat.le_refl _) hc.2
      omega
    · cases h
  · cases h
theorem labO_le {dr : Bool} {f h m s k : Int} {l : List UInt8} (e : labO dr f l = some (h, m, s, k)) : 0 ≤ h ∧ h ≤ 999 ∧ 0 ≤ m ∧ m < 60 ∧ 0 ≤ s ∧ s < 60 ∧ 0 ≤ k ∧ k < f := by
  unfold labO at e
  cases h1 : hcO 2 l with
  | none => rw [h1] at e; cases e
  | some a =>
  cases h2 : belO 2 60 a.2 with
  | none => rw [h1] at e; simp [h2] at e
  | some b =>
  cases h3 : byteO 58 b.2 with
  | none => rw [h1] at e; simp [h2, h3] at e
  | some c =>
  cases h4 : belO 2 60 c with
  | none => rw [h1] at e; simp [h2, h3, h4] at e
  | some d =>
  cases h5 : byteO (if dr = true then 59 else 58) d.2 with
  | none => rw [h1] at e; simp [h2, h3, h4, h5] at e
  | some q =>
  cases h6 : belO (wide f) f q with
  | none => rw [h1] at e; simp [h2, h3, h4, h5, h6] at e
  | some g =>
    rw [h1] at e
    simp only [Option.bind_some, h2, h3, h4, h5, h6] at e
    split at e
    · simp only [Option.some.injEq, Prod.mk.injEq] at e
      obtain ⟨rfl, rfl, rfl, rfl⟩ := e
      have r1 := hcO_le (v := a.1) (r := a.2) h1
      have r2 := belO_le (v := b.1) (r := b.2) h2
      have r3 := belO_le (v := d.1) (r := d.2) h4
      have r4 := belO_le (v := g.1) (r := g.2) h6
      exact ⟨r1.1, r1.2, r2.1, r2.2, r3.1, r3.2, r4.1, r4.2⟩
    · cases e
theorem wide_one (f : Int) : 1 ≤ wide f := by unfold wide; split <;> omega
/-- the states that Number's reader goes through -/
theorem labO_run (dr : Bool) (f : Int) (l : List UInt8) :
    ∃ x3 x4 x5 x6 x7 x9 x11, hrsS (l, false) 2 = x3 ∧ sgnS x3.2 58 = x4 ∧ belS x4 2 60 = x5 ∧ sgnS x5.2 58 = x6 ∧ belS x6 2 60 = x7 ∧ sgnS x7.2 (if dr = true then 59 else 58) = x9 ∧ belS x9 (wide f : Int) f = x11 ∧
      (match labO dr f l with | some (h, m, s, k) => x3.1 = h ∧ x5.1 = m ∧ x7.1 = s ∧ x11 = (k, [], false) | none => x11.2.2 = true ∨ x11.2.1 ≠ []) := by
  refine ⟨_, _, _, _, _, _, _, rfl, rfl, rfl, rfl, rfl, rfl, rfl, ?_⟩
  have r1 := hours_rel l 2 (by decide)
  have r2 := r1.st
  dsimp only at r2
  have r3 := bel_rel 2 60 (by decide) r2
  have r4 := sgn_rel 58 r3.st
  have r5 := bel_rel 2 60 (by decide) r4
  have r6 := sgn_rel (if dr = true then 59 else 58) r5.st
  have r7 := bel_rel (wide f) f (wide_one f) r6
  unfold labO
  cases h1 : hcO 2 l with
  | none => rw [h1] at r7; simp only [Option.map_none, Option.bind_none] at r7 ⊢; exact .inl r7
  | some a =>
  rw [h1] at r1 r3 r5 r7
  cases h2 : belO 2 60 a.2 with
  | none => simp only [Option.map_some, Option.bind_some, h2, Option.map_none, Option.bind_none] at r7 ⊢; exact .inl r7
  | some b =>
  cases h3 : byteO 58 b.2 with
  | none => simp only [Option.map_some, Option.bind_some, h2, h3, Option.map_none, Option.bind_none] at r7 ⊢; exact .inl r7
  | some c =>
  cases h4 : belO 2 60 c with
  | none => simp only [Option.map_some, Option.bind_some, h2, h3, h4, Option.map_none, Option.bind_none] at r7 ⊢; exact .inl r7
  | some d =>
  cases h5 : byteO (if dr = true then 59 else 58) d.2 with
  | none => simp only [Option.map_some, Option.bind_some, h2, h3, h4, h5, Option.map_none, Option.bind_none] at r7 ⊢; exact .inl r7
  | some q =>
  cases h6 : belO (wide f) f q with
  | none => simp only [Option.map_some, Option.bind_some, h2, h3, h4, h5, h6, Option.map_none, Option.bind_none] at r7 ⊢; exact .inl r7
  | some g =>
    simp only [Option.map_some, Option.bind_some, h2, h3, h4, h5, h6] at r1 r3 r5 r7 ⊢
    unfold relV at r1 r3 r5 r7
    by_cases hg : g.2 = []
    · rw [if_pos hg]
      dsimp only
      refine ⟨congrArg Prod.fst r1, congrArg Prod.fst r3, congrArg Prod.fst r5, Eq.trans r7 ?_⟩
      rw [hg]
    · rw [if_neg hg]
      dsimp only
      have e := congrArg (fun z => z.2.1) r7
      exact .inr (fun e2 => hg (Eq.trans e.symm e2))
end Go.Proofs.YtghiibdhibcbaaaDoor.PA
