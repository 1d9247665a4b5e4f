/- A clock's text, in plain lists: what both readers come to. A clock's text: its length and its colons. code: ParseClock told. The reference: ParseClock told. -/
import Derived.Test.YtghiibdhibcbaaaGreatDoorMF
import Derived.Test.YtghiibdhibcbaaaGreatDoorMM
import Derived.Test.YtghiibdhibcbaaaGreatDoorPckA
import Derived.Test.YtghiibdhibcbaaaGreatDoorRpcA
namespace Go.Proofs.YtghiibdhibcbaaaGreatDoor.PA
open Go Go.RowKit Go.Proofs.YtghiibdhibcbaaaGreatDoor.CS
set_option linter.unusedSimpArgs false
set_option linter.unusedVariables false
/-- minutes, seconds, parts to the end -/
def tlO (pt : UInt8) (size : Nat) (l : List UInt8) : Option (Int × Int × Int) :=
  (belO 2 60 l).bind fun b => (byteO 58 b.2).bind fun c => (belO 2 60 c).bind fun d => (byteO pt d.2).bind fun e => (digO size e).bind fun g => if g.2 = [] then some (b.1, d.1, g.1) else none
theorem tl_run (pt : UInt8) (size : Nat) (z1 : 1 ≤ size) {x : St} {o : Option (List UInt8)} (h : rel x o) :
    ∃ x5 x6 x7 x9 x11, belS x 2 60 = x5 ∧ sgnS x5.2 58 = x6 ∧ belS x6 2 60 = x7 ∧ sgnS x7.2 pt = x9 ∧ numS x9 (size : Int) = x11 ∧
      (match o.bind (tlO pt size) with | some (m, s, k) => x5.1 = m ∧ x7.1 = s ∧ x11 = (k, [], false) | none => x11.2.2 = true ∨ x11.2.1 ≠ []) := by
  obtain ⟨x5, e5⟩ : ∃ y, belS x 2 60 = y := ⟨_, rfl⟩
  obtain ⟨x6, e6⟩ : ∃ y, sgnS x5.2 58 = y := ⟨_, rfl⟩
  obtain ⟨x7, e7⟩ : ∃ y, belS x6 2 60 = y := ⟨_, rfl⟩
  obtain ⟨x9, e9⟩ : ∃ y, sgnS x7.2 pt = y := ⟨_, rfl⟩
  obtain ⟨x11, e11⟩ : ∃ y, numS x9 (size : Int) = y := ⟨_, rfl⟩
  refine ⟨x5, x6, x7, x9, x11, e5, e6, e7, e9, e11, ?_⟩
  have r3 := bel_rel 2 60 (by decide) h
  rw [show ((2 : Nat) : Int) = 2 from rfl, e5] at r3
  have r4 := sgn_rel 58 r3.st
  rw [e6] at r4
  have r5 := bel_rel 2 60 (by decide) r4
  rw [show ((2 : Nat) : Int) = 2 from rfl, e7] at r5
  have r6 := sgn_rel pt r5.st
  rw [e9] at r6
  have r7 := num_rel size z1 r6
  rw [e11] at r7
  unfold tlO
  cases o with
  | none => simp only [Option.map_none, Option.bind_none] at r7 ⊢; exact .inl r7
  | some l =>
  cases h2 : belO 2 60 l with
  | none => simp only [Option.map_some, Option.bind_some, h2, Option.map_none, Option.bind_none] at r7 ⊢; exact .inl r7
  | some b =>
  cases h3 : byteO 58 b.2 with
  | none => simp only [Option.map_some, Option.bind_some, h2, h3, Option.map_none, Option.bind_none] at r7 ⊢; exact .inl r7
  | some c =>
  cases h4 : belO 2 60 c with
  | none => simp only [Option.map_some, Option.bind_some, h2, h3, h4, Option.map_none, Option.bind_none] at r7 ⊢; exact .inl r7
  | some d =>
  cases h5 : byteO pt d.2 with
  | none => simp only [Option.map_some, Option.bind_some, h2, h3, h4, h5, Option.map_none, Option.bind_none] at r7 ⊢; exact .inl r7
  | some q =>
  cases h6 : digO size q with
  | none => simp only [Option.map_some, Option.bind_some, h2, h3, h4, h5, h6, Option.map_none, Option.bind_none] at r7 ⊢; exact .inl r7
  | some g =>
    simp only [Option.map_some, Option.bind_some, h2, h3, h4, h5, h6] at r3 r5 r7 ⊢
    unfold relV at r3 r5 r7
    dsimp only at r3 r5 r7
    by_cases hg : g.2 = []
    · rw [if_pos hg]
      dsimp only
      rw [hg] at r7
      exact ⟨by rw [r3], by rw [r5], r7⟩
    · rw [if_neg hg]
      dsimp only
      exact .inr (by rw [r7]; exact hg)
/-- a whole number of parts, as a ratio: is it a time -/
theorem time_new {V g : Int} (v0 : 0 ≤ V) (v1 : V ≤ 4000000000) (g0 : 1 ≤ g) (g1 : g ≤ 1000) : ∃ x y, newS V g = (x, y, 0) ∧ (timeS x y = if V ≤ 360000 * g then 0 else 31) ∧ 0 ≤ x ∧ x ≤ V ∧ 1 ≤ y ∧ y ≤ g := by
  have e := new_pos v0 (by omega) g0 (by omega)
  obtain ⟨c, hc⟩ : ∃ c, Nat.gcd V.natAbs g.natAbs = c := ⟨_, rfl⟩
  have hp : 0 < c := by rw [← hc]; exact Nat.gcd_pos_of_pos_right _ (by omega)
  have hcop := Nat.gcd_div_gcd_div_gcd_of_pos_right (n := V.natAbs) (m := g.natAbs) (by omega)
  have w1 : (c : Int) ∣ V := by have := Int.natCast_dvd_natCast.mpr (Nat.gcd_dvd_left V.natAbs g.natAbs); rw [hc] at this; rwa [show (V.natAbs : Int) = V by omega] at this
  have w2 : (c : Int) ∣ g := by have := Int.natCast_dvd_natCast.mpr (Nat.gcd_dvd_right V.natAbs g.natAbs); rw [hc] at this; rwa [show (g.natAbs : Int) = g by omega] at this
  rw [hc] at e hcop
  have u1 : (c : Int) * (V / c) = V := Int.mul_ediv_cancel' w1
  have u2 : (c : Int) * (g / c) = g := Int.mul_ediv_cancel' w2
  have x0 : 0 ≤ V / (c : Int) := Int.ediv_nonneg v0 (by omega)
  have x1 : V / (c : Int) ≤ V := Int.ediv_le_self _ v0
  have y1 : g / (c : Int) ≤ g := Int.ediv_le_self _ (by omega)
  have y0 : 1 ≤ g / (c : Int) := by
    rcases Int.lt_or_le (g / (c : Int)) 1 with hlt | hge2
    · have h0 : 0 ≤ g / (c : Int) := Int.ediv_nonneg (by omega) (by omega)
      have : g / (c : Int) = 0 := by omega
      rw [this, Int.mul_zero] at u2; omega
    · exact hge2
  have hx : (V / (c : Int)).natAbs = V.natAbs / c := by
    have : V / (c : Int) = ((V.natAbs / c : Nat) : Int) := by rw [Int.natCast_ediv]; congr 1; omega
    rw [this, Int.natAbs_natCast]
  have hy : (g / (c : Int)).natAbs = g.natAbs / c := by
    have : g / (c : Int) = ((g.natAbs / c : Nat) : Int) := by rw [Int.natCast_ediv]; congr 1; omega
    rw [this, Int.natAbs_natCast]
  refine ⟨_, _, e, ?_, x0, x1, y0, y1⟩
  rw [timeS_iff, if_pos ⟨y0, by omega, by omega, by rw [hx, hy]; exact hcop⟩]
  have k1 : (c : Int) * (360000 * (g / c)) = 360000 * g := by rw [show (c : Int) * (360000 * (g / c)) = 360000 * (c * (g / c)) by grind, u2]
  by_cases hle : V ≤ 360000 * g
  · rw [if_pos hle, if_pos ⟨x0, Int.le_of_mul_le_mul_left (by rw [u1, k1]; exact hle) (by omega : (0 : Int) < c)⟩]
  · rw [if_neg hle, if_neg]
    rintro ⟨_, h2⟩
    have := Int.mul_le_mul_of_nonneg_left h2 (show (0 : Int) ≤ c by omega)
    rw [u1, k1] at this
    exact hle this
end Go.Proofs.YtghiibdhibcbaaaGreatDoor.PA
namespace Go.Proofs.YtghiibdhibcbaaaGreatDoor.PA
open Go Go.RowKit Go.Proofs.YtghiibdhibcbaaaGreatDoor.CS
set_option linter.unusedSimpArgs false
set_option linter.unusedVariables false
theorem digO_shape {k : Nat} {l r : List UInt8} {v : Int} (h : digO k l = some (v, r)) : ∃ a, l = a ++ r ∧ a.length = k ∧ noD a = false := by
  unfold digO at h
  split at h
  · rename_i hc
    simp only [Option.some.injEq, Prod.mk.injEq] at h
    exact ⟨l.take k, by rw [← h.2, List.take_append_drop], by rw [List.length_take]; omega, hc.2⟩
  · cases h
theorem belO_shape {k : Nat} {most v : Int} {l r : List UInt8} (h : belO k most l = some (v, r)) : ∃ a, l = a ++ r ∧ a.length = k ∧ noD a = false := by
  unfold belO at h
  cases hd : digO k l with
  | none => rw [hd] at h; cases h
  | some p =>
    rw [hd, Option.bind_some] at h
    split at h
    · simp only [Option.some.injEq] at h
      subst h
      exact digO_shape hd
    · cases h
theorem byteO_shape {c : UInt8} {l r : List UInt8} (h : byteO c l = some r) : l = c :: r := by
  unfold byteO at h
  split at h
  · rename_i hc
    simp only [Option.some.injEq] at h
    cases l with
    | nil => cases hc
    | cons a l => simp only [List.head?_cons, Option.some.injEq] at hc; simp only [List.tail_cons] at h; rw [hc, h]
  · cases h
theorem hcO_shape {least : Nat} {l r : List UInt8} {v : Int} (h : hcO least l = some (v, r)) : ∃ a, l = a ++ 58 :: r ∧ least ≤ a.length ∧ noD a = false := by
  unfold hcO at h
  split at h
  · rename_i hc
    obtain ⟨h1, h2, h3, h4⟩ := hc
    simp only [Option.some.injEq, Prod.mk.injEq] at h
    obtain ⟨d1, d2⟩ := idx_split l 58 (by omega)
    refine ⟨l.take (Lib.indexByte l 58).toNat, ?_, by rw [List.length_take]; omega, h4⟩
    rw [← h.2, ← d1, List.take_append_drop]
  · cases h
theorem noD_any {l : List UInt8} (h : noD l = false) (hc : (58 : UInt8) ∈ l) : False := by
  unfold noD at h
  rw [List.any_eq_false] at h
  exact h 58 hc (by decide)
/-- how many colons -/
def cols (l : List UInt8) : Nat := l.countP (· == 58)
theorem cols_app (a b : List UInt8) : cols (a ++ b) = cols a + cols b := List.countP_append
theorem cols_dig {l : List UInt8} (h : noD l = false) : cols l = 0 := by
  unfold cols
  rw [List.countP_eq_zero]
  intro c hc e
  have : c = 58 := by simpa using e
  subst this
  exact (noD_any h hc)
theorem tlO_shape {pt : UInt8} {size : Nat} {l : List UInt8} {t : Int × Int × Int} (hp : (pt == 58) = false) (h : tlO pt size l = some t) : l.length = 6 + size ∧ cols l = 1 := by
  unfold tlO at h
  cases h1 : belO 2 60 l with
  | none => rw [h1] at h; cases h
  | some b =>
  cases h2 : byteO 58 b.2 with
  | none => simp [h1, h2] at h
  | some c =>
  cases h3 : belO 2 60 c with
  | none => simp [h1, h2, h3] at h
  | some d =>
  cases h4 : byteO pt d.2 with
  | none => simp [h1, h2, h3, h4] at h
  | some q =>
  cases h5 : digO size q with
  | none => simp [h1, h2, h3, h4, h5] at h
  | some g =>
    simp only [h1, h2, h3, h4, h5, Option.bind_some] at h
    split at h
    · rename_i hg
      obtain ⟨a1, e1, l1, n1⟩ := belO_shape (v := b.1) (r := b.2) h1
      have e2 := byteO_shape h2
      obtain ⟨a3, e3, l3, n3⟩ := belO_shape (v := d.1) (r := d.2) h3
      have e4 := byteO_shape h4
      obtain ⟨a5, e5, l5, n5⟩ := digO_shape (v := g.1) (r := g.2) h5
      rw [hg, List.append_nil] at e5
      rw [e1, e2, e3, e4, e5]
      constructor
      · simp only [List.length_append, List.length_cons, l1, l3, l5]; omega
      · rw [cols_app, cols_dig n1, show (58 :: (a3 ++ pt :: a5) : List UInt8) = [58] ++ (a3 ++ ([pt] ++ a5)) by simp, cols_app, cols_app, cols_app, cols_dig n3, cols_dig n5, show cols [pt] = 0 by unfold cols; rw [List.countP_cons, hp]; rfl]
        rfl
    · cases h
theorem clO_shape {least size : Nat} {pt : UInt8} {l : List UInt8} {a : Int × List UInt8} {t : Int × Int × Int} (hp : (pt == 58) = false) (h1 : hcO least l = some a) (h2 : tlO pt size a.2 = some t) : least + 7 + size ≤ l.length ∧ cols l = 2 := by
  obtain ⟨b, e, l1, n1⟩ := hcO_shape (v := a.1) (r := a.2) h1
  obtain ⟨k1, k2⟩ := tlO_shape hp h2
  rw [e]
  constructor
  · simp only [List.length_append, List.length_cons, k1]; omega
  · rw [cols_app, cols_dig n1, show (58 :: a.2 : List UInt8) = [58] ++ a.2 by simp, cols_app, k2]; rfl
end Go.Proofs.YtghiibdhibcbaaaGreatDoor.PA
namespace Go.Proofs.YtghiibdhibcbaaaGreatDoor.PA
open Go Go.RowKit Go.Proofs.YtghiibdhibcbaaaGreatDoor.CS
set_option linter.unusedSimpArgs false
set_option linter.unusedVariables false
theorem digO_le {k : Nat} {l : List UInt8} {p : Int × List UInt8} (h : digO k l = some p) : 0 ≤ p.1 ∧ p.1 < ((10 ^ k : Nat) : Int) := by
  unfold digO at h
  split at h
  · rename_i hc
    simp only [Option.some.injEq] at h
    subst h
    have := vg_range k (by rw [List.length_take]; omega) hc.2
    dsimp only
    omega
  · cases h
theorem tlO_le {pt : UInt8} {size : Nat} {l : List UInt8} {m s k : Int} (h : tlO pt size l = some (m, s, k)) : 0 ≤ m ∧ m < 60 ∧ 0 ≤ s ∧ s < 60 ∧ 0 ≤ k ∧ k < ((10 ^ size : Nat) : Int) := by
  unfold tlO at h
  cases h1 : belO 2 60 l with
  | none => rw [h1] at h; cases h
  | some b =>
  cases h2 : byteO 58 b.2 with
  | none => simp [h1, h2] at h
  | some c =>
  cases h3 : belO 2 60 c with
  | none => simp [h1, h2, h3] at h
  | some d =>
  cases h4 : byteO pt d.2 with
  | none => simp [h1, h2, h3, h4] at h
  | some q =>
  cases h5 : digO size q with
  | none => simp [h1, h2, h3, h4, h5] at h
  | some g =>
    simp only [h1, h2, h3, h4, h5, Option.bind_some] at h
    split at h
    · simp only [Option.some.injEq, Prod.mk.injEq] at h
      obtain ⟨rfl, rfl, rfl⟩ := h
      have r1 := belO_le (v := b.1) (r := b.2) h1
      have r2 := belO_le (v := d.1) (r := d.2) h3
      have r3 := digO_le h5
      exact ⟨r1.1, r1.2, r2.1, r2.2, r3.1, r3.2⟩
    · cases h
/-- what a clock's parts come to -/
def prsV (g : Int) (o : Option (Int × Int × Int × Int)) : Int × Int × Int :=
  match o with
  | some (h, m, s, k) => if (h * 3600 + m * 60 + s) * g + k ≤ 360000 * g then newS ((h * 3600 + m * 60 + s) * g + k) g else (0, 0, 31)
  | none => (0, 0, 13)
def clO (least : Nat) (pt : UInt8) (size : Nat) (l : List UInt8) : Option (Int × Int × Int × Int) := (hcO least l).bind fun a => (tlO pt size a.2).map fun t => (a.1, t)
theorem count_any (l : List UInt8) (w : World) : Calls Tryz.prog 38 #[.string (bs l), .string ⟨#[58]⟩] w fun e w' => e = .returned (.int .i64 ((cols l : Nat) : Int)) ∧ Below w.heap.size w w' := by
  refine (Tryz.strings_Count_one (bs l) 58 w).mono ?_
  rintro e w' ⟨rfl, rfl⟩
  exact ⟨by rw [bs_data]; rfl, Below.refl _ _⟩
theorem cpck_1 (l : List UInt8) (w : World) :
    Calls Tryz.prog 13 #[.int .i64 1, .string (bs l)] w fun e w' => e = .returned (.tuple #[.agg #[.int .i64 (prsV 1000 (clO 2 44 3 l)).1, .int .i64 (prsV 1000 (clO 2 44 3 l)).2.1], .int .i64 (prsV 1000 (clO 2 44 3 l)).2.2]) ∧ Below w.heap.size w w' := by
  have r := hours_rel l 2 (by decide)
  have rs := r.st
  dsimp only at rs
  obtain ⟨x3, e3⟩ : ∃ y, hrsS (l, false) 2 = y := ⟨_, rfl⟩
  rw [show ((2 : Nat) : Int) = 2 from rfl, e3] at r rs
  obtain ⟨x4, e4⟩ : ∃ y, sgnS x3.2 58 = y := ⟨_, rfl⟩
  rw [e4] at r rs
  obtain ⟨x5, x6, x7, x9, x11, e5, e6, e7, e9, e11, hm⟩ := tl_run 44 3 (by decide) rs
  have c3 := fun (w0 w : World) g hg hx hB => hours_any (l, false) 2 g w0 w (by decide) hg hx hB
  have c4 := fun (w0 w : World) g hg hx hB => sign_any x3.2 58 g w0 w hg hx hB
  have c5 := fun (w0 w : World) g hg hx hB => below_any x4 2 60 g w0 w (by decide) hg hx hB
  have c6 := fun (w0 w : World) g hg hx hB => sign_any x5.2 58 g w0 w hg hx hB
  have c7 := fun (w0 w : World) g hg hx hB => below_any x6 2 60 g w0 w (by decide) hg hx hB
  have c9 := fun (w0 w : World) g hg hx hB => sign_any x7.2 44 g w0 w hg hx hB
  have c11 := fun (w0 w : World) g hg hx hB => number_any x9 3 g w0 w (by decide) hg hx hB
  rw [e3] at c3
  rw [e4] at c4
  rw [e5] at c5
  rw [e6] at c6
  rw [e7] at c7
  rw [e9] at c9
  rw [show ((3 : Nat) : Int) = 3 from rfl] at e11
  rw [e11] at c11
  unfold clO
  have no : (x11.2.2 = true ∨ x11.2.1 ≠ []) → Calls Tryz.prog 13 #[.int .i64 1, .string (bs l)] w fun e w' => e = .returned (.tuple #[.agg #[.int .i64 0, .int .i64 0], .int .i64 13]) ∧ Below w.heap.size w w' := by
    intro h
    by_cases hb : x11.2.2 = true
    · exact pck_1 _ _ _ 0 0 0 0 _ _ _ _ _ _ _ _ _ _ _ _ _ _ _ _ _ _ _ (.inl ⟨hb, rfl, rfl, rfl⟩) w c3 c4 c5 c6 c7 c9 c11
    · exact pck_1 _ _ _ 0 0 0 0 _ _ _ _ _ _ _ _ _ _ _ _ _ _ _ _ _ _ _ (.inr (.inl ⟨by simpa using hb, ne_nil_bs (h.resolve_left hb), rfl, rfl, rfl⟩)) w c3 c4 c5 c6 c7 c9 c11
  cases h1 : hcO 2 l with
  | none => rw [h1] at hm; exact no hm
  | some a =>
    rw [h1] at hm r
    simp only [Option.map_some, Option.bind_some] at hm ⊢
    cases h2 : tlO 44 3 a.2 with
    | none => rw [h2] at hm; exact no hm
    | some t =>
      obtain ⟨m, s, k⟩ := t
      rw [h2] at hm
      obtain ⟨a1, a2, a3⟩ := hm
      have a0 : x3.1 = a.1 := congrArg Prod.fst r
      obtain ⟨h0, h9⟩ := hcO_le (v := a.1) (r := a.2) h1
      obtain ⟨m0, m9, s0, s9, k0, k9⟩ := tlO_le h2
      rw [a0] at c3
      rw [a1] at c5
      rw [a2] at c7
      rw [a3] at c11
      dsimp only at c11
      have k8 : k < 1000 := k9
      simp only [Option.map_some, prsV]
      obtain ⟨x, y, en, et, b0, b1, b2, b3⟩ := time_new (V := (a.1 * 3600 + m * 60 + s) * 1000 + k) (g := 1000) (by omega) (by omega) (by decide) (by decide)
      have c12 := fun w => new_any ((a.1 * 3600 + m * 60 + s) * 1000 + k) 1000 w (by omega) (by omega) (by decide) (by decide)
      have c13 := fun w => time_any x y w (by omega) (by omega) (by omega) (by omega)
      rw [en] at c12
      rw [et] at c13
      by_cases hv : (a.1 * 3600 + m * 60 + s) * 1000 + k ≤ 360000 * 1000
      · rw [if_pos hv] at c13 ⊢
        rw [en]
        exact pck_1 _ _ _ x y 0 0 a.1 m s k _ _ _ _ _ _ _ _ _ _ _ _ _ _ _ (.inr (.inr (.inl ⟨rfl, rfl, h0, h9, m0, m9, s0, s9, k0, k8, rfl, rfl, rfl, c12, c13⟩))) w c3 c4 c5 c6 c7 c9 c11
      · rw [if_neg hv] at c13 ⊢
        exact pck_1 _ _ _ x y 0 31 a.1 m s k _ _ _ _ _ _ _ _ _ _ _ _ _ _ _ (.inr (.inr (.inr ⟨rfl, rfl, h0, h9, m0, m9, s0, s9, k0, k8, by decide, rfl, rfl, rfl, c12, c13⟩))) w c3 c4 c5 c6 c7 c9 c11
theorem cpck_4 (l : List UInt8) (w : World) :
    Calls Tryz.prog 13 #[.int .i64 4, .string (bs l)] w fun e w' => e = .returned (.tuple #[.agg #[.int .i64 (prsV 100 (clO 1 46 2 l)).1, .int .i64 (prsV 100 (clO 1 46 2 l)).2.1], .int .i64 (prsV 100 (clO 1 46 2 l)).2.2]) ∧ Below w.heap.size w w' := by
  have r := hours_rel l 1 (by decide)
  have rs := r.st
  dsimp only at rs
  obtain ⟨x3, e3⟩ : ∃ y, hrsS (l, false) 1 = y := ⟨_, rfl⟩
  rw [show ((1 : Nat) : Int) = 1 from rfl, e3] at r rs
  obtain ⟨x4, e4⟩ : ∃ y, sgnS x3.2 58 = y := ⟨_, rfl⟩
  rw [e4] at r rs
  obtain ⟨x5, x6, x7, x9, x11, e5, e6, e7, e9, e11, hm⟩ := tl_run 46 2 (by decide) rs
  have c3 := fun (w0 w : World) g hg hx hB => hours_any (l, false) 1 g w0 w (by decide) hg hx hB
  have c4 := fun (w0 w : World) g hg hx hB => sign_any x3.2 58 g w0 w hg hx hB
  have c5 := fun (w0 w : World) g hg hx hB => below_any x4 2 60 g w0 w (by decide) hg hx hB
  have c6 := fun (w0 w : World) g hg hx hB => sign_any x5.2 58 g w0 w hg hx hB
  have c7 := fun (w0 w : World) g hg hx hB => below_any x6 2 60 g w0 w (by decide) hg hx hB
  have c9 := fun (w0 w : World) g hg hx hB => sign_any x7.2 46 g w0 w hg hx hB
  have c11 := fun (w0 w : World) g hg hx hB => number_any x9 2 g w0 w (by decide) hg hx hB
  rw [e3] at c3
  rw [e4] at c4
  rw [e5] at c5
  rw [e6] at c6
  rw [e7] at c7
  rw [e9] at c9
  rw [show ((2 : Nat) : Int) = 2 from rfl] at e11
  rw [e11] at c11
  unfold clO
  have no : (x11.2.2 = true ∨ x11.2.1 ≠ []) → Calls Tryz.prog 13 #[.int .i64 4, .string (bs l)] w fun e w' => e = .returned (.tuple #[.agg #[.int .i64 0, .int .i64 0], .int .i64 13]) ∧ Below w.heap.size w w' := by
    intro h
    by_cases hb : x11.2.2 = true
    · exact pck_4 _ _ _ 0 0 0 0 _ _ _ _ _ _ _ _ _ _ _ _ _ _ _ _ _ _ _ (.inl ⟨hb, rfl, rfl, rfl⟩) w c3 c4 c5 c6 c7 c9 c11
    · exact pck_4 _ _ _ 0 0 0 0 _ _ _ _ _ _ _ _ _ _ _ _ _ _ _ _ _ _ _ (.inr (.inl ⟨by simpa using hb, ne_nil_bs (h.resolve_left hb), rfl, rfl, rfl⟩)) w c3 c4 c5 c6 c7 c9 c11
  cases h1 : hcO 1 l with
  | none => rw [h1] at hm; exact no hm
  | some a =>
    rw [h1] at hm r
    simp only [Option.map_some, Option.bind_some] at hm ⊢
    cases h2 : tlO 46 2 a.2 with
    | none => rw [h2] at hm; exact no hm
    | some t =>
      obtain ⟨m, s, k⟩ := t
      rw [h2] at hm
      obtain ⟨a1, a2, a3⟩ := hm
      have a0 : x3.1 = a.1 := congrArg Prod.fst r
      obtain ⟨h0, h9⟩ := hcO_le (v := a.1) (r := a.2) h1
      obtain ⟨m0, m9, s0, s9, k0, k9⟩ := tlO_le h2
      rw [a0] at c3
      rw [a1] at c5
      rw [a2] at c7
      rw [a3] at c11
      dsimp only at c11
      have k8 : k < 100 := k9
      simp only [Option.map_some, prsV]
      obtain ⟨x, y, en, et, b0, b1, b2, b3⟩ := time_new (V := (a.1 * 3600 + m * 60 + s) * 100 + k) (g := 100) (by omega) (by omega) (by decide) (by decide)
      have c12 := fun w => new_any ((a.1 * 3600 + m * 60 + s) * 100 + k) 100 w (by omega) (by omega) (by decide) (by decide)
      have c13 := fun w => time_any x y w (by omega) (by omega) (by omega) (by omega)
      rw [en] at c12
      rw [et] at c13
      by_cases hv : (a.1 * 3600 + m * 60 + s) * 100 + k ≤ 360000 * 100
      · rw [if_pos hv] at c13 ⊢
        rw [en]
        exact pck_4 _ _ _ x y 0 0 a.1 m s k _ _ _ _ _ _ _ _ _ _ _ _ _ _ _ (.inr (.inr (.inl ⟨rfl, rfl, h0, h9, m0, m9, s0, s9, k0, k8, rfl, rfl, rfl, c12, c13⟩))) w c3 c4 c5 c6 c7 c9 c11
      · rw [if_neg hv] at c13 ⊢
        exact pck_4 _ _ _ x y 0 31 a.1 m s k _ _ _ _ _ _ _ _ _ _ _ _ _ _ _ (.inr (.inr (.inr ⟨rfl, rfl, h0, h9, m0, m9, s0, s9, k0, k8, by decide, rfl, rfl, rfl, c12, c13⟩))) w c3 c4 c5 c6 c7 c9 c11
theorem cpck_2 (l : List UInt8) (w : World) (hn : cols l ≠ 1) :
    Calls Tryz.prog 13 #[.int .i64 2, .string (bs l)] w fun e w' => e = .returned (.tuple #[.agg #[.int .i64 (prsV 1000 (clO 2 46 3 l)).1, .int .i64 (prsV 1000 (clO 2 46 3 l)).2.1], .int .i64 (prsV 1000 (clO 2 46 3 l)).2.2]) ∧ Below w.heap.size w w' := by
  have r := hours_rel l 2 (by decide)
  have rs := r.st
  dsimp only at rs
  obtain ⟨x3, e3⟩ : ∃ y, hrsS (l, false) 2 = y := ⟨_, rfl⟩
  rw [show ((2 : Nat) : Int) = 2 from rfl, e3] at r rs
  obtain ⟨x4, e4⟩ : ∃ y, sgnS x3.2 58 = y := ⟨_, rfl⟩
  rw [e4] at r rs
  obtain ⟨x5, x6, x7, x9, x11, e5, e6, e7, e9, e11, hm⟩ := tl_run 46 3 (by decide) rs
  have c3 := fun (w0 w : World) g hg hx hB => hours_any (l, false) 2 g w0 w (by decide) hg hx hB
  have c4 := fun (w0 w : World) g hg hx hB => sign_any x3.2 58 g w0 w hg hx hB
  have c5 := fun (w0 w : World) g hg hx hB => below_any x4 2 60 g w0 w (by decide) hg hx hB
  have c6 := fun (w0 w : World) g hg hx hB => sign_any x5.2 58 g w0 w hg hx hB
  have c7 := fun (w0 w : World) g hg hx hB => below_any x6 2 60 g w0 w (by decide) hg hx hB
  have c9 := fun (w0 w : World) g hg hx hB => sign_any x7.2 46 g w0 w hg hx hB
  have c11 := fun (w0 w : World) g hg hx hB => number_any x9 3 g w0 w (by decide) hg hx hB
  rw [e3] at c3
  rw [e4] at c4
  rw [e5] at c5
  rw [e6] at c6
  rw [e7] at c7
  rw [e9] at c9
  rw [show ((3 : Nat) : Int) = 3 from rfl] at e11
  rw [e11] at c11
  have c2 := count_any l
  have hcn : (((cols l : Nat) : Int) == 1) = false := by simp; omega
  unfold clO
  have no : (x11.2.2 = true ∨ x11.2.1 ≠ []) → Calls Tryz.prog 13 #[.int .i64 2, .string (bs l)] w fun e w' => e = .returned (.tuple #[.agg #[.int .i64 0, .int .i64 0], .int .i64 13]) ∧ Below w.heap.size w w' := by
    intro h
    by_cases hb : x11.2.2 = true
    · exact pck_2 _ _ _ 0 0 0 0 _ _ _ _ _ _ _ _ _ _ _ _ _ _ _ _ _ _ _ _ hcn (.inl ⟨hb, rfl, rfl, rfl⟩) w c2 c3 c4 c5 c6 c7 c9 c11
    · exact pck_2 _ _ _ 0 0 0 0 _ _ _ _ _ _ _ _ _ _ _ _ _ _ _ _ _ _ _ _ hcn (.inr (.inl ⟨by simpa using hb, ne_nil_bs (h.resolve_left hb), rfl, rfl, rfl⟩)) w c2 c3 c4 c5 c6 c7 c9 c11
  cases h1 : hcO 2 l with
  | none => rw [h1] at hm; exact no hm
  | some a =>
    rw [h1] at hm r
    simp only [Option.map_some, Option.bind_some] at hm ⊢
    cases h2 : tlO 46 3 a.2 with
    | none => rw [h2] at hm; exact no hm
    | some t =>
      obtain ⟨m, s, k⟩ := t
      rw [h2] at hm
      obtain ⟨a1, a2, a3⟩ := hm
      have a0 : x3.1 = a.1 := congrArg Prod.fst r
      obtain ⟨h0, h9⟩ := hcO_le (v := a.1) (r := a.2) h1
      obtain ⟨m0, m9, s0, s9, k0, k9⟩ := tlO_le h2
      rw [a0] at c3
      rw [a1] at c5
      rw [a2] at c7
      rw [a3] at c11
      dsimp only at c11
      have k8 : k < 1000 := k9
      simp only [Option.map_some, prsV]
      obtain ⟨x, y, en, et, b0, b1, b2, b3⟩ := time_new (V := (a.1 * 3600 + m * 60 + s) * 1000 + k) (g := 1000) (by omega) (by omega) (by decide) (by decide)
      have c12 := fun w => new_any ((a.1 * 3600 + m * 60 + s) * 1000 + k) 1000 w (by omega) (by omega) (by decide) (by decide)
      have c13 := fun w => time_any x y w (by omega) (by omega) (by omega) (by omega)
      rw [en] at c12
      rw [et] at c13
      by_cases hv : (a.1 * 3600 + m * 60 + s) * 1000 + k ≤ 360000 * 1000
      · rw [if_pos hv] at c13 ⊢
        rw [en]
        exact pck_2 _ _ _ x y 0 0 a.1 m s k _ _ _ _ _ _ _ _ _ _ _ _ _ _ _ _ hcn (.inr (.inr (.inl ⟨rfl, rfl, h0, h9, m0, m9, s0, s9, k0, k8, rfl, rfl, rfl, c12, c13⟩))) w c2 c3 c4 c5 c6 c7 c9 c11
      · rw [if_neg hv] at c13 ⊢
        exact pck_2 _ _ _ x y 0 31 a.1 m s k _ _ _ _ _ _ _ _ _ _ _ _ _ _ _ _ hcn (.inr (.inr (.inr ⟨rfl, rfl, h0, h9, m0, m9, s0, s9, k0, k8, by decide, rfl, rfl, rfl, c12, c13⟩))) w c2 c3 c4 c5 c6 c7 c9 c11
theorem cpck_2s (l : List UInt8) (w : World) (hn : cols l = 1) :
    Calls Tryz.prog 13 #[.int .i64 2, .string (bs l)] w fun e w' => e = .returned (.tuple #[.agg #[.int .i64 (prsV 1000 ((tlO 46 3 l).map fun t => (0, t))).1, .int .i64 (prsV 1000 ((tlO 46 3 l).map fun t => (0, t))).2.1], .int .i64 (prsV 1000 ((tlO 46 3 l).map fun t => (0, t))).2.2]) ∧ Below w.heap.size w w' := by
  have rs : rel (l, false) (some l) := rfl
  obtain ⟨x5, x6, x7, x9, x11, e5, e6, e7, e9, e11, hm⟩ := tl_run 46 3 (by decide) rs
  have c5 := fun (w0 w : World) g hg hx hB => below_any (l, false) 2 60 g w0 w (by decide) hg hx hB
  have c6 := fun (w0 w : World) g hg hx hB => sign_any x5.2 58 g w0 w hg hx hB
  have c7 := fun (w0 w : World) g hg hx hB => below_any x6 2 60 g w0 w (by decide) hg hx hB
  have c9 := fun (w0 w : World) g hg hx hB => sign_any x7.2 46 g w0 w hg hx hB
  have c11 := fun (w0 w : World) g hg hx hB => number_any x9 3 g w0 w (by decide) hg hx hB
  rw [e5] at c5
  rw [e6] at c6
  rw [e7] at c7
  rw [e9] at c9
  rw [show ((3 : Nat) : Int) = 3 from rfl] at e11
  rw [e11] at c11
  have c2 := count_any l
  rw [hn] at c2
  simp only [Option.bind_some] at hm
  cases h2 : tlO 46 3 l with
  | none =>
    rw [h2] at hm
    by_cases hb : x11.2.2 = true
    · exact pck_2s _ _ _ 0 0 0 0 _ _ _ 1 _ _ _ _ _ _ _ _ _ _ _ rfl (.inl ⟨hb, rfl, rfl, rfl⟩) w c2 c5 c6 c7 c9 c11
    · exact pck_2s _ _ _ 0 0 0 0 _ _ _ 1 _ _ _ _ _ _ _ _ _ _ _ rfl (.inr (.inl ⟨by simpa using hb, ne_nil_bs (hm.resolve_left hb), rfl, rfl, rfl⟩)) w c2 c5 c6 c7 c9 c11
  | some t =>
    obtain ⟨m, s, k⟩ := t
    rw [h2] at hm
    obtain ⟨a1, a2, a3⟩ := hm
    obtain ⟨m0, m9, s0, s9, k0, k9⟩ := tlO_le h2
    rw [a1] at c5
    rw [a2] at c7
    rw [a3] at c11
    dsimp only at c11
    have k8 : k < 1000 := k9
    simp only [Option.map_some, prsV]
    obtain ⟨x, y, en, et, b0, b1, b2, b3⟩ := time_new (V := (m * 60 + s) * 1000 + k) (g := 1000) (by omega) (by omega) (by decide) (by decide)
    have c12 := fun w => new_any ((m * 60 + s) * 1000 + k) 1000 w (by omega) (by omega) (by decide) (by decide)
    have c13 := fun w => time_any x y w (by omega) (by omega) (by omega) (by omega)
    rw [en] at c12
    rw [et] at c13
    rw [if_pos (by omega)] at c13
    rw [if_pos (by omega), show (0 * 3600 + m * 60 + s) * 1000 + k = (m * 60 + s) * 1000 + k by omega, en]
    exact pck_2s _ _ _ x y 0 0 m s k 1 _ _ _ _ _ _ _ _ _ _ _ rfl (.inr (.inr (.inl ⟨rfl, rfl, m0, m9, s0, s9, k0, k8, rfl, rfl, rfl, c12, c13⟩))) w c2 c5 c6 c7 c9 c11
/-- what a text comes to as a clock -/
def prsS (f : Int) (l : List UInt8) : Int × Int × Int :=
  if f = 1 then prsV 1000 (clO 2 44 3 l) else if f = 2 then prsV 1000 (if l.length = 9 then (tlO 46 3 l).map fun t => (0, t) else clO 2 46 3 l) else if f = 4 then prsV 100 (clO 1 46 2 l) else (0, 0, 5)
theorem clO_two {l : List UInt8} (h : cols l = 1 ∨ l.length = 9) : clO 2 46 3 l = none := by
  unfold clO
  cases h1 : hcO 2 l with
  | none => rfl
  | some a =>
    cases h2 : tlO 46 3 a.2 with
    | none => simp [h2]
    | some t => have := clO_shape (by decide) h1 h2; omega
theorem tlO_two {l : List UInt8} (h : cols l ≠ 1 ∨ l.length ≠ 9) : tlO 46 3 l = none := by
  cases h2 : tlO 46 3 l with
  | none => rfl
  | some t => have := tlO_shape (by decide) h2; omega
theorem cparse_any (f : Int) (l : List UInt8) (w : World) :
    Calls Tryz.prog 13 #[.int .i64 f, .string (bs l)] w fun e w' => e = .returned (.tuple #[.agg #[.int .i64 (prsS f l).1, .int .i64 (prsS f l).2.1], .int .i64 (prsS f l).2.2]) ∧ Below w.heap.size w w' := by
  unfold prsS
  by_cases h1 : f = 1
  · subst h1; exact cpck_1 l w
  · by_cases h2 : f = 2
    · subst h2
      rw [if_neg (by decide), if_pos rfl]
      by_cases hn : cols l = 1
      · by_cases h9 : l.length = 9
        · rw [if_pos h9]; exact cpck_2s l w hn
        · have := cpck_2s l w hn
          rw [tlO_two (.inr h9)] at this
          rw [if_neg h9, clO_two (.inl hn)]; exact this
      · by_cases h9 : l.length = 9
        · have := cpck_2 l w hn
          rw [clO_two (.inr h9)] at this
          rw [if_pos h9, tlO_two (.inl hn)]; exact this
        · rw [if_neg h9]; exact cpck_2 l w hn
    · by_cases h4 : f = 4
      · subst h4; exact cpck_4 l w
      · rw [if_neg h1, if_neg h2, if_neg h4]
        exact pck_kind f (bs l) (by simpa using h1) (by simpa using h2) (by simpa using h4) w
end Go.Proofs.YtghiibdhibcbaaaGreatDoor.PA
namespace Go.Proofs.YtghiibdhibcbaaaGreatDoor.PA
open Go Go.RowKit Go.Proofs.YtghiibdhibcbaaaGreatDoor.CS
set_option linter.unusedSimpArgs false
set_option linter.unusedVariables false
end Go.Proofs.YtghiibdhibcbaaaGreatDoor.PA
