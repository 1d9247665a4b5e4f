/- code: ParseClock told. -/
import Derived.Test.YtghiibdhibcbaaaDoorPckA
import Derived.Test.YtghiibdhibcbaaaDoorPrsQ
namespace Go.Proofs.YtghiibdhibcbaaaDoor.PA
open Go Go.RowKit Go.Proofs.YtghiibdhibcbaaaDoor.CS
set_option linter.unusedSimpArgs false
set_option linter.unusedVariables false
theorem digO_le {k : Nat} {l : List UInt8} {p : Int × List UInt8} (h : digO k l = some p) : 0 ≤ p.1 ∧ p.1 < ((10 ^ k : Nat) : Int) := by
  unfold digO at h
  split at h
  · rename_i hc
    simp only [Option.some.injEq] at h
    subst h
    have := vg_range k (by rw [List.length_take]; omega) hc.2
    dsimp only
    omega
  · cases h
theorem tlO_le {pt : UInt8} {size : Nat} {l : List UInt8} {m s k : Int} (h : tlO pt size l = some (m, s, k)) : 0 ≤ m ∧ m < 60 ∧ 0 ≤ s ∧ s < 60 ∧ 0 ≤ k ∧ k < ((10 ^ size : Nat) : Int) := by
  unfold tlO at h
  cases h1 : belO 2 60 l with
  | none => rw [h1] at h; cases h
  | some b =>
  cases h2 : byteO 58 b.2 with
  | none => simp [h1, h2] at h
  | some c =>
  cases h3 : belO 2 60 c with
  | none => simp [h1, h2, h3] at h
  | some d =>
  cases h4 : byteO pt d.2 with
  | none => simp [h1, h2, h3, h4] at h
  | some q =>
  cases h5 : digO size q with
  | none => simp [h1, h2, h3, h4, h5] at h
  | some g =>
    simp only [h1, h2, h3, h4, h5, Option.bind_some] at h
    split at h
    · simp only [Option.some.injEq, Prod.mk.injEq] at h
      obtain ⟨rfl, rfl, rfl⟩ := h
      have r1 := belO_le (v := b.1) (r := b.2) h1
      have r2 := belO_le (v := d.1) (r := d.2) h3
      have r3 := digO_le h5
      exact ⟨r1.1, r1.2, r2.1, r2.2, r3.1, r3.2⟩
    · cases h
/-- what a clock's parts come to -/
def prsV (g : Int) (o : Option (Int × Int × Int × Int)) : Int × Int × Int :=
  match o with
  | some (h, m, s, k) => if (h * 3600 + m * 60 + s) * g + k ≤ 360000 * g then newS ((h * 3600 + m * 60 + s) * g + k) g else (0, 0, 31)
  | none => (0, 0, 13)
def clO (least : Nat) (pt : UInt8) (size : Nat) (l : List UInt8) : Option (Int × Int × Int × Int) := (hcO least l).bind fun a => (tlO pt size a.2).map fun t => (a.1, t)
theorem count_any (l : List UInt8) (w : World) : Calls Tryd.prog 72 #[.string (bs l), .string ⟨#[58]⟩] w fun e w' => e = .returned (.int .i64 ((cols l : Nat) : Int)) ∧ Below w.heap.size w w' := by
  refine (Tryd.strings_Count_one (bs l) 58 w).mono ?_
  rintro e w' ⟨rfl, rfl⟩
  exact ⟨by rw [bs_data]; rfl, Below.refl _ _⟩
theorem cpck_1 (l : List UInt8) (w : World) :
    Calls Tryd.prog 38 #[.int .i64 1, .string (bs l)] w fun e w' => e = .returned (.tuple #[.agg #[.int .i64 (prsV 1000 (clO 2 44 3 l)).1, .int .i64 (prsV 1000 (clO 2 44 3 l)).2.1], .int .i64 (prsV 1000 (clO 2 44 3 l)).2.2]) ∧ Below w.heap.size w w' := by
  have r := hours_rel l 2 (by decide)
  have rs := r.st
  dsimp only at rs
  obtain ⟨x3, e3⟩ : ∃ y, hrsS (l, false) 2 = y := ⟨_, rfl⟩
  rw [show ((2 : Nat) : Int) = 2 from rfl, e3] at r rs
  obtain ⟨x4, e4⟩ : ∃ y, sgnS x3.2 58 = y := ⟨_, rfl⟩
  rw [e4] at r rs
  obtain ⟨x5, x6, x7, x9, x11, e5, e6, e7, e9, e11, hm⟩ := tl_run 44 3 (by decide) rs
  have c3 := fun (w0 w : World) g hg hx hB => hours_any (l, false) 2 g w0 w (by decide) hg hx hB
  have c4 := fun (w0 w : World) g hg hx hB => sign_any x3.2 58 g w0 w hg hx hB
  have c5 := fun (w0 w : World) g hg hx hB => below_any x4 2 60 g w0 w (by decide) hg hx hB
  have c6 := fun (w0 w : World) g hg hx hB => sign_any x5.2 58 g w0 w hg hx hB
  have c7 := fun (w0 w : World) g hg hx hB => below_any x6 2 60 g w0 w (by decide) hg hx hB
  have c9 := fun (w0 w : World) g hg hx hB => sign_any x7.2 44 g w0 w hg hx hB
  have c11 := fun (w0 w : World) g hg hx hB => number_any x9 3 g w0 w (by decide) hg hx hB
  rw [e3] at c3
  rw [e4] at c4
  rw [e5] at c5
  rw [e6] at c6
  rw [e7] at c7
  rw [e9] at c9
  rw [show ((3 : Nat) : Int) = 3 from rfl] at e11
  rw [e11] at c11
  unfold clO
  have no : (x11.2.2 = true ∨ x11.2.1 ≠ []) → Calls Tryd.prog 38 #[.int .i64 1, .string (bs l)] w fun e w' => e = .returned (.tuple #[.agg #[.int .i64 0, .int .i64 0], .int .i64 13]) ∧ Below w.heap.size w w' := by
    intro h
    by_cases hb : x11.2.2 = true
    · exact pck_1_no _ _ _ _ _ _ _ _ _ _ _ _ _ _ _ _ _ _ _ hb w c3 c4 c5 c6 c7 c9 c11
    · exact pck_1_more _ _ _ _ _ _ _ _ _ _ _ _ _ _ _ _ _ _ _ (by simpa using hb) (ne_nil_bs (h.resolve_left hb)) w c3 c4 c5 c6 c7 c9 c11
  cases h1 : hcO 2 l with
  | none => rw [h1] at hm; exact no hm
  | some a =>
    rw [h1] at hm r
    simp only [Option.map_some, Option.bind_some] at hm ⊢
    cases h2 : tlO 44 3 a.2 with
    | none => rw [h2] at hm; exact no hm
    | some t =>
      obtain ⟨m, s, k⟩ := t
      rw [h2] at hm
      obtain ⟨a1, a2, a3⟩ := hm
      have a0 : x3.1 = a.1 := congrArg Prod.fst r
      obtain ⟨h0, h9⟩ := hcO_le (v := a.1) (r := a.2) h1
      obtain ⟨m0, m9, s0, s9, k0, k9⟩ := tlO_le h2
      rw [a0] at c3
      rw [a1] at c5
      rw [a2] at c7
      rw [a3] at c11
      dsimp only at c11
      have k8 : k < 1000 := k9
      simp only [Option.map_some, prsV]
      obtain ⟨x, y, en, et, b0, b1, b2, b3⟩ := time_new (V := (a.1 * 3600 + m * 60 + s) * 1000 + k) (g := 1000) (by omega) (by omega) (by decide) (by decide)
      have c12 := fun w => new_any ((a.1 * 3600 + m * 60 + s) * 1000 + k) 1000 w (by omega) (by omega) (by decide) (by decide)
      have c13 := fun w => time_any x y w (by omega) (by omega) (by omega) (by omega)
      rw [en] at c12
      rw [et] at c13
      by_cases hv : (a.1 * 3600 + m * 60 + s) * 1000 + k ≤ 360000 * 1000
      · rw [if_pos hv] at c13 ⊢
        rw [en]
        exact pck_1_ok a.1 m s k _ _ _ _ _ _ false _ _ _ _ _ _ _ _ rfl rfl h0 h9 m0 m9 s0 s9 k0 k8 x y 0 w c3 c4 c5 c6 c7 c9 c11 c12 c13
      · rw [if_neg hv] at c13 ⊢
        exact pck_1_far a.1 m s k _ _ _ _ _ _ false _ _ _ _ _ _ _ _ rfl rfl h0 h9 m0 m9 s0 s9 k0 k8 x y 0 31 (by decide) w c3 c4 c5 c6 c7 c9 c11 c12 c13
theorem cpck_4 (l : List UInt8) (w : World) :
    Calls Tryd.prog 38 #[.int .i64 4, .string (bs l)] w fun e w' => e = .returned (.tuple #[.agg #[.int .i64 (prsV 100 (clO 1 46 2 l)).1, .int .i64 (prsV 100 (clO 1 46 2 l)).2.1], .int .i64 (prsV 100 (clO 1 46 2 l)).2.2]) ∧ Below w.heap.size w w' := by
  have r := hours_rel l 1 (by decide)
  have rs := r.st
  dsimp only at rs
  obtain ⟨x3, e3⟩ : ∃ y, hrsS (l, false) 1 = y := ⟨_, rfl⟩
  rw [show ((1 : Nat) : Int) = 1 from rfl, e3] at r rs
  obtain ⟨x4, e4⟩ : ∃ y, sgnS x3.2 58 = y := ⟨_, rfl⟩
  rw [e4] at r rs
  obtain ⟨x5, x6, x7, x9, x11, e5, e6, e7, e9, e11, hm⟩ := tl_run 46 2 (by decide) rs
  have c3 := fun (w0 w : World) g hg hx hB => hours_any (l, false) 1 g w0 w (by decide) hg hx hB
  have c4 := fun (w0 w : World) g hg hx hB => sign_any x3.2 58 g w0 w hg hx hB
  have c5 := fun (w0 w : World) g hg hx hB => below_any x4 2 60 g w0 w (by decide) hg hx hB
  have c6 := fun (w0 w : World) g hg hx hB => sign_any x5.2 58 g w0 w hg hx hB
  have c7 := fun (w0 w : World) g hg hx hB => below_any x6 2 60 g w0 w (by decide) hg hx hB
  have c9 := fun (w0 w : World) g hg hx hB => sign_any x7.2 46 g w0 w hg hx hB
  have c11 := fun (w0 w : World) g hg hx hB => number_any x9 2 g w0 w (by decide) hg hx hB
  rw [e3] at c3
  rw [e4] at c4
  rw [e5] at c5
  rw [e6] at c6
  rw [e7] at c7
  rw [e9] at c9
  rw [show ((2 : Nat) : Int) = 2 from rfl] at e11
  rw [e11] at c11
  unfold clO
  have no : (x11.2.2 = true ∨ x11.2.1 ≠ []) → Calls Tryd.prog 38 #[.int .i64 4, .string (bs l)] w fun e w' => e = .returned (.tuple #[.agg #[.int .i64 0, .int .i64 0], .int .i64 13]) ∧ Below w.heap.size w w' := by
    intro h
    by_cases hb : x11.2.2 = true
    · exact pck_4_no _ _ _ _ _ _ _ _ _ _ _ _ _ _ _ _ _ _ _ hb w c3 c4 c5 c6 c7 c9 c11
    · exact pck_4_more _ _ _ _ _ _ _ _ _ _ _ _ _ _ _ _ _ _ _ (by simpa using hb) (ne_nil_bs (h.resolve_left hb)) w c3 c4 c5 c6 c7 c9 c11
  cases h1 : hcO 1 l with
  | none => rw [h1] at hm; exact no hm
  | some a =>
    rw [h1] at hm r
    simp only [Option.map_some, Option.bind_some] at hm ⊢
    cases h2 : tlO 46 2 a.2 with
    | none => rw [h2] at hm; exact no hm
    | some t =>
      obtain ⟨m, s, k⟩ := t
      rw [h2] at hm
      obtain ⟨a1, a2, a3⟩ := hm
      have a0 : x3.1 = a.1 := congrArg Prod.fst r
      obtain ⟨h0, h9⟩ := hcO_le (v := a.1) (r := a.2) h1
      obtain ⟨m0, m9, s0, s9, k0, k9⟩ := tlO_le h2
      rw [a0] at c3
      rw [a1] at c5
      rw [a2] at c7
      rw [a3] at c11
      dsimp only at c11
      have k8 : k < 100 := k9
      simp only [Option.map_some, prsV]
      obtain ⟨x, y, en, et, b0, b1, b2, b3⟩ := time_new (V := (a.1 * 3600 + m * 60 + s) * 100 + k) (g := 100) (by omega) (by omega) (by decide) (by decide)
      have c12 := fun w => new_any ((a.1 * 3600 + m * 60 + s) * 100 + k) 100 w (by omega) (by omega) (by decide) (by decide)
      have c13 := fun w => time_any x y w (by omega) (by omega) (by omega) (by omega)
      rw [en] at c12
      rw [et] at c13
      by_cases hv : (a.1 * 3600 + m * 60 + s) * 100 + k ≤ 360000 * 100
      · rw [if_pos hv] at c13 ⊢
        rw [en]
        exact pck_4_ok a.1 m s k _ _ _ _ _ _ false _ _ _ _ _ _ _ _ rfl rfl h0 h9 m0 m9 s0 s9 k0 k8 x y 0 w c3 c4 c5 c6 c7 c9 c11 c12 c13
      · rw [if_neg hv] at c13 ⊢
        exact pck_4_far a.1 m s k _ _ _ _ _ _ false _ _ _ _ _ _ _ _ rfl rfl h0 h9 m0 m9 s0 s9 k0 k8 x y 0 31 (by decide) w c3 c4 c5 c6 c7 c9 c11 c12 c13
theorem cpck_2 (l : List UInt8) (w : World) (hn : cols l ≠ 1) :
    Calls Tryd.prog 38 #[.int .i64 2, .string (bs l)] w fun e w' => e = .returned (.tuple #[.agg #[.int .i64 (prsV 1000 (clO 2 46 3 l)).1, .int .i64 (prsV 1000 (clO 2 46 3 l)).2.1], .int .i64 (prsV 1000 (clO 2 46 3 l)).2.2]) ∧ Below w.heap.size w w' := by
  have r := hours_rel l 2 (by decide)
  have rs := r.st
  dsimp only at rs
  obtain ⟨x3, e3⟩ : ∃ y, hrsS (l, false) 2 = y := ⟨_, rfl⟩
  rw [show ((2 : Nat) : Int) = 2 from rfl, e3] at r rs
  obtain ⟨x4, e4⟩ : ∃ y, sgnS x3.2 58 = y := ⟨_, rfl⟩
  rw [e4] at r rs
  obtain ⟨x5, x6, x7, x9, x11, e5, e6, e7, e9, e11, hm⟩ := tl_run 46 3 (by decide) rs
  have c3 := fun (w0 w : World) g hg hx hB => hours_any (l, false) 2 g w0 w (by decide) hg hx hB
  have c4 := fun (w0 w : World) g hg hx hB => sign_any x3.2 58 g w0 w hg hx hB
  have c5 := fun (w0 w : World) g hg hx hB => below_any x4 2 60 g w0 w (by decide) hg hx hB
  have c6 := fun (w0 w : World) g hg hx hB => sign_any x5.2 58 g w0 w hg hx hB
  have c7 := fun (w0 w : World) g hg hx hB => below_any x6 2 60 g w0 w (by decide) hg hx hB
  have c9 := fun (w0 w : World) g hg hx hB => sign_any x7.2 46 g w0 w hg hx hB
  have c11 := fun (w0 w : World) g hg hx hB => number_any x9 3 g w0 w (by decide) hg hx hB
  rw [e3] at c3
  rw [e4] at c4
  rw [e5] at c5
  rw [e6] at c6
  rw [e7] at c7
  rw [e9] at c9
  rw [show ((3 : Nat) : Int) = 3 from rfl] at e11
  rw [e11] at c11
  have c2 := count_any l
  have hcn : (((cols l : Nat) : Int) == 1) = false := by simp; omega
  unfold clO
  have no : (x11.2.2 = true ∨ x11.2.1 ≠ []) → Calls Tryd.prog 38 #[.int .i64 2, .string (bs l)] w fun e w' => e = .returned (.tuple #[.agg #[.int .i64 0, .int .i64 0], .int .i64 13]) ∧ Below w.heap.size w w' := by
    intro h
    by_cases hb : x11.2.2 = true
    · exact pck_2_no _ _ _ _ _ _ _ _ _ _ _ _ _ _ _ _ _ _ _ _ hcn hb w c2 c3 c4 c5 c6 c7 c9 c11
    · exact pck_2_more _ _ _ _ _ _ _ _ _ _ _ _ _ _ _ _ _ _ _ _ hcn (by simpa using hb) (ne_nil_bs (h.resolve_left hb)) w c2 c3 c4 c5 c6 c7 c9 c11
  cases h1 : hcO 2 l with
  | none => rw [h1] at hm; exact no hm
  | some a =>
    rw [h1] at hm r
    simp only [Option.map_some, Option.bind_some] at hm ⊢
    cases h2 : tlO 46 3 a.2 with
    | none => rw [h2] at hm; exact no hm
    | some t =>
      obtain ⟨m, s, k⟩ := t
      rw [h2] at hm
      obtain ⟨a1, a2, a3⟩ := hm
      have a0 : x3.1 = a.1 := congrArg Prod.fst r
      obtain ⟨h0, h9⟩ := hcO_le (v := a.1) (r := a.2) h1
      obtain ⟨m0, m9, s0, s9, k0, k9⟩ := tlO_le h2
      rw [a0] at c3
      rw [a1] at c5
      rw [a2] at c7
      rw [a3] at c11
      dsimp only at c11
      have k8 : k < 1000 := k9
      simp only [Option.map_some, prsV]
      obtain ⟨x, y, en, et, b0, b1, b2, b3⟩ := time_new (V := (a.1 * 3600 + m * 60 + s) * 1000 + k) (g := 1000) (by omega) (by omega) (by decide) (by decide)
      have c12 := fun w => new_any ((a.1 * 3600 + m * 60 + s) * 1000 + k) 1000 w (by omega) (by omega) (by decide) (by decide)
      have c13 := fun w => time_any x y w (by omega) (by omega) (by omega) (by omega)
      rw [en] at c12
      rw [et] at c13
      by_cases hv : (a.1 * 3600 + m * 60 + s) * 1000 + k ≤ 360000 * 1000
      · rw [if_pos hv] at c13 ⊢
        rw [en]
        exact pck_2_ok a.1 m s k _ _ _ _ _ _ _ false _ _ _ _ _ _ _ _ hcn rfl rfl h0 h9 m0 m9 s0 s9 k0 k8 x y 0 w c2 c3 c4 c5 c6 c7 c9 c11 c12 c13
      · rw [if_neg hv] at c13 ⊢
        exact pck_2_far a.1 m s k _ _ _ _ _ _ _ false _ _ _ _ _ _ _ _ hcn rfl rfl h0 h9 m0 m9 s0 s9 k0 k8 x y 0 31 (by decide) w c2 c3 c4 c5 c6 c7 c9 c11 c12 c13
theorem cpck_2s (l : List UInt8) (w : World) (hn : cols l = 1) :
    Calls Tryd.prog 38 #[.int .i64 2, .string (bs l)] w fun e w' => e = .returned (.tuple #[.agg #[.int .i64 (prsV 1000 ((tlO 46 3 l).map fun t => (0, t))).1, .int .i64 (prsV 1000 ((tlO 46 3 l).map fun t => (0, t))).2.1], .int .i64 (prsV 1000 ((tlO 46 3 l).map fun t => (0, t))).2.2]) ∧ Below w.heap.size w w' := by
  have rs : rel (l, false) (some l) := rfl
  obtain ⟨x5, x6, x7, x9, x11, e5, e6, e7, e9, e11, hm⟩ := tl_run 46 3 (by decide) rs
  have c5 := fun (w0 w : World) g hg hx hB => below_any (l, false) 2 60 g w0 w (by decide) hg hx hB
  have c6 := fun (w0 w : World) g hg hx hB => sign_any x5.2 58 g w0 w hg hx hB
  have c7 := fun (w0 w : World) g hg hx hB => below_any x6 2 60 g w0 w (by decide) hg hx hB
  have c9 := fun (w0 w : World) g hg hx hB => sign_any x7.2 46 g w0 w hg hx hB
  have c11 := fun (w0 w : World) g hg hx hB => number_any x9 3 g w0 w (by decide) hg hx hB
  rw [e5] at c5
  rw [e6] at c6
  rw [e7] at c7
  rw [e9] at c9
  rw [show ((3 : Nat) : Int) = 3 from rfl] at e11
  rw [e11] at c11
  have c2 := count_any l
  rw [hn] at c2
  simp only [Option.bind_some] at hm
  cases h2 : tlO 46 3 l with
  | none =>
    rw [h2] at hm
    by_cases hb : x11.2.2 = true
    · exact pck_2s_no _ _ _ 1 _ _ _ _ _ _ _ _ _ _ _ rfl hb w c2 c5 c6 c7 c9 c11
    · exact pck_2s_more _ _ _ 1 _ _ _ _ _ _ _ _ _ _ _ rfl (by simpa using hb) (ne_nil_bs (hm.resolve_left hb)) w c2 c5 c6 c7 c9 c11
  | some t =>
    obtain ⟨m, s, k⟩ := t
    rw [h2] at hm
    obtain ⟨a1, a2, a3⟩ := hm
    obtain ⟨m0, m9, s0, s9, k0, k9⟩ := tlO_le h2
    rw [a1] at c5
    rw [a2] at c7
    rw [a3] at c11
    dsimp only at c11
    have k8 : k < 1000 := k9
    simp only [Option.map_some, prsV]
    obtain ⟨x, y, en, et, b0, b1, b2, b3⟩ := time_new (V := (m * 60 + s) * 1000 + k) (g := 1000) (by omega) (by omega) (by decide) (by decide)
    have c12 := fun w => new_any ((m * 60 + s) * 1000 + k) 1000 w (by omega) (by omega) (by decide) (by decide)
    have c13 := fun w => time_any x y w (by omega) (by omega) (by omega) (by omega)
    rw [en] at c12
    rw [et] at c13
    rw [if_pos (by omega)] at c13
    rw [if_pos (by omega), show (0 * 3600 + m * 60 + s) * 1000 + k = (m * 60 + s) * 1000 + k by omega, en]
    exact pck_2s_ok m s k 1 _ _ _ _ false _ _ _ _ _ _ rfl rfl rfl m0 m9 s0 s9 k0 k8 x y 0 w c2 c5 c6 c7 c9 c11 c12 c13
/-- what a text comes to as a clock -/
def prsS (f : Int) (l : List UInt8) : Int × Int × Int :=
  if f = 1 then prsV 1000 (clO 2 44 3 l) else if f = 2 then prsV 1000 (if l.length = 9 then (tlO 46 3 l).map fun t => (0, t) else clO 2 46 3 l) else if f = 4 then prsV 100 (clO 1 46 2 l) else (0, 0, 5)
theorem clO_two {l : List UInt8} (h : cols l = 1 ∨ l.length = 9) : clO 2 46 3 l = none := by
  unfold clO
  cases h1 : hcO 2 l with
  | none => rfl
  | some a =>
    cases h2 : tlO 46 3 a.2 with
    | none => simp [h2]
    | some t => have := clO_shape (by decide) h1 h2; omega
theorem tlO_two {l : List UInt8} (h : cols l ≠ 1 ∨ l.length ≠ 9) : tlO 46 3 l = none := by
  cases h2 : tlO 46 3 l with
  | none => rfl
  | some t => have := tlO_shape (by decide) h2; omega
theorem cparse_any (f : Int) (l : List UInt8) (w : World) :
    Calls Tryd.prog 38 #[.int .i64 f, .string (bs l)] w fun e w' => e = .returned (.tuple #[.agg #[.int .i64 (prsS f l).1, .int .i64 (prsS f l).2.1], .int .i64 (prsS f l).2.2]) ∧ Below w.heap.size w w' := by
  unfold prsS
  by_cases h1 : f = 1
  · subst h1; exact cpck_1 l w
  · by_cases h2 : f = 2
    · subst h2
      rw [if_neg (by decide), if_pos rfl]
      by_cases hn : cols l = 1
      · by_cases h9 : l.length = 9
        · rw [if_pos h9]; exact cpck_2s l w hn
        · have := cpck_2s l w hn
          rw [tlO_two (.inr h9)] at this
          rw [if_neg h9, clO_two (.inl hn)]; exact this
      · by_cases h9 : l.length = 9
        · have := cpck_2 l w hn
          rw [clO_two (.inr h9)] at this
          rw [if_pos h9, tlO_two (.inl hn)]; exact this
        · rw [if_neg h9]; exact cpck_2 l w hn
    · by_cases h4 : f = 4
      · subst h4; exact cpck_4 l w
      · rw [if_neg h1, if_neg h2, if_neg h4]
        exact pck_kind f (bs l) (by simpa using h1) (by simpa using h2) (by simpa using h4) w
end Go.Proofs.YtghiibdhibcbaaaDoor.PA
