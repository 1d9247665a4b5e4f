/- The reference: ParseClock told. -/
import Derived.Test.YtghiibdhibcbaaaDoorRpcA
import Derived.Test.YtghiibdhibcbaaaDoorPckB
namespace Go.Proofs.YtghiibdhibcbaaaDoor.PA
open Go Go.RowKit Go.Proofs.YtghiibdhibcbaaaDoor.CS
set_option linter.unusedSimpArgs false
set_option linter.unusedVariables false
theorem crpc_1 (S : ByteArray) (hS : S.size ≤ 9223372036854775807) (w : World) :
    Calls Tryd.prog 39 #[.int .i64 1, .string S] w fun e w' => e = .returned (.tuple #[.agg #[.int .i64 (prsV 1000 (clO 2 44 3 (tl S 0))).1, .int .i64 (prsV 1000 (clO 2 44 3 (tl S 0))).2.1], .int .i64 (prsV 1000 (clO 2 44 3 (tl S 0))).2.2]) ∧ Below w.heap.size w w' := by
  have c1 := rgridf_any 1
  rw [show partsOf 1 = 1000 by decide] at c1
  have r := rhrs_rel S 2 (by decide)
  have q3 := rhrs_le S 0 false 2 (Nat.zero_le _)
  obtain ⟨y3, e3⟩ : ∃ y, rhrsS S 0 false 2 = y := ⟨_, rfl⟩
  rw [e3] at r q3
  obtain ⟨y4, e4⟩ : ∃ y, rmarkS S y3.2.1 y3.2.2 58 = y := ⟨_, rfl⟩
  rw [e4] at r
  have rs := r.st
  dsimp only at rs
  have c3 := fun (w0 w : World) g hg hx hB => rhours_any S 0 false 2 g w0 w hS (Nat.zero_le _) (by decide) hg hx hB
  have c4 := fun (w0 w : World) g hg hx hB => rmark_any S y3.2.1 y3.2.2 58 g w0 w hS q3 hg hx hB
  rw [e3] at c3
  rw [e4] at c4
  obtain ⟨y5, y6, y7, y8, y10, e5, e6, e7, e8, e10, s4, s5, s6, s7, s8, hm⟩ := rtl_run 44 3 S rs
  have c5 := fun (w0 w : World) g hg hx hB => rsixty_any S y4.1 y4.2 g w0 w hS s4 hg hx hB
  have c6 := fun (w0 w : World) g hg hx hB => rmark_any S y5.2.1 y5.2.2 58 g w0 w hS s5 hg hx hB
  have c7 := fun (w0 w : World) g hg hx hB => rsixty_any S y6.1 y6.2 g w0 w hS s6 hg hx hB
  have c8 := fun (w0 w : World) g hg hx hB => rmark_any S y7.2.1 y7.2.2 44 g w0 w hS s7 hg hx hB
  have c10 := fun (w0 w : World) g hg hx hB => rnumber_any S y8.1 3 y8.2 g w0 w hS s8 (by decide) hg hx hB
  rw [e5] at c5
  rw [e6] at c6
  rw [e7] at c7
  rw [e8] at c8
  rw [e10] at c10
  have no : (y10.2.2 = true ∨ y10.2.1 ≠ S.size) → Calls Tryd.prog 39 #[.int .i64 1, .string S] w fun e w' => e = .returned (.tuple #[.agg #[.int .i64 0, .int .i64 0], .int .i64 13]) ∧ Below w.heap.size w w' := by
    intro h
    by_cases hb : y10.2.2 = true
    · exact rpc_1_bad _ _ _ _ _ _ _ _ _ _ _ _ _ _ _ _ _ _ S hb w c1 c3 c4 c5 c6 c7 c8 c10
    · exact rpc_1_more _ _ _ _ _ _ _ _ _ _ _ _ _ _ _ _ _ _ S (by simpa using hb) (by have := h.resolve_left hb; simp; omega) w c1 c3 c4 c5 c6 c7 c8 c10
  unfold clO
  cases h1 : hcO 2 (tl S 0) with
  | none => rw [h1] at hm; exact no hm
  | some a =>
    rw [h1] at hm r
    simp only [Option.map_some, Option.bind_some] at hm ⊢
    cases h2 : tlO 44 3 a.2 with
    | none => rw [h2] at hm; exact no hm
    | some t =>
      obtain ⟨m, s, k⟩ := t
      rw [h2] at hm
      obtain ⟨a1, a2, a3⟩ := hm
      obtain ⟨m0, m9, s0, s9, k0, k9⟩ := tlO_le h2
      have a0 : y3.1 = a.1 := r.2.1
      obtain ⟨h0, h9⟩ := hcO_le (v := a.1) (r := a.2) h1
      rw [a0] at c3
      rw [a1] at c5
      rw [a2] at c7
      rw [a3] at c10
      dsimp only at c10
      have k8 : k < 1000 := k9
      simp only [Option.map_some, prsV]
      rw [show (a.1 * 3600 + m * 60 + s) * 1000 + k = (3600 * a.1 + 60 * m + s) * 1000 + k by omega]
      obtain ⟨x, y, en, et, b0, b1, b2, b3⟩ := time_new (V := (3600 * a.1 + 60 * m + s) * 1000 + k) (g := 1000) (by omega) (by omega) (by decide) (by decide)
      have c12 := fun w => rlowest_any (n := (3600 * a.1 + 60 * m + s) * 1000 + k) (d := 1000) (by omega) (by omega) (by decide) (by decide) w
      rw [en] at c12
      by_cases hv : (3600 * a.1 + 60 * m + s) * 1000 + k ≤ 360000000
      · rw [if_pos (by omega), en]
        exact rpc_1_ok a.1 m s k _ _ _ _ _ _ _ _ _ _ _ _ S h0 h9 m0 m9 s0 s9 k0 k8 x y hv w c1 c3 c4 c5 c6 c7 c8 c10 c12
      · rw [if_neg (by omega)]
        exact rpc_1_far a.1 m s k _ _ _ _ _ _ _ _ _ _ _ _ S h0 h9 m0 m9 s0 s9 k0 k8 (by omega) w c1 c3 c4 c5 c6 c7 c8 c10
theorem crpc_4 (S : ByteArray) (hS : S.size ≤ 9223372036854775807) (w : World) :
    Calls Tryd.prog 39 #[.int .i64 4, .string S] w fun e w' => e = .returned (.tuple #[.agg #[.int .i64 (prsV 100 (clO 1 46 2 (tl S 0))).1, .int .i64 (prsV 100 (clO 1 46 2 (tl S 0))).2.1], .int .i64 (prsV 100 (clO 1 46 2 (tl S 0))).2.2]) ∧ Below w.heap.size w w' := by
  have c1 := rgridf_any 4
  rw [show partsOf 4 = 100 by decide] at c1
  have r := rhrs_rel S 1 (by decide)
  have q3 := rhrs_le S 0 false 1 (Nat.zero_le _)
  obtain ⟨y3, e3⟩ : ∃ y, rhrsS S 0 false 1 = y := ⟨_, rfl⟩
  rw [e3] at r q3
  obtain ⟨y4, e4⟩ : ∃ y, rmarkS S y3.2.1 y3.2.2 58 = y := ⟨_, rfl⟩
  rw [e4] at r
  have rs := r.st
  dsimp only at rs
  have c3 := fun (w0 w : World) g hg hx hB => rhours_any S 0 false 1 g w0 w hS (Nat.zero_le _) (by decide) hg hx hB
  have c4 := fun (w0 w : World) g hg hx hB => rmark_any S y3.2.1 y3.2.2 58 g w0 w hS q3 hg hx hB
  rw [e3] at c3
  rw [e4] at c4
  obtain ⟨y5, y6, y7, y8, y10, e5, e6, e7, e8, e10, s4, s5, s6, s7, s8, hm⟩ := rtl_run 46 2 S rs
  have c5 := fun (w0 w : World) g hg hx hB => rsixty_any S y4.1 y4.2 g w0 w hS s4 hg hx hB
  have c6 := fun (w0 w : World) g hg hx hB => rmark_any S y5.2.1 y5.2.2 58 g w0 w hS s5 hg hx hB
  have c7 := fun (w0 w : World) g hg hx hB => rsixty_any S y6.1 y6.2 g w0 w hS s6 hg hx hB
  have c8 := fun (w0 w : World) g hg hx hB => rmark_any S y7.2.1 y7.2.2 46 g w0 w hS s7 hg hx hB
  have c10 := fun (w0 w : World) g hg hx hB => rnumber_any S y8.1 2 y8.2 g w0 w hS s8 (by decide) hg hx hB
  rw [e5] at c5
  rw [e6] at c6
  rw [e7] at c7
  rw [e8] at c8
  rw [e10] at c10
  have no : (y10.2.2 = true ∨ y10.2.1 ≠ S.size) → Calls Tryd.prog 39 #[.int .i64 4, .string S] w fun e w' => e = .returned (.tuple #[.agg #[.int .i64 0, .int .i64 0], .int .i64 13]) ∧ Below w.heap.size w w' := by
    intro h
    by_cases hb : y10.2.2 = true
    · exact rpc_4_bad _ _ _ _ _ _ _ _ _ _ _ _ _ _ _ _ _ _ S hb w c1 c3 c4 c5 c6 c7 c8 c10
    · exact rpc_4_more _ _ _ _ _ _ _ _ _ _ _ _ _ _ _ _ _ _ S (by simpa using hb) (by have := h.resolve_left hb; simp; omega) w c1 c3 c4 c5 c6 c7 c8 c10
  unfold clO
  cases h1 : hcO 1 (tl S 0) with
  | none => rw [h1] at hm; exact no hm
  | some a =>
    rw [h1] at hm r
    simp only [Option.map_some, Option.bind_some] at hm ⊢
    cases h2 : tlO 46 2 a.2 with
    | none => rw [h2] at hm; exact no hm
    | some t =>
      obtain ⟨m, s, k⟩ := t
      rw [h2] at hm
      obtain ⟨a1, a2, a3⟩ := hm
      obtain ⟨m0, m9, s0, s9, k0, k9⟩ := tlO_le h2
      have a0 : y3.1 = a.1 := r.2.1
      obtain ⟨h0, h9⟩ := hcO_le (v := a.1) (r := a.2) h1
      rw [a0] at c3
      rw [a1] at c5
      rw [a2] at c7
      rw [a3] at c10
      dsimp only at c10
      have k8 : k < 100 := k9
      simp only [Option.map_some, prsV]
      rw [show (a.1 * 3600 + m * 60 + s) * 100 + k = (3600 * a.1 + 60 * m + s) * 100 + k by omega]
      obtain ⟨x, y, en, et, b0, b1, b2, b3⟩ := time_new (V := (3600 * a.1 + 60 * m + s) * 100 + k) (g := 100) (by omega) (by omega) (by decide) (by decide)
      have c12 := fun w => rlowest_any (n := (3600 * a.1 + 60 * m + s) * 100 + k) (d := 100) (by omega) (by omega) (by decide) (by decide) w
      rw [en] at c12
      by_cases hv : (3600 * a.1 + 60 * m + s) * 100 + k ≤ 36000000
      · rw [if_pos (by omega), en]
        exact rpc_4_ok a.1 m s k _ _ _ _ _ _ _ _ _ _ _ _ S h0 h9 m0 m9 s0 s9 k0 k8 x y hv w c1 c3 c4 c5 c6 c7 c8 c10 c12
      · rw [if_neg (by omega)]
        exact rpc_4_far a.1 m s k _ _ _ _ _ _ _ _ _ _ _ _ S h0 h9 m0 m9 s0 s9 k0 k8 (by omega) w c1 c3 c4 c5 c6 c7 c8 c10
theorem crpc_2 (S : ByteArray) (hS : S.size ≤ 9223372036854775807) (w : World) (hz : (S.size == 9) = false) :
    Calls Tryd.prog 39 #[.int .i64 2, .string S] w fun e w' => e = .returned (.tuple #[.agg #[.int .i64 (prsV 1000 (clO 2 46 3 (tl S 0))).1, .int .i64 (prsV 1000 (clO 2 46 3 (tl S 0))).2.1], .int .i64 (prsV 1000 (clO 2 46 3 (tl S 0))).2.2]) ∧ Below w.heap.size w w' := by
  have c1 := rgridf_any 2
  rw [show partsOf 2 = 1000 by decide] at c1
  have r := rhrs_rel S 2 (by decide)
  have q3 := rhrs_le S 0 false 2 (Nat.zero_le _)
  obtain ⟨y3, e3⟩ : ∃ y, rhrsS S 0 false 2 = y := ⟨_, rfl⟩
  rw [e3] at r q3
  obtain ⟨y4, e4⟩ : ∃ y, rmarkS S y3.2.1 y3.2.2 58 = y := ⟨_, rfl⟩
  rw [e4] at r
  have rs := r.st
  dsimp only at rs
  have c3 := fun (w0 w : World) g hg hx hB => rhours_any S 0 false 2 g w0 w hS (Nat.zero_le _) (by decide) hg hx hB
  have c4 := fun (w0 w : World) g hg hx hB => rmark_any S y3.2.1 y3.2.2 58 g w0 w hS q3 hg hx hB
  rw [e3] at c3
  rw [e4] at c4
  obtain ⟨y5, y6, y7, y8, y10, e5, e6, e7, e8, e10, s4, s5, s6, s7, s8, hm⟩ := rtl_run 46 3 S rs
  have c5 := fun (w0 w : World) g hg hx hB => rsixty_any S y4.1 y4.2 g w0 w hS s4 hg hx hB
  have c6 := fun (w0 w : World) g hg hx hB => rmark_any S y5.2.1 y5.2.2 58 g w0 w hS s5 hg hx hB
  have c7 := fun (w0 w : World) g hg hx hB => rsixty_any S y6.1 y6.2 g w0 w hS s6 hg hx hB
  have c8 := fun (w0 w : World) g hg hx hB => rmark_any S y7.2.1 y7.2.2 46 g w0 w hS s7 hg hx hB
  have c10 := fun (w0 w : World) g hg hx hB => rnumber_any S y8.1 3 y8.2 g w0 w hS s8 (by decide) hg hx hB
  rw [e5] at c5
  rw [e6] at c6
  rw [e7] at c7
  rw [e8] at c8
  rw [e10] at c10
  have no : (y10.2.2 = true ∨ y10.2.1 ≠ S.size) → Calls Tryd.prog 39 #[.int .i64 2, .string S] w fun e w' => e = .returned (.tuple #[.agg #[.int .i64 0, .int .i64 0], .int .i64 13]) ∧ Below w.heap.size w w' := by
    intro h
    by_cases hb : y10.2.2 = true
    · exact rpc_2_bad _ _ _ _ _ _ _ _ _ _ _ _ _ _ _ _ _ _ S hz hb w c1 c3 c4 c5 c6 c7 c8 c10
    · exact rpc_2_more _ _ _ _ _ _ _ _ _ _ _ _ _ _ _ _ _ _ S hz (by simpa using hb) (by have := h.resolve_left hb; simp; omega) w c1 c3 c4 c5 c6 c7 c8 c10
  unfold clO
  cases h1 : hcO 2 (tl S 0) with
  | none => rw [h1] at hm; exact no hm
  | some a =>
    rw [h1] at hm r
    simp only [Option.map_some, Option.bind_some] at hm ⊢
    cases h2 : tlO 46 3 a.2 with
    | none => rw [h2] at hm; exact no hm
    | some t =>
      obtain ⟨m, s, k⟩ := t
      rw [h2] at hm
      obtain ⟨a1, a2, a3⟩ := hm
      obtain ⟨m0, m9, s0, s9, k0, k9⟩ := tlO_le h2
      have a0 : y3.1 = a.1 := r.2.1
      obtain ⟨h0, h9⟩ := hcO_le (v := a.1) (r := a.2) h1
      rw [a0] at c3
      rw [a1] at c5
      rw [a2] at c7
      rw [a3] at c10
      dsimp only at c10
      have k8 : k < 1000 := k9
      simp only [Option.map_some, prsV]
      rw [show (a.1 * 3600 + m * 60 + s) * 1000 + k = (3600 * a.1 + 60 * m + s) * 1000 + k by omega]
      obtain ⟨x, y, en, et, b0, b1, b2, b3⟩ := time_new (V := (3600 * a.1 + 60 * m + s) * 1000 + k) (g := 1000) (by omega) (by omega) (by decide) (by decide)
      have c12 := fun w => rlowest_any (n := (3600 * a.1 + 60 * m + s) * 1000 + k) (d := 1000) (by omega) (by omega) (by decide) (by decide) w
      rw [en] at c12
      by_cases hv : (3600 * a.1 + 60 * m + s) * 1000 + k ≤ 360000000
      · rw [if_pos (by omega), en]
        exact rpc_2_ok a.1 m s k _ _ _ _ _ _ _ _ _ _ _ _ S hz h0 h9 m0 m9 s0 s9 k0 k8 x y hv w c1 c3 c4 c5 c6 c7 c8 c10 c12
      · rw [if_neg (by omega)]
        exact rpc_2_far a.1 m s k _ _ _ _ _ _ _ _ _ _ _ _ S hz h0 h9 m0 m9 s0 s9 k0 k8 (by omega) w c1 c3 c4 c5 c6 c7 c8 c10
theorem crpc_2s (S : ByteArray) (hS : S.size ≤ 9223372036854775807) (w : World) (hz : (S.size == 9) = true) :
    Calls Tryd.prog 39 #[.int .i64 2, .string S] w fun e w' => e = .returned (.tuple #[.agg #[.int .i64 (prsV 1000 ((tlO 46 3 (tl S 0)).map fun t => (0, t))).1, .int .i64 (prsV 1000 ((tlO 46 3 (tl S 0)).map fun t => (0, t))).2.1], .int .i64 (prsV 1000 ((tlO 46 3 (tl S 0)).map fun t => (0, t))).2.2]) ∧ Below w.heap.size w w' := by
  have c1 := rgridf_any 2
  rw [show partsOf 2 = 1000 by decide] at c1
  have rs : relR S ((0 : Nat), false) (some (tl S 0)) := ⟨Nat.zero_le _, rfl, rfl⟩
  obtain ⟨y5, y6, y7, y8, y10, e5, e6, e7, e8, e10, s4, s5, s6, s7, s8, hm⟩ := rtl_run 46 3 S rs
  have c5 := fun (w0 w : World) g hg hx hB => rsixty_any S ((0 : Nat), false).1 ((0 : Nat), false).2 g w0 w hS s4 hg hx hB
  have c6 := fun (w0 w : World) g hg hx hB => rmark_any S y5.2.1 y5.2.2 58 g w0 w hS s5 hg hx hB
  have c7 := fun (w0 w : World) g hg hx hB => rsixty_any S y6.1 y6.2 g w0 w hS s6 hg hx hB
  have c8 := fun (w0 w : World) g hg hx hB => rmark_any S y7.2.1 y7.2.2 46 g w0 w hS s7 hg hx hB
  have c10 := fun (w0 w : World) g hg hx hB => rnumber_any S y8.1 3 y8.2 g w0 w hS s8 (by decide) hg hx hB
  rw [e5] at c5
  rw [e6] at c6
  rw [e7] at c7
  rw [e8] at c8
  rw [e10] at c10
  have no : (y10.2.2 = true ∨ y10.2.1 ≠ S.size) → Calls Tryd.prog 39 #[.int .i64 2, .string S] w fun e w' => e = .returned (.tuple #[.agg #[.int .i64 0, .int .i64 0], .int .i64 13]) ∧ Below w.heap.size w w' := by
    intro h
    by_cases hb : y10.2.2 = true
    · exact rpc_2s_bad _ _ _ _ _ _ _ _ _ _ _ _ _ S hz hb w c1 c5 c6 c7 c8 c10
    · exact rpc_2s_more _ _ _ _ _ _ _ _ _ _ _ _ _ S hz (by simpa using hb) (by have := h.resolve_left hb; simp; omega) w c1 c5 c6 c7 c8 c10
  simp only [Option.bind_some] at hm
  cases h2 : tlO 46 3 (tl S 0) with
  | none => rw [h2] at hm; exact no hm
  | some t =>
    obtain ⟨m, s, k⟩ := t
    rw [h2] at hm
    obtain ⟨a1, a2, a3⟩ := hm
    obtain ⟨m0, m9, s0, s9, k0, k9⟩ := tlO_le h2
    rw [a1] at c5
    rw [a2] at c7
    rw [a3] at c10
    dsimp only at c10
    have k8 : k < 1000 := k9
    simp only [Option.map_some, prsV]
    rw [show (0 * 3600 + m * 60 + s) * 1000 + k = (60 * m + s) * 1000 + k by omega]
    obtain ⟨x, y, en, et, b0, b1, b2, b3⟩ := time_new (V := (60 * m + s) * 1000 + k) (g := 1000) (by omega) (by omega) (by decide) (by decide)
    have c12 := fun w => rlowest_any (n := (60 * m + s) * 1000 + k) (d := 1000) (by omega) (by omega) (by decide) (by decide) w
    rw [en] at c12
    rw [if_pos (by omega), en]
    exact rpc_2s_ok m s k _ _ _ _ _ _ _ _ S hz m0 m9 s0 s9 k0 k8 x y (by omega) w c1 c5 c6 c7 c8 c10 c12
theorem rparse_any (f : Int) (S : ByteArray) (hS : S.size ≤ 9223372036854775807) (w : World) :
    Calls Tryd.prog 39 #[.int .i64 f, .string S] w fun e w' => e = .returned (.tuple #[.agg #[.int .i64 (prsS f S.data.toList).1, .int .i64 (prsS f S.data.toList).2.1], .int .i64 (prsS f S.data.toList).2.2]) ∧ Below w.heap.size w w' := by
  have et : S.data.toList = tl S 0 := rfl
  rw [et]
  have hl := tl_len S 0
  unfold prsS
  by_cases h1 : f = 1
  · subst h1; exact crpc_1 S hS w
  · by_cases h2 : f = 2
    · subst h2
      rw [if_neg (by decide), if_pos rfl]
      by_cases h9 : S.size = 9
      · rw [if_pos (by omega)]; exact crpc_2s S hS w (by simpa using h9)
      · rw [if_neg (by omega)]; exact crpc_2 S hS w (by simpa using h9)
    · by_cases h4 : f = 4
      · subst h4; exact crpc_4 S hS w
      · rw [if_neg h1, if_neg h2, if_neg h4]
        have c1 := rgridf_any f
        rw [show partsOf f = 0 by unfold partsOf; simp [h1, h2, h4]] at c1
        exact rpc_kind f S w c1
end Go.Proofs.YtghiibdhibcbaaaDoor.PA
