/- The reference: Number told at all inputs. -/
import Derived.Test.YtghiibdhibcbaaaDoorRfN
import Derived.Test.YtghiibdhibcbaaaDoorCodR
namespace Go.Proofs.YtghiibdhibcbaaaDoor.PA
open Go Go.RowKit Go.Proofs.YtghiibdhibcbaaaDoor.CS
set_option linter.unusedSimpArgs false
set_option linter.unusedVariables false
theorem tl_nil {S : ByteArray} {a : Nat} (h : a ≤ S.size) : tl S a = [] ↔ a = S.size := by
  rw [← List.length_eq_zero_iff, tl_len]; omega
theorem rhrs_le (S : ByteArray) (a : Nat) (b : Bool) (least : Nat) (h : a ≤ S.size) : (rhrsS S a b least).2.1 ≤ S.size := by
  have hl := run_le (tl S a)
  rw [tl_len] at hl
  unfold rhrsS
  split
  · exact h
  · unfold rnumS
    rw [show S.data.toList.drop a = tl S a from rfl]
    split <;> (dsimp only; omega)
set_option maxHeartbeats 1600000 in
/-- the states that the reference's Number goes through -/
theorem labO_rrun (dr : Bool) (f : Int) (S : ByteArray) :
    ∃ y3 y4 y5 y6 y7 y8 y10, rhrsS S 0 false 2 = y3 ∧ rmarkS S y3.2.1 y3.2.2 58 = y4 ∧ rsixS S y4.1 y4.2 = y5 ∧ rmarkS S y5.2.1 y5.2.2 58 = y6 ∧ rsixS S y6.1 y6.2 = y7 ∧ rmarkS S y7.2.1 y7.2.2 (if dr = true then 59 else 58) = y8 ∧ rnumS S y8.1 y8.2 (wide f) = y10 ∧
      y3.2.1 ≤ S.size ∧ y4.1 ≤ S.size ∧ y5.2.1 ≤ S.size ∧ y6.1 ≤ S.size ∧ y7.2.1 ≤ S.size ∧ y8.1 ≤ S.size ∧
      (match labO dr f (tl S 0) with | some (h, m, s, k) => y3.1 = h ∧ y5.1 = m ∧ y7.1 = s ∧ y10 = (k, S.size, false) | none => y10.2.2 = true ∨ y10.2.1 ≠ S.size ∨ f ≤ y10.1) := by
  obtain ⟨y3, e3⟩ : ∃ y, rhrsS S 0 false 2 = y := ⟨_, rfl⟩
  obtain ⟨y4, e4⟩ : ∃ y, rmarkS S y3.2.1 y3.2.2 58 = y := ⟨_, rfl⟩
  obtain ⟨y5, e5⟩ : ∃ y, rsixS S y4.1 y4.2 = y := ⟨_, rfl⟩
  obtain ⟨y6, e6⟩ : ∃ y, rmarkS S y5.2.1 y5.2.2 58 = y := ⟨_, rfl⟩
  obtain ⟨y7, e7⟩ : ∃ y, rsixS S y6.1 y6.2 = y := ⟨_, rfl⟩
  obtain ⟨y8, e8⟩ : ∃ y, rmarkS S y7.2.1 y7.2.2 (if dr = true then 59 else 58) = y := ⟨_, rfl⟩
  obtain ⟨y10, e10⟩ : ∃ y, rnumS S y8.1 y8.2 (wide f) = y := ⟨_, rfl⟩
  refine ⟨y3, y4, y5, y6, y7, y8, y10, e3, e4, e5, e6, e7, e8, e10, ?_⟩
  have r2 := rhrs_rel S 2 (by decide)
  rw [e3, e4] at r2
  have r3 := rsix_rel r2.st
  dsimp only at r3
  rw [e5] at r3
  have r4 := rmark_rel 58 r3.st
  rw [e6] at r4
  have r5 := rsix_rel r4
  rw [e7] at r5
  have r6 := rmark_rel (if dr = true then 59 else 58) r5.st
  rw [e8] at r6
  have r7 := rnum_rel (wide f) r6
  rw [e10] at r7
  have q3 := rhrs_le S 0 false 2 (Nat.zero_le _)
  rw [e3] at q3
  refine ⟨q3, r2.1, r3.1, r4.1, r5.1, r6.1, ?_⟩
  have z7 := r7.1
  unfold labO
  cases h1 : hcO 2 (tl S 0) with
  | none => rw [h1] at r7; simp only [Option.map_none, Option.bind_none] at r7 ⊢; exact .inl r7.2
  | some a =>
  rw [h1] at r2 r3 r5 r7
  cases h2 : belO 2 60 a.2 with
  | none => simp only [Option.map_some, Option.bind_some, h2, Option.map_none, Option.bind_none] at r7 ⊢; exact .inl r7.2
  | some b =>
  cases h3 : byteO 58 b.2 with
  | none => simp only [Option.map_some, Option.bind_some, h2, h3, Option.map_none, Option.bind_none] at r7 ⊢; exact .inl r7.2
  | some c =>
  cases h4 : belO 2 60 c with
  | none => simp only [Option.map_some, Option.bind_some, h2, h3, h4, Option.map_none, Option.bind_none] at r7 ⊢; exact .inl r7.2
  | some d =>
  cases h5 : byteO (if dr = true then 59 else 58) d.2 with
  | none => simp only [Option.map_some, Option.bind_some, h2, h3, h4, h5, Option.map_none, Option.bind_none] at r7 ⊢; exact .inl r7.2
  | some q =>
  cases h6 : digO (wide f) q with
  | none =>
    have h8 : belO (wide f) f q = none := by unfold belO; rw [h6]; rfl
    simp only [Option.map_some, Option.bind_some, h2, h3, h4, h5, h6, h8, Option.map_none, Option.bind_none] at r7 ⊢; exact .inl r7.2
  | some g =>
    have h8 : belO (wide f) f q = if g.1 < f then some g else none := by unfold belO; rw [h6]; rfl
    simp only [Option.map_some, Option.bind_some, h2, h3, h4, h5, h6] at r2 r3 r5 r7
    obtain ⟨_, v1, v2, v3⟩ := r7
    simp only [Option.bind_some, h2, h3, h4, h5, h8]
    by_cases hk : g.1 < f
    · rw [if_pos hk]
      simp only [Option.bind_some]
      by_cases hg : g.2 = []
      · rw [if_pos hg]
        dsimp only
        refine ⟨r2.2.1, r3.2.1, r5.2.1, ?_⟩
        rw [hg] at v2
        exact Prod.ext v1 (Prod.ext ((tl_nil z7).mp v2) v3)
      · rw [if_neg hg]
        dsimp only
        exact .inr (.inl (fun e2 => hg (Eq.trans v2.symm ((tl_nil z7).mpr e2))))
    · rw [if_neg hk]
      simp only [Option.bind_none]
      exact .inr (.inr (by rw [v1]; omega))
set_option maxHeartbeats 1600000 in
theorem rnumber5_any (n d : Int) (dr : Bool) (S : ByteArray) (hS : S.size ≤ 9223372036854775807) (w : World) :
    Calls Tryd.prog 22 #[rate n d dr, .string S] w fun e w' => e = .returned (.tuple #[.int .i64 (nmbS n d dr S.data.toList).1, .int .i64 (nmbS n d dr S.data.toList).2]) ∧ Below w.heap.size w w' := by
  have m1 := rcheck_any n d dr
  unfold checkS at m1
  unfold nmbS
  by_cases hk : okR n d dr = true
  · rw [if_pos hk] at m1 ⊢
    have o := okR_iff.mp hk
    obtain ⟨f0, f1⟩ := full_le o
    have m2 := rfull_any n d dr o
    have c9 := rwide_any (full n d)
    have hw9 : wide (full n d) ≤ 9 := by unfold wide; split <;> decide
    obtain ⟨y3, y4, y5, y6, y7, y8, y10, e3, e4, e5, e6, e7, e8, e10, s3, s4, s5, s6, s7, s8, hm⟩ := labO_rrun dr (full n d) S
    have c3 := fun (w0 w : World) g hg hx hB => rhours_any S 0 false 2 g w0 w hS (Nat.zero_le _) (by decide) hg hx hB
    have c4 := fun (w0 w : World) g hg hx hB => rmark_any S y3.2.1 y3.2.2 58 g w0 w (by omega) s3 hg hx hB
    have c5 := fun (w0 w : World) g hg hx hB => rsixty_any S y4.1 y4.2 g w0 w hS s4 hg hx hB
    have c6 := fun (w0 w : World) g hg hx hB => rmark_any S y5.2.1 y5.2.2 58 g w0 w (by omega) s5 hg hx hB
    have c7 := fun (w0 w : World) g hg hx hB => rsixty_any S y6.1 y6.2 g w0 w hS s6 hg hx hB
    have c8 := fun (w0 w : World) g hg hx hB => rmark_any S y7.2.1 y7.2.2 (if dr = true then 59 else 58) g w0 w (by omega) s7 hg hx hB
    have c10 := fun (w0 w : World) g hg hx hB => rnumber_any S y8.1 (wide (full n d)) y8.2 g w0 w (by omega) s8 hw9 hg hx hB
    rw [e3] at c3
    rw [e4] at c4
    rw [e5] at c5
    rw [e6] at c6
    rw [e7] at c7
    rw [e8] at c8
    rw [e10] at c10
    have et : S.data.toList = tl S 0 := rfl
    rw [et]
    cases hp : labO dr (full n d) (tl S 0) with
    | none =>
      rw [hp] at hm
      dsimp only at hm ⊢
      cases dr with
      | false =>
        by_cases hb : y10.2.2 = true
        · exact rnum_false_bad n d (full n d) _ _ _ _ _ _ _ _ _ _ _ _ _ _ _ _ _ _ _ S hb w m1 m2 c3 c4 c5 c6 c7 c8 c9 c10
        · have hb' : y10.2.2 = false := by simpa using hb
          by_cases hl : y10.2.1 = S.size
          · have hk := (hm.resolve_left hb).resolve_left (fun h => h hl)
            rw [hb', hl] at c10
            exact rnum_false_big n d (full n d) _ _ _ _ _ _ _ _ _ _ _ _ _ _ _ _ _ _ _ S rfl rfl hk w m1 m2 c3 c4 c5 c6 c7 c8 c9 c10
          · exact rnum_false_more n d (full n d) _ _ _ _ _ _ _ _ _ _ _ _ _ _ _ _ _ _ _ S hb' (by simp; omega) w m1 m2 c3 c4 c5 c6 c7 c8 c9 c10
      | true =>
        by_cases hb : y10.2.2 = true
        · exact rnum_true_bad n d (full n d) _ _ _ _ _ _ _ _ _ _ _ _ _ _ _ _ _ _ _ S hb w m1 m2 c3 c4 c5 c6 c7 c8 c9 c10
        · have hb' : y10.2.2 = false := by simpa using hb
          by_cases hl : y10.2.1 = S.size
          · have hk := (hm.resolve_left hb).resolve_left (fun h => h hl)
            rw [hb', hl] at c10
            exact rnum_true_big n d (full n d) _ _ _ _ _ _ _ _ _ _ _ _ _ _ _ _ _ _ _ S rfl rfl hk w m1 m2 c3 c4 c5 c6 c7 c8 c9 c10
          · exact rnum_true_more n d (full n d) _ _ _ _ _ _ _ _ _ _ _ _ _ _ _ _ _ _ _ S hb' (by simp; omega) w m1 m2 c3 c4 c5 c6 c7 c8 c9 c10
    | some p =>
      obtain ⟨h, m, s, k⟩ := p
      rw [hp] at hm
      dsimp only at hm ⊢
      obtain ⟨a1, a2, a3, a4⟩ := hm
      obtain ⟨h0, h1, m0, mb, s0, sb, k0, kf⟩ := labO_le hp
      rw [a1] at c3
      rw [a2] at c5
      rw [a3] at c7
      rw [a4] at c10
      dsimp only at c10
      have c11 := rout_any n d m dr o m0
      have c12 := rleft_any n d dr o
      have c13 := rlast_any n d dr o
      obtain ⟨F, hF⟩ : ∃ F, full n d = F := ⟨_, rfl⟩
      obtain ⟨D, hD⟩ : ∃ D, drop n d dr = D := ⟨_, rfl⟩
      obtain ⟨D0, D1⟩ := @drop_le n d dr
      have hDF : D = 0 ∨ 30 ≤ F := by rcases o.kinds with ⟨_, h⟩ | ⟨_, _, _, _, h⟩ | ⟨_, _, _, _, h⟩ <;> omega
      have hdr : dr = true ∨ D = 0 := by rcases o.kinds with ⟨_, h⟩ | ⟨h, _⟩ | ⟨h, _⟩ <;> first | exact .inl h | (right; omega)
      have hQ0 : 0 ≤ (60 * h + m) - (60 * h + m) / 10 := by omega
      have hQ1 : (60 * h + m) - (60 * h + m) / 10 ≤ 60 * h + m := by omega
      have E0 : 0 ≤ D * ((60 * h + m) - (60 * h + m) / 10) := Int.mul_nonneg (by omega) hQ0
      have E1 : D * ((60 * h + m) - (60 * h + m) / 10) ≤ 4 * 60000 := Int.mul_le_mul (by omega) (by omega) (by omega) (by omega)
      have P0 : 0 ≤ (60 * (60 * h + m) + s) * F := Int.mul_nonneg (by omega) (by omega)
      have P1 : (60 * (60 * h + m) + s) * F ≤ 3600060 * 240 := Int.mul_le_mul (by omega) (by omega) (by omega) (by omega)
      have hEP : D * ((60 * h + m) - (60 * h + m) / 10) ≤ (60 * (60 * h + m) + s) * F := by
        have g1 : D * ((60 * h + m) - (60 * h + m) / 10) ≤ 4 * (60 * h + m) := Int.mul_le_mul (by omega) hQ1 hQ0 (by omega)
        rcases hDF with hz | hz
        · rw [hz, Int.zero_mul]; exact P0
        · have g2 : (60 * (60 * h + m) + s) * 30 ≤ (60 * (60 * h + m) + s) * F := Int.mul_le_mul_of_nonneg_left hz (by omega)
          omega
      have hsaid : said n d h m s k - D * ((60 * h + m) - (60 * h + m) / 10) = (60 * (60 * h + m) + s) * F + k - D * ((60 * h + m) - (60 * h + m) / 10) := by
        unfold said
        rw [hF, Int.mul_comm F]; omega
      have hin : ∀ N, said n d h m s k - D * ((60 * h + m) - (60 * h + m) / 10) = N → (inF n d N = true ↔ N ≤ last n d) := by
        intro N hN
        rw [inF_iff]
        constructor
        · exact fun h => h.2
        · intro h; exact ⟨by omega, h⟩
      unfold valS
      rw [hD] at c12 D0 D1 ⊢
      rw [hF] at m2 c9 c10 f0 f1 kf
      by_cases q1 : s = 0
      · by_cases q2 : k < outS n d dr m
        · have hm10 : m % 10 ≠ 0 := by intro e; unfold outS at q2; rw [if_pos e] at q2; omega
          have hkD : k < D := by unfold outS at q2; rw [if_neg hm10, hD] at q2; exact q2
          rw [if_pos ⟨hdr.resolve_right (by omega), q1, hm10, hkD⟩]
          subst q1
          rw [Int.add_zero] at P0 P1
          cases dr with
          | false => exact rnum_false_drop n d F h m 0 k _ _ _ _ _ _ _ _ _ _ _ _ _ _ _ S rfl rfl f0 f1 h0 h1 m0 mb s0 sb k0 kf _ D _ _ _ _ _ _ 0 rfl rfl rfl rfl rfl rfl P0 (by omega) E0 (by omega) D0 D1 rfl q2 w m1 m2 c3 c4 c5 c6 c7 c8 c9 c10 c11
          | true => exact rnum_true_drop n d F h m 0 k _ _ _ _ _ _ _ _ _ _ _ _ _ _ _ S rfl rfl f0 f1 h0 h1 m0 mb s0 sb k0 kf _ D _ _ _ _ _ _ 0 rfl rfl rfl rfl rfl rfl P0 (by omega) E0 (by omega) D0 D1 rfl q2 w m1 m2 c3 c4 c5 c6 c7 c8 c9 c10 c11
        · rw [if_neg (by rintro ⟨_, _, e1, e2⟩; apply q2; unfold outS; rw [if_neg e1, hD]; exact e2)]
          subst q1
          rw [Int.add_zero] at P0 P1 hsaid
          have hi := hin _ hsaid
          rw [hsaid]
          by_cases ql : 60 * (60 * h + m) * F + k - D * (60 * h + m - (60 * h + m) / 10) ≤ last n d
          · rw [if_pos (hi.mpr ql)]
            cases dr with
            | false => exact rnum_false_oko n d F h m 0 k _ _ _ _ _ _ _ _ _ _ _ _ _ _ _ S rfl rfl f0 f1 h0 h1 m0 mb s0 sb k0 kf _ D _ _ _ _ _ _ _ rfl rfl rfl rfl rfl rfl P0 (by omega) E0 (by omega) D0 D1 rfl (by omega) ql w m1 m2 c3 c4 c5 c6 c7 c8 c9 c10 c11 c12 c13
            | true => exact rnum_true_oko n d F h m 0 k _ _ _ _ _ _ _ _ _ _ _ _ _ _ _ S rfl rfl f0 f1 h0 h1 m0 mb s0 sb k0 kf _ D _ _ _ _ _ _ _ rfl rfl rfl rfl rfl rfl P0 (by omega) E0 (by omega) D0 D1 rfl (by omega) ql w m1 m2 c3 c4 c5 c6 c7 c8 c9 c10 c11 c12 c13
          · rw [if_neg (fun e => ql (hi.mp e))]
            cases dr with
            | false => exact rnum_false_faro n d F h m 0 k _ _ _ _ _ _ _ _ _ _ _ _ _ _ _ S rfl rfl f0 f1 h0 h1 m0 mb s0 sb k0 kf _ D _ _ _ _ _ _ _ rfl rfl rfl rfl rfl rfl P0 (by omega) E0 (by omega) D0 D1 rfl (by omega) (by omega) w m1 m2 c3 c4 c5 c6 c7 c8 c9 c10 c11 c12 c13
            | true => exact rnum_true_faro n d F h m 0 k _ _ _ _ _ _ _ _ _ _ _ _ _ _ _ S rfl rfl f0 f1 h0 h1 m0 mb s0 sb k0 kf _ D _ _ _ _ _ _ _ rfl rfl rfl rfl rfl rfl P0 (by omega) E0 (by omega) D0 D1 rfl (by omega) (by omega) w m1 m2 c3 c4 c5 c6 c7 c8 c9 c10 c11 c12 c13
      · rw [if_neg (fun e => q1 e.2.1)]
        have hi := hin _ hsaid
        rw [hsaid]
        have q3 : (s == 0) = false := by simpa using q1
        by_cases ql : (60 * (60 * h + m) + s) * F + k - D * (60 * h + m - (60 * h + m) / 10) ≤ last n d
        · rw [if_pos (hi.mpr ql)]
          cases dr with
          | false => exact rnum_false_oks n d F h m s k _ _ _ _ _ _ _ _ _ _ _ _ _ _ _ S rfl rfl f0 f1 h0 h1 m0 mb s0 sb k0 kf 0 D _ _ _ _ _ _ _ rfl rfl rfl rfl rfl rfl P0 (by omega) E0 (by omega) D0 D1 q3 ql w m1 m2 c3 c4 c5 c6 c7 c8 c9 c10 c12 c13
          | true => exact rnum_true_oks n d F h m s k _ _ _ _ _ _ _ _ _ _ _ _ _ _ _ S rfl rfl f0 f1 h0 h1 m0 mb s0 sb k0 kf 0 D _ _ _ _ _ _ _ rfl rfl rfl rfl rfl rfl P0 (by omega) E0 (by omega) D0 D1 q3 ql w m1 m2 c3 c4 c5 c6 c7 c8 c9 c10 c12 c13
        · rw [if_neg (fun e => ql (hi.mp e))]
          cases dr with
          | false => exact rnum_false_fars n d F h m s k _ _ _ _ _ _ _ _ _ _ _ _ _ _ _ S rfl rfl f0 f1 h0 h1 m0 mb s0 sb k0 kf 0 D _ _ _ _ _ _ _ rfl rfl rfl rfl rfl rfl P0 (by omega) E0 (by omega) D0 D1 q3 (by omega) w m1 m2 c3 c4 c5 c6 c7 c8 c9 c10 c12 c13
          | true => exact rnum_true_fars n d F h m s k _ _ _ _ _ _ _ _ _ _ _ _ _ _ _ S rfl rfl f0 f1 h0 h1 m0 mb s0 sb k0 kf 0 D _ _ _ _ _ _ _ rfl rfl rfl rfl rfl rfl P0 (by omega) E0 (by omega) D0 D1 q3 (by omega) w m1 m2 c3 c4 c5 c6 c7 c8 c9 c10 c12 c13
  · rw [if_neg hk] at m1 ⊢
    exact rnum_bad n d 14 dr S (by decide) w m1
end Go.Proofs.YtghiibdhibcbaaaDoor.PA
