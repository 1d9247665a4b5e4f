/- code: Number told at all inputs. -/
import Derived.Test.YtghiibdhibcbaaaDoorCodQ
namespace Go.Proofs.YtghiibdhibcbaaaDoor.PA
open Go Go.RowKit Go.Proofs.YtghiibdhibcbaaaDoor.CS
set_option linter.unusedSimpArgs false
set_option linter.unusedVariables false
theorem said_le {n d h m s k : Int} {dr : Bool} (o : Ok n d dr) (h0 : 0 ≤ h) (h1 : h ≤ 999) (m0 : 0 ≤ m) (m1 : m < 60) (s0 : 0 ≤ s) (s1 : s < 60) (k0 : 0 ≤ k) (k1 : k < full n d) :
    0 ≤ said n d h m s k ∧ said n d h m s k ≤ 1000000000 := by
  obtain ⟨f0, f1⟩ := full_le o
  unfold said
  have t0 : 0 ≤ full n d * (60 * (60 * h + m) + s) := Int.mul_nonneg (by omega) (by omega)
  have t1 : full n d * (60 * (60 * h + m) + s) ≤ 240 * 3600060 := Int.mul_le_mul f1 (by omega) (by omega) (by omega)
  omega
theorem ne_nil_bs {l : List UInt8} (h : l ≠ []) : (bs l).toList.isEmpty = false := by
  rw [bs_toList]; cases l with
  | nil => exact absurd rfl h
  | cons a l => rfl
theorem cnumber_any (n d : Int) (dr : Bool) (l : List UInt8) (w : World) (ht : TabN w) :
    Calls Tryd.prog 21 #[rate n d dr, .string (bs l)] w fun e w' => e = .returned (.tuple #[.int .i64 (nmbS n d dr l).1, .int .i64 (nmbS n d dr l).2]) ∧ Below w.heap.size w w' := by
  have m1 := check_any n d dr
  unfold checkS at m1
  unfold nmbS
  by_cases hk : okR n d dr = true
  · rw [if_pos hk] at m1 ⊢
    have o := okR_iff.mp hk
    obtain ⟨f0, f1⟩ := full_le o
    have m2 := full_any n d dr o
    obtain ⟨x3, x4, x5, x6, x7, x9, x11, e3, e4, e5, e6, e7, e9, e11, hm⟩ := labO_run dr (full n d) l
    have c3 := fun (w0 w : World) g hg hx hB => hours_any (l, false) 2 g w0 w (by decide) hg hx hB
    have c4 := fun (w0 w : World) g hg hx hB => sign_any x3.2 58 g w0 w hg hx hB
    have c5 := fun (w0 w : World) g hg hx hB => below_any x4 2 60 g w0 w (by decide) hg hx hB
    have c6 := fun (w0 w : World) g hg hx hB => sign_any x5.2 58 g w0 w hg hx hB
    have c7 := fun (w0 w : World) g hg hx hB => below_any x6 2 60 g w0 w (by decide) hg hx hB
    have c8 := colon_any n d dr
    have c9 := fun (w0 w : World) g hg hx hB => sign_any x7.2 (if dr = true then 59 else 58) g w0 w hg hx hB
    have c10 := last_any n d dr o
    have c11 := fun (w0 w : World) g hg hx hB => below_any x9 (wide (full n d) : Int) (full n d) g w0 w (by have := wide_le (full n d); unfold wide; split <;> decide) hg hx hB
    rw [e3] at c3
    rw [e4] at c4
    rw [e5] at c5
    rw [e6] at c6
    rw [e7] at c7
    rw [e9] at c9
    rw [e11] at c11
    have ec : (⟨#[if dr = true then (59 : UInt8) else 58]⟩ : ByteArray) = (if dr = true then ⟨#[59]⟩ else ⟨#[58]⟩) := by cases dr <;> rfl
    rw [ec] at c9
    cases hp : labO dr (full n d) l with
    | none =>
      rw [hp] at hm
      dsimp only at hm ⊢
      by_cases hb : x11.2.2 = true
      · exact cnum_no n d (full n d) _ _ _ _ _ dr _ _ _ _ _ _ _ _ _ _ _ _ _ _ _ _ hb w ht m1 m2 c3 c4 c5 c6 c7 c8 c9 c10 c11
      · have hb' : x11.2.2 = false := by simpa using hb
        have hl : x11.2.1 ≠ [] := hm.resolve_left hb
        exact cnum_more n d (full n d) _ _ _ _ _ dr _ _ _ _ _ _ _ _ _ _ _ _ _ _ _ _ hb' (ne_nil_bs hl) w ht m1 m2 c3 c4 c5 c6 c7 c8 c9 c10 c11
    | some p =>
      obtain ⟨h, m, s, k⟩ := p
      rw [hp] at hm
      dsimp only at hm ⊢
      obtain ⟨a1, a2, a3, a4⟩ := hm
      obtain ⟨h0, h1, m0, mb, s0, sb, k0, kf⟩ := labO_le hp
      rw [a1] at c3
      rw [a2] at c5
      rw [a3] at c7
      rw [a4] at c11
      dsimp only at c11
      obtain ⟨N0, N1⟩ := said_le o h0 h1 m0 mb s0 sb k0 kf
      unfold valS
      rcases o.kinds with ⟨rfl, hd⟩ | ⟨rfl, rfl, rfl, hd, hF⟩ | ⟨rfl, rfl, rfl, hd, hF⟩
      · rw [if_neg (by simp), hd, Int.zero_mul, Int.sub_zero]
        have c13 := within_any n d (said n d h m s k) false o
        cases hi : inF n d (said n d h m s k)
        · rw [hi] at c13
          rw [if_neg (by simp)]
          exact cnum_far n d (full n d) h m s k _ _ _ _ _ _ _ false _ _ _ _ _ _ _ _ _ rfl rfl f0 f1 h0 h1 m0 mb s0 sb k0 kf _ _ _ _ rfl rfl rfl rfl N0 N1 w ht m1 m2 c3 c4 c5 c6 c7 c8 c9 c10 c11 c13
        · rw [hi] at c13
          rw [if_pos rfl]
          exact cnum_plain n d (full n d) h m s k _ _ _ _ _ _ _ false _ _ _ _ _ _ _ _ _ rfl rfl f0 f1 h0 h1 m0 mb s0 sb k0 kf _ _ _ _ rfl rfl rfl rfl N0 N1 w ht m1 m2 c3 c4 c5 c6 c7 c8 c9 c10 c11 c13
      · have c12 := drops_any 30000 1001
        rw [dropsS_30] at c12
        rw [hd]
        have hr : said 30000 1001 h m s k % full 30000 1001 = k := by unfold said; rw [hF] at kf ⊢; omega
        by_cases hq : true = true ∧ s = 0 ∧ m % 10 ≠ 0 ∧ k < 2
        · rw [if_pos hq]
          exact cnum_drop 30000 1001 (full 30000 1001) h m s k _ _ _ _ _ _ _ false _ _ _ _ _ _ _ _ _ rfl rfl f0 f1 h0 h1 m0 mb s0 sb k0 kf _ _ _ _ rfl rfl rfl rfl N0 N1 2 0 0 0 (by decide) (by decide) hr hq.2 w ht m1 m2 c3 c4 c5 c6 c7 c8 c9 c10 c11 c12
        · have hq2 : s ≠ 0 ∨ m % 10 = 0 ∨ 2 ≤ k := by
            by_cases q1 : s = 0 <;> by_cases q2 : m % 10 = 0 <;> by_cases q3 : k < 2 <;> first | omega | exact absurd ⟨rfl, q1, q2, q3⟩ hq
          rw [if_neg hq]
          have c13 := within_any 30000 1001 (said 30000 1001 h m s k - 2 * (60 * h + m - (60 * h + m) / 10)) true o
          cases hi : inF 30000 1001 (said 30000 1001 h m s k - 2 * (60 * h + m - (60 * h + m) / 10))
          · rw [hi] at c13
            rw [if_neg (by simp)]
            exact cnum_dfar 30000 1001 (full 30000 1001) h m s k _ _ _ _ _ _ _ false _ _ _ _ _ _ _ _ _ rfl rfl f0 f1 h0 h1 m0 mb s0 sb k0 kf _ _ _ _ rfl rfl rfl rfl N0 N1 2 _ _ _ (by decide) (by decide) hr rfl rfl rfl (by omega) (by omega) hq2 w ht m1 m2 c3 c4 c5 c6 c7 c8 c9 c10 c11 c12 c13
          · rw [hi] at c13
            rw [if_pos rfl]
            exact cnum_dok 30000 1001 (full 30000 1001) h m s k _ _ _ _ _ _ _ false _ _ _ _ _ _ _ _ _ rfl rfl f0 f1 h0 h1 m0 mb s0 sb k0 kf _ _ _ _ rfl rfl rfl rfl N0 N1 2 _ _ _ (by decide) (by decide) hr rfl rfl rfl (by omega) (by omega) hq2 w ht m1 m2 c3 c4 c5 c6 c7 c8 c9 c10 c11 c12 c13
      · have c12 := drops_any 60000 1001
        rw [dropsS_60] at c12
        rw [hd]
        have hr : said 60000 1001 h m s k % full 60000 1001 = k := by unfold said; rw [hF] at kf ⊢; omega
        by_cases hq : true = true ∧ s = 0 ∧ m % 10 ≠ 0 ∧ k < 4
        · rw [if_pos hq]
          exact cnum_drop 60000 1001 (full 60000 1001) h m s k _ _ _ _ _ _ _ false _ _ _ _ _ _ _ _ _ rfl rfl f0 f1 h0 h1 m0 mb s0 sb k0 kf _ _ _ _ rfl rfl rfl rfl N0 N1 4 0 0 0 (by decide) (by decide) hr hq.2 w ht m1 m2 c3 c4 c5 c6 c7 c8 c9 c10 c11 c12
        · have hq2 : s ≠ 0 ∨ m % 10 = 0 ∨ 4 ≤ k := by
            by_cases q1 : s = 0 <;> by_cases q2 : m % 10 = 0 <;> by_cases q3 : k < 4 <;> first | omega | exact absurd ⟨rfl, q1, q2, q3⟩ hq
          rw [if_neg hq]
          have c13 := within_any 60000 1001 (said 60000 1001 h m s k - 4 * (60 * h + m - (60 * h + m) / 10)) true o
          cases hi : inF 60000 1001 (said 60000 1001 h m s k - 4 * (60 * h + m - (60 * h + m) / 10))
          · rw [hi] at c13
            rw [if_neg (by simp)]
            exact cnum_dfar 60000 1001 (full 60000 1001) h m s k _ _ _ _ _ _ _ false _ _ _ _ _ _ _ _ _ rfl rfl f0 f1 h0 h1 m0 mb s0 sb k0 kf _ _ _ _ rfl rfl rfl rfl N0 N1 4 _ _ _ (by decide) (by decide) hr rfl rfl rfl (by omega) (by omega) hq2 w ht m1 m2 c3 c4 c5 c6 c7 c8 c9 c10 c11 c12 c13
          · rw [hi] at c13
            rw [if_pos rfl]
            exact cnum_dok 60000 1001 (full 60000 1001) h m s k _ _ _ _ _ _ _ false _ _ _ _ _ _ _ _ _ rfl rfl f0 f1 h0 h1 m0 mb s0 sb k0 kf _ _ _ _ rfl rfl rfl rfl N0 N1 4 _ _ _ (by decide) (by decide) hr rfl rfl rfl (by omega) (by omega) hq2 w ht m1 m2 c3 c4 c5 c6 c7 c8 c9 c10 c11 c12 c13
  · rw [if_neg hk] at m1 ⊢
    exact cnum_bad n d 14 dr (bs l) (by decide) w m1
end Go.Proofs.YtghiibdhibcbaaaDoor.PA
