/- code: Number told at all inputs. code: Number told at all inputs. -/
import Derived.Test.YtghiibdhibcbaaaGreatDoorCodN
import Derived.Test.YtghiibdhibcbaaaGreatDoorME
namespace Go.Proofs.YtghiibdhibcbaaaGreatDoor.PA
open Go Go.RowKit Go.Proofs.YtghiibdhibcbaaaGreatDoor.CS
set_option linter.unusedSimpArgs false
set_option linter.unusedVariables false
/-- hours, minutes, seconds, number of a label -/
def labO (dr : Bool) (f : Int) (l : List UInt8) : Option (Int × Int × Int × Int) :=
  (hcO 2 l).bind fun a => (belO 2 60 a.2).bind fun b => (byteO 58 b.2).bind fun c => (belO 2 60 c).bind fun d => (byteO (if dr = true then 59 else 58) d.2).bind fun e => (belO (wide f) f e).bind fun g => if g.2 = [] then some (a.1, b.1, d.1, g.1) else none
/-- the number that is said -/
def said (n d : Int) (h m s k : Int) : Int := k + full n d * (60 * (60 * h + m) + s)
def valS (n d : Int) (dr : Bool) (h m s k : Int) : Int × Int :=
  if dr = true ∧ s = 0 ∧ m % 10 ≠ 0 ∧ k < drop n d dr then (0, 15)
  else if inF n d (said n d h m s k - drop n d dr * (60 * h + m - (60 * h + m) / 10)) = true then (said n d h m s k - drop n d dr * (60 * h + m - (60 * h + m) / 10), 0) else (0, 31)
def nmbS (n d : Int) (dr : Bool) (l : List UInt8) : Int × Int :=
  if okR n d dr = true then (match labO dr (full n d) l with | some (h, m, s, k) => valS n d dr h m s k | none => (0, 13)) else (0, 14)
theorem noD_val {l : List UInt8} (h : noD l = false) : 0 ≤ vg l ∧ vg l + 1 ≤ 10 ^ l.length := by
  refine snoc_ind (P := fun l => noD l = false → 0 ≤ vg l ∧ vg l + 1 ≤ 10 ^ l.length) (fun _ => ⟨by decide, by decide⟩) (fun l c ih h => ?_) l h
  rw [noD_snoc, Bool.or_eq_false_iff] at h
  obtain ⟨i0, i1⟩ := ih h.1
  have hc : isD c = true := by simpa using h.2
  unfold isD at hc
  rw [Bool.and_eq_true, decide_eq_true_eq, decide_eq_true_eq] at hc
  rw [vg_snoc, List.length_append, List.length_singleton, Int.pow_succ]
  omega
theorem vg_range {l : List UInt8} (n : Nat) (hl : l.length ≤ n) (h : noD l = false) : 0 ≤ vg l ∧ vg l + 1 ≤ ((10 ^ n : Nat) : Int) := by
  have h1 := noD_val h
  have h2 : (10 : Nat) ^ l.length ≤ 10 ^ n := Nat.pow_le_pow_right (by decide) hl
  have h3 : (10 : Int) ^ l.length = (((10 : Nat) ^ l.length : Nat) : Int) := by simp
  omega
theorem hcO_le {least : Nat} {l r : List UInt8} {v : Int} (h : hcO least l = some (v, r)) : 0 ≤ v ∧ v ≤ 999 := by
  unfold hcO at h
  split at h
  · rename_i hc
    obtain ⟨h1, h2, h3, h4⟩ := hc
    simp only [Option.some.injEq, Prod.mk.injEq] at h
    have := vg_range 3 (by rw [List.length_take]; omega) h4
    omega
  · cases h
theorem belO_le {k : Nat} {most v : Int} {l r : List UInt8} (h : belO k most l = some (v, r)) : 0 ≤ v ∧ v < most := by
  unfold belO digO at h
  split at h
  · rename_i hc
    simp only [Option.bind_some] at h
    split at h
    · rename_i hm
      simp only [Option.some.injEq, Prod.mk.injEq] at h
      have := vg_range _ (Nat.le_refl _) hc.2
      omega
    · cases h
  · cases h
theorem labO_le {dr : Bool} {f h m s k : Int} {l : List UInt8} (e : labO dr f l = some (h, m, s, k)) : 0 ≤ h ∧ h ≤ 999 ∧ 0 ≤ m ∧ m < 60 ∧ 0 ≤ s ∧ s < 60 ∧ 0 ≤ k ∧ k < f := by
  unfold labO at e
  cases h1 : hcO 2 l with
  | none => rw [h1] at e; cases e
  | some a =>
  cases h2 : belO 2 60 a.2 with
  | none => rw [h1] at e; simp [h2] at e
  | some b =>
  cases h3 : byteO 58 b.2 with
  | none => rw [h1] at e; simp [h2, h3] at e
  | some c =>
  cases h4 : belO 2 60 c with
  | none => rw [h1] at e; simp [h2, h3, h4] at e
  | some d =>
  cases h5 : byteO (if dr = true then 59 else 58) d.2 with
  | none => rw [h1] at e; simp [h2, h3, h4, h5] at e
  | some q =>
  cases h6 : belO (wide f) f q with
  | none => rw [h1] at e; simp [h2, h3, h4, h5, h6] at e
  | some g =>
    rw [h1] at e
    simp only [Option.bind_some, h2, h3, h4, h5, h6] at e
    split at e
    · simp only [Option.some.injEq, Prod.mk.injEq] at e
      obtain ⟨rfl, rfl, rfl, rfl⟩ := e
      have r1 := hcO_le (v := a.1) (r := a.2) h1
      have r2 := belO_le (v := b.1) (r := b.2) h2
      have r3 := belO_le (v := d.1) (r := d.2) h4
      have r4 := belO_le (v := g.1) (r := g.2) h6
      exact ⟨r1.1, r1.2, r2.1, r2.2, r3.1, r3.2, r4.1, r4.2⟩
    · cases e
theorem wide_one (f : Int) : 1 ≤ wide f := by unfold wide; split <;> omega
/-- the states that Number's reader goes through -/
theorem labO_run (dr : Bool) (f : Int) (l : List UInt8) :
    ∃ x3 x4 x5 x6 x7 x9 x11, hrsS (l, false) 2 = x3 ∧ sgnS x3.2 58 = x4 ∧ belS x4 2 60 = x5 ∧ sgnS x5.2 58 = x6 ∧ belS x6 2 60 = x7 ∧ sgnS x7.2 (if dr = true then 59 else 58) = x9 ∧ belS x9 (wide f : Int) f = x11 ∧
      (match labO dr f l with | some (h, m, s, k) => x3.1 = h ∧ x5.1 = m ∧ x7.1 = s ∧ x11 = (k, [], false) | none => x11.2.2 = true ∨ x11.2.1 ≠ []) := by
  refine ⟨_, _, _, _, _, _, _, rfl, rfl, rfl, rfl, rfl, rfl, rfl, ?_⟩
  have r1 := hours_rel l 2 (by decide)
  have r2 := r1.st
  dsimp only at r2
  have r3 := bel_rel 2 60 (by decide) r2
  have r4 := sgn_rel 58 r3.st
  have r5 := bel_rel 2 60 (by decide) r4
  have r6 := sgn_rel (if dr = true then 59 else 58) r5.st
  have r7 := bel_rel (wide f) f (wide_one f) r6
  unfold labO
  cases h1 : hcO 2 l with
  | none => rw [h1] at r7; simp only [Option.map_none, Option.bind_none] at r7 ⊢; exact .inl r7
  | some a =>
  rw [h1] at r1 r3 r5 r7
  cases h2 : belO 2 60 a.2 with
  | none => simp only [Option.map_some, Option.bind_some, h2, Option.map_none, Option.bind_none] at r7 ⊢; exact .inl r7
  | some b =>
  cases h3 : byteO 58 b.2 with
  | none => simp only [Option.map_some, Option.bind_some, h2, h3, Option.map_none, Option.bind_none] at r7 ⊢; exact .inl r7
  | some c =>
  cases h4 : belO 2 60 c with
  | none => simp only [Option.map_some, Option.bind_some, h2, h3, h4, Option.map_none, Option.bind_none] at r7 ⊢; exact .inl r7
  | some d =>
  cases h5 : byteO (if dr = true then 59 else 58) d.2 with
  | none => simp only [Option.map_some, Option.bind_some, h2, h3, h4, h5, Option.map_none, Option.bind_none] at r7 ⊢; exact .inl r7
  | some q =>
  cases h6 : belO (wide f) f q with
  | none => simp only [Option.map_some, Option.bind_some, h2, h3, h4, h5, h6, Option.map_none, Option.bind_none] at r7 ⊢; exact .inl r7
  | some g =>
    simp only [Option.map_some, Option.bind_some, h2, h3, h4, h5, h6] at r1 r3 r5 r7 ⊢
    unfold relV at r1 r3 r5 r7
    by_cases hg : g.2 = []
    · rw [if_pos hg]
      dsimp only
      refine ⟨congrArg Prod.fst r1, congrArg Prod.fst r3, congrArg Prod.fst r5, Eq.trans r7 ?_⟩
      rw [hg]
    · rw [if_neg hg]
      dsimp only
      have e := congrArg (fun z => z.2.1) r7
      exact .inr (fun e2 => hg (Eq.trans e.symm e2))
end Go.Proofs.YtghiibdhibcbaaaGreatDoor.PA
namespace Go.Proofs.YtghiibdhibcbaaaGreatDoor.PA
open Go Go.RowKit Go.Proofs.YtghiibdhibcbaaaGreatDoor.CS
set_option linter.unusedSimpArgs false
set_option linter.unusedVariables false
theorem said_le {n d h m s k : Int} {dr : Bool} (o : Ok n d dr) (h0 : 0 ≤ h) (h1 : h ≤ 999) (m0 : 0 ≤ m) (m1 : m < 60) (s0 : 0 ≤ s) (s1 : s < 60) (k0 : 0 ≤ k) (k1 : k < full n d) :
    0 ≤ said n d h m s k ∧ said n d h m s k ≤ 1000000000 := by
  obtain ⟨f0, f1⟩ := full_le o
  unfold said
  have t0 : 0 ≤ full n d * (60 * (60 * h + m) + s) := Int.mul_nonneg (by omega) (by omega)
  have t1 : full n d * (60 * (60 * h + m) + s) ≤ 240 * 3600060 := Int.mul_le_mul f1 (by omega) (by omega) (by omega)
  omega
theorem ne_nil_bs {l : List UInt8} (h : l ≠ []) : (bs l).toList.isEmpty = false := by
  rw [bs_toList]; cases l with
  | nil => exact absurd rfl h
  | cons a l => rfl
theorem cnumber_any (n d : Int) (dr : Bool) (l : List UInt8) (w : World) (ht : TabN w) :
    Calls Tryz.prog 20 #[rate n d dr, .string (bs l)] w fun e w' => e = .returned (.tuple #[.int .i64 (nmbS n d dr l).1, .int .i64 (nmbS n d dr l).2]) ∧ Below w.heap.size w w' := by
  have m1 := check_any n d dr
  unfold checkS at m1
  unfold nmbS
  by_cases hk : okR n d dr = true
  · rw [if_pos hk] at m1 ⊢
    have o := okR_iff.mp hk
    obtain ⟨f0, f1⟩ := full_le o
    have m2 := full_any n d dr o
    obtain ⟨x3, x4, x5, x6, x7, x9, x11, e3, e4, e5, e6, e7, e9, e11, hm⟩ := labO_run dr (full n d) l
    have c3 := fun (w0 w : World) g hg hx hB => hours_any (l, false) 2 g w0 w (by decide) hg hx hB
    have c4 := fun (w0 w : World) g hg hx hB => sign_any x3.2 58 g w0 w hg hx hB
    have c5 := fun (w0 w : World) g hg hx hB => below_any x4 2 60 g w0 w (by decide) hg hx hB
    have c6 := fun (w0 w : World) g hg hx hB => sign_any x5.2 58 g w0 w hg hx hB
    have c7 := fun (w0 w : World) g hg hx hB => below_any x6 2 60 g w0 w (by decide) hg hx hB
    have c8 := colon_any n d dr
    have c9 := fun (w0 w : World) g hg hx hB => sign_any x7.2 (if dr = true then 59 else 58) g w0 w hg hx hB
    have c10 := last_any n d dr o
    have c11 := fun (w0 w : World) g hg hx hB => below_any x9 (wide (full n d) : Int) (full n d) g w0 w (by have := wide_le (full n d); unfold wide; split <;> decide) hg hx hB
    rw [e3] at c3
    rw [e4] at c4
    rw [e5] at c5
    rw [e6] at c6
    rw [e7] at c7
    rw [e9] at c9
    rw [e11] at c11
    have ec : (⟨#[if dr = true then (59 : UInt8) else 58]⟩ : ByteArray) = (if dr = true then ⟨#[59]⟩ else ⟨#[58]⟩) := by cases dr <;> rfl
    rw [ec] at c9
    cases hp : labO dr (full n d) l with
    | none =>
      rw [hp] at hm
      dsimp only at hm ⊢
      by_cases hb : x11.2.2 = true
      · exact cnum_no n d (full n d) _ _ _ _ _ dr _ _ _ _ _ _ _ _ _ _ _ _ _ _ _ _ hb w ht m1 m2 c3 c4 c5 c6 c7 c8 c9 c10 c11
      · have hb' : x11.2.2 = false := by simpa using hb
        have hl : x11.2.1 ≠ [] := hm.resolve_left hb
        exact cnum_more n d (full n d) _ _ _ _ _ dr _ _ _ _ _ _ _ _ _ _ _ _ _ _ _ _ hb' (ne_nil_bs hl) w ht m1 m2 c3 c4 c5 c6 c7 c8 c9 c10 c11
    | some p =>
      obtain ⟨h, m, s, k⟩ := p
      rw [hp] at hm
      dsimp only at hm ⊢
      obtain ⟨a1, a2, a3, a4⟩ := hm
      obtain ⟨h0, h1, m0, mb, s0, sb, k0, kf⟩ := labO_le hp
      rw [a1] at c3
      rw [a2] at c5
      rw [a3] at c7
      rw [a4] at c11
      dsimp only at c11
      obtain ⟨N0, N1⟩ := said_le o h0 h1 m0 mb s0 sb k0 kf
      unfold valS
      rcases o.kinds with ⟨rfl, hd⟩ | ⟨rfl, rfl, rfl, hd, hF⟩ | ⟨rfl, rfl, rfl, hd, hF⟩
      · rw [if_neg (by simp), hd, Int.zero_mul, Int.sub_zero]
        have c13 := within_any n d (said n d h m s k) false o
        cases hi : inF n d (said n d h m s k)
        · rw [hi] at c13
          rw [if_neg (by simp)]
          exact cnum_far n d (full n d) h m s k _ _ _ _ _ _ _ false _ _ _ _ _ _ _ _ _ rfl rfl f0 f1 h0 h1 m0 mb s0 sb k0 kf _ _ _ _ rfl rfl rfl rfl N0 N1 w ht m1 m2 c3 c4 c5 c6 c7 c8 c9 c10 c11 c13
        · rw [hi] at c13
          rw [if_pos rfl]
          exact cnum_plain n d (full n d) h m s k _ _ _ _ _ _ _ false _ _ _ _ _ _ _ _ _ rfl rfl f0 f1 h0 h1 m0 mb s0 sb k0 kf _ _ _ _ rfl rfl rfl rfl N0 N1 w ht m1 m2 c3 c4 c5 c6 c7 c8 c9 c10 c11 c13
      · have c12 := drops_any 30000 1001
        rw [dropsS_30] at c12
        rw [hd]
        have hr : said 30000 1001 h m s k % full 30000 1001 = k := by unfold said; rw [hF] at kf ⊢; omega
        by_cases hq : true = true ∧ s = 0 ∧ m % 10 ≠ 0 ∧ k < 2
        · rw [if_pos hq]
          exact cnum_drop 30000 1001 (full 30000 1001) h m s k _ _ _ _ _ _ _ false _ _ _ _ _ _ _ _ _ rfl rfl f0 f1 h0 h1 m0 mb s0 sb k0 kf _ _ _ _ rfl rfl rfl rfl N0 N1 2 0 0 0 (by decide) (by decide) hr hq.2 w ht m1 m2 c3 c4 c5 c6 c7 c8 c9 c10 c11 c12
        · have hq2 : s ≠ 0 ∨ m % 10 = 0 ∨ 2 ≤ k := by
            by_cases q1 : s = 0 <;> by_cases q2 : m % 10 = 0 <;> by_cases q3 : k < 2 <;> first | omega | exact absurd ⟨rfl, q1, q2, q3⟩ hq
          rw [if_neg hq]
          have c13 := within_any 30000 1001 (said 30000 1001 h m s k - 2 * (60 * h + m - (60 * h + m) / 10)) true o
          cases hi : inF 30000 1001 (said 30000 1001 h m s k - 2 * (60 * h + m - (60 * h + m) / 10))
          · rw [hi] at c13
            rw [if_neg (by simp)]
            exact cnum_dfar 30000 1001 (full 30000 1001) h m s k _ _ _ _ _ _ _ false _ _ _ _ _ _ _ _ _ rfl rfl f0 f1 h0 h1 m0 mb s0 sb k0 kf _ _ _ _ rfl rfl rfl rfl N0 N1 2 _ _ _ (by decide) (by decide) hr rfl rfl rfl (by omega) (by omega) hq2 w ht m1 m2 c3 c4 c5 c6 c7 c8 c9 c10 c11 c12 c13
          · rw [hi] at c13
            rw [if_pos rfl]
            exact cnum_dok 30000 1001 (full 30000 1001) h m s k _ _ _ _ _ _ _ false _ _ _ _ _ _ _ _ _ rfl rfl f0 f1 h0 h1 m0 mb s0 sb k0 kf _ _ _ _ rfl rfl rfl rfl N0 N1 2 _ _ _ (by decide) (by decide) hr rfl rfl rfl (by omega) (by omega) hq2 w ht m1 m2 c3 c4 c5 c6 c7 c8 c9 c10 c11 c12 c13
      · have c12 := drops_any 60000 1001
        rw [dropsS_60] at c12
        rw [hd]
        have hr : said 60000 1001 h m s k % full 60000 1001 = k := by unfold said; rw [hF] at kf ⊢; omega
        by_cases hq : true = true ∧ s = 0 ∧ m % 10 ≠ 0 ∧ k < 4
        · rw [if_pos hq]
          exact cnum_drop 60000 1001 (full 60000 1001) h m s k _ _ _ _ _ _ _ false _ _ _ _ _ _ _ _ _ rfl rfl f0 f1 h0 h1 m0 mb s0 sb k0 kf _ _ _ _ rfl rfl rfl rfl N0 N1 4 0 0 0 (by decide) (by decide) hr hq.2 w ht m1 m2 c3 c4 c5 c6 c7 c8 c9 c10 c11 c12
        · have hq2 : s ≠ 0 ∨ m % 10 = 0 ∨ 4 ≤ k := by
            by_cases q1 : s = 0 <;> by_cases q2 : m % 10 = 0 <;> by_cases q3 : k < 4 <;> first | omega | exact absurd ⟨rfl, q1, q2, q3⟩ hq
          rw [if_neg hq]
          have c13 := within_any 60000 1001 (said 60000 1001 h m s k - 4 * (60 * h + m - (60 * h + m) / 10)) true o
          cases hi : inF 60000 1001 (said 60000 1001 h m s k - 4 * (60 * h + m - (60 * h + m) / 10))
          · rw [hi] at c13
            rw [if_neg (by simp)]
            exact cnum_dfar 60000 1001 (full 60000 1001) h m s k _ _ _ _ _ _ _ false _ _ _ _ _ _ _ _ _ rfl rfl f0 f1 h0 h1 m0 mb s0 sb k0 kf _ _ _ _ rfl rfl rfl rfl N0 N1 4 _ _ _ (by decide) (by decide) hr rfl rfl rfl (by omega) (by omega) hq2 w ht m1 m2 c3 c4 c5 c6 c7 c8 c9 c10 c11 c12 c13
          · rw [hi] at c13
            rw [if_pos rfl]
            exact cnum_dok 60000 1001 (full 60000 1001) h m s k _ _ _ _ _ _ _ false _ _ _ _ _ _ _ _ _ rfl rfl f0 f1 h0 h1 m0 mb s0 sb k0 kf _ _ _ _ rfl rfl rfl rfl N0 N1 4 _ _ _ (by decide) (by decide) hr rfl rfl rfl (by omega) (by omega) hq2 w ht m1 m2 c3 c4 c5 c6 c7 c8 c9 c10 c11 c12 c13
  · rw [if_neg hk] at m1 ⊢
    exact cnum_bad n d 14 dr (bs l) (by decide) w m1
end Go.Proofs.YtghiibdhibcbaaaGreatDoor.PA
