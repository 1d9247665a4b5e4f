/- CodeSpoken: clocks and rates are read as they were written; clocks rise with the times. -/
import Derived.Test.YtghiibdhibcbaaaGreatDoorLwSp1
import Derived.Test.YtghiibdhibcbaaaGreatDoorLwSp2
import Derived.Test.YtghiibdhibcbaaaGreatDoorLwSp4
import Derived.Test.YtghiibdhibcbaaaGreatDoorLwSpN
import Derived.Test.YtghiibdhibcbaaaGreatDoorMP
import Derived.Test.YtghiibdhibcbaaaGreatDoorMR
namespace Go.Proofs.YtghiibdhibcbaaaGreatDoor.PA
open Go Go.RowKit Go.Proofs.YtghiibdhibcbaaaGreatDoor.CS Go.ChangeShapes Go.WideShapes
set_option linter.unusedVariables false
set_option linter.unusedSimpArgs false
theorem clk_said {f V G x y c : Int} (hf : f = 1 ∨ f = 2 ∨ f = 4) (hG : partsOf f = G) (ht : timeS x y = 0) (hz : G % y = 0) (hc : G / y = c) (hx : x * c = V) : clkS f x y = (clkL f V, 0) := by
  have g0 : ¬ G = 0 := by rw [← hG]; rcases hf with rfl | rfl | rfl <;> decide
  unfold clkS
  rw [hG, if_neg g0, if_pos ht, if_pos hz, hc, hx]
theorem spoken_1 (s t n d : Int) (dr : Bool) (w : World) (ht : TabN w) :
    Calls Tryz.prog 4 #[.int .i64 1, .int .i64 s, .int .i64 t, rate n d dr] w fun e w' => e = .returned (.bool true) ∧ Below w.heap.size w w' := by
  have hf : (1 : Int) = 1 ∨ (1 : Int) = 2 ∨ (1 : Int) = 4 := by decide
  have m1 := fun w => within5_any s 360000001 (by decide) (by decide) w
  have m3 := fun w => within5_any t 360000001 (by decide) (by decide) w
  obtain ⟨V, hV⟩ : ∃ V, s % 360000001 = V := ⟨_, rfl⟩
  obtain ⟨V2, hV2⟩ : ∃ V, t % 360000001 = V := ⟨_, rfl⟩
  have v0 : 0 ≤ V := by omega
  have v1 : V ≤ 360000 * 1000 := by omega
  have u0 : 0 ≤ V2 := by omega
  have u1 : V2 ≤ 360000 * 1000 := by omega
  rw [hV] at m1
  rw [hV2] at m3
  obtain ⟨x, y, c, en, et, x0, x1, y0, y1, ez, ec, ex, ey, c1⟩ := new_rel v0 v1 (show (1 : Int) ≤ 1000 by decide) (by decide)
  obtain ⟨x2, y2, c2, en2, et2, x02, x12, y02, y12, ez2, ec2, ex2, ey2, c12⟩ := new_rel u0 u1 (show (1 : Int) ≤ 1000 by decide) (by decide)
  have m2 := fun w => new3_any V 1000 w (by omega) (by omega) (by decide) (by decide)
  have m4 := fun w => new3_any V2 1000 w (by omega) (by omega) (by decide) (by decide)
  rw [en] at m2
  rw [en2] at m4
  have m5 := fun (w : World) (ht : TabN w) => clock_any 1 x y w (by omega) (by omega) (by omega) (by omega) ht
  have m6 := fun (w : World) (ht : TabN w) => clock_any 1 x2 y2 w (by omega) (by omega) (by omega) (by omega) ht
  rw [clk_said hf rfl et ez ec ex] at m5
  rw [clk_said hf rfl et2 ez2 ec2 ex2] at m6
  have m7 := fun w => cparse_any 1 (clkL 1 V) w
  have erd : prsS 1 (clkL 1 V) = newS V 1000 := clk_read hf v0 v1
  rw [erd, en] at m7
  have m8 := fun w => cmp3_any x y x2 y2 w (by omega) (by omega) (by omega) (by omega)
  have hq := cmp_rel (V := V) (V' := V2) (g := 1000) (by decide) x0 y0 c1 x02 y02 c12 ex ey ex2 ey2
  have hrate : ((∀ w, TabN w → Calls Tryz.prog 15 #[rate n d dr] w fun e w' => e = .returned (.tuple #[.string (bs (rtxS n d dr).1), .int .i64 14]) ∧ Below w.heap.size w w') ∧ (∀ w, Calls Tryz.prog 16 #[rate n d dr] w fun e w' => e = .returned (.int .i64 14) ∧ Below w.heap.size w w')) ∨
      ((∀ w, TabN w → Calls Tryz.prog 15 #[rate n d dr] w fun e w' => e = .returned (.tuple #[.string (bs (rtxS n d dr).1), .int .i64 0]) ∧ Below w.heap.size w w') ∧ (∀ w, Calls Tryz.prog 17 #[.string (bs (rtxS n d dr).1)] w fun e w' => e = .returned (.tuple #[.agg #[.int .i64 n, .int .i64 d, .bool dr], .int .i64 0]) ∧ Below w.heap.size w w')) := by
    have r1 := fun (w : World) (ht : TabN w) => ctext_any n d dr w ht
    have r2 := fun (w : World) => rcheck_any n d dr w
    unfold checkS at r2
    unfold rtxS at r1 ⊢
    by_cases h : okR n d dr = true
    · rw [if_pos h] at r1 ⊢
      have r3 := fun (w : World) => crate_any (rtxL n d dr) (by have := rtxL_len (okR_iff.mp h); omega) w
      rw [rt_read h] at r3
      exact .inr ⟨r1, r3⟩
    · rw [if_neg h] at r1 r2 ⊢
      exact .inl ⟨r1, r2⟩
  rcases Int.lt_trichotomy V V2 with h | h | h
  · have hr := clk_rise hf v0 h u1
    rcases hr with hr | ⟨hr, hb⟩
    · have hs : (bs (clkL 1 V)).size < (bs (clkL 1 V2)).size := by rw [bs_size, bs_size]; exact hr
      exact spk_1 s t n d x y x2 y2 _ _ _ dr _ _ _ (.inr (.inr (.inl ⟨hs, hq.mpr h⟩))) hrate w ht known_any m1 m2 m3 m4 m5 m6 m7 m8
    · have hs : (bs (clkL 1 V)).size = (bs (clkL 1 V2)).size := by rw [bs_size, bs_size]; exact hr
      have hl : Op.bytesLess (bs (clkL 1 V)).toList (bs (clkL 1 V2)).toList = true := by rw [bs_toList, bs_toList]; exact hb
      have hd : ¬ (bs (clkL 1 V)).data = (bs (clkL 1 V2)).data := fun e => by rw [bs_same e, bl_irr] at hb; cases hb
      exact spk_1 s t n d x y x2 y2 _ _ _ dr _ _ _ (.inl ⟨hs, hl, hd, hq.mpr h⟩) hrate w ht known_any m1 m2 m3 m4 m5 m6 m7 m8
  · have hq0 : 0 ≤ cmpS x y x2 y2 := by rcases Int.lt_or_le (cmpS x y x2 y2) 0 with hlt | hle; have := hq.mp hlt; omega; exact hle
    have hs : (bs (clkL 1 V)).size = (bs (clkL 1 V2)).size := by rw [h]
    have hl : Op.bytesLess (bs (clkL 1 V)).toList (bs (clkL 1 V2)).toList = false := by rw [h]; exact bl_irr _
    exact spk_1 s t n d x y x2 y2 _ _ _ dr _ _ _ (.inr (.inl ⟨hs, hl, hq0⟩)) hrate w ht known_any m1 m2 m3 m4 m5 m6 m7 m8
  · have hq0 : 0 ≤ cmpS x y x2 y2 := by rcases Int.lt_or_le (cmpS x y x2 y2) 0 with hlt | hle; have := hq.mp hlt; omega; exact hle
    have hr := clk_rise hf u0 h v1
    rcases hr with hr | ⟨hr, hb⟩
    · have hs : (bs (clkL 1 V2)).size < (bs (clkL 1 V)).size := by rw [bs_size, bs_size]; exact hr
      exact spk_1 s t n d x y x2 y2 _ _ _ dr _ _ _ (.inr (.inr (.inr hs))) hrate w ht known_any m1 m2 m3 m4 m5 m6 m7 m8
    · have hs : (bs (clkL 1 V)).size = (bs (clkL 1 V2)).size := by rw [bs_size, bs_size]; exact hr.symm
      have hl : Op.bytesLess (bs (clkL 1 V)).toList (bs (clkL 1 V2)).toList = false := by rw [bs_toList, bs_toList]; exact bl_asym _ _ hb
      exact spk_1 s t n d x y x2 y2 _ _ _ dr _ _ _ (.inr (.inl ⟨hs, hl, hq0⟩)) hrate w ht known_any m1 m2 m3 m4 m5 m6 m7 m8
theorem spoken_2 (s t n d : Int) (dr : Bool) (w : World) (ht : TabN w) :
    Calls Tryz.prog 4 #[.int .i64 2, .int .i64 s, .int .i64 t, rate n d dr] w fun e w' => e = .returned (.bool true) ∧ Below w.heap.size w w' := by
  have hf : (2 : Int) = 1 ∨ (2 : Int) = 2 ∨ (2 : Int) = 4 := by decide
  have m1 := fun w => within5_any s 360000001 (by decide) (by decide) w
  have m3 := fun w => within5_any t 360000001 (by decide) (by decide) w
  obtain ⟨V, hV⟩ : ∃ V, s % 360000001 = V := ⟨_, rfl⟩
  obtain ⟨V2, hV2⟩ : ∃ V, t % 360000001 = V := ⟨_, rfl⟩
  have v0 : 0 ≤ V := by omega
  have v1 : V ≤ 360000 * 1000 := by omega
  have u0 : 0 ≤ V2 := by omega
  have u1 : V2 ≤ 360000 * 1000 := by omega
  rw [hV] at m1
  rw [hV2] at m3
  obtain ⟨x, y, c, en, et, x0, x1, y0, y1, ez, ec, ex, ey, c1⟩ := new_rel v0 v1 (show (1 : Int) ≤ 1000 by decide) (by decide)
  obtain ⟨x2, y2, c2, en2, et2, x02, x12, y02, y12, ez2, ec2, ex2, ey2, c12⟩ := new_rel u0 u1 (show (1 : Int) ≤ 1000 by decide) (by decide)
  have m2 := fun w => new3_any V 1000 w (by omega) (by omega) (by decide) (by decide)
  have m4 := fun w => new3_any V2 1000 w (by omega) (by omega) (by decide) (by decide)
  rw [en] at m2
  rw [en2] at m4
  have m5 := fun (w : World) (ht : TabN w) => clock_any 2 x y w (by omega) (by omega) (by omega) (by omega) ht
  have m6 := fun (w : World) (ht : TabN w) => clock_any 2 x2 y2 w (by omega) (by omega) (by omega) (by omega) ht
  rw [clk_said hf rfl et ez ec ex] at m5
  rw [clk_said hf rfl et2 ez2 ec2 ex2] at m6
  have m7 := fun w => cparse_any 2 (clkL 2 V) w
  have erd : prsS 2 (clkL 2 V) = newS V 1000 := clk_read hf v0 v1
  rw [erd, en] at m7
  have m8 := fun w => cmp3_any x y x2 y2 w (by omega) (by omega) (by omega) (by omega)
  have hq := cmp_rel (V := V) (V' := V2) (g := 1000) (by decide) x0 y0 c1 x02 y02 c12 ex ey ex2 ey2
  have hrate : ((∀ w, TabN w → Calls Tryz.prog 15 #[rate n d dr] w fun e w' => e = .returned (.tuple #[.string (bs (rtxS n d dr).1), .int .i64 14]) ∧ Below w.heap.size w w') ∧ (∀ w, Calls Tryz.prog 16 #[rate n d dr] w fun e w' => e = .returned (.int .i64 14) ∧ Below w.heap.size w w')) ∨
      ((∀ w, TabN w → Calls Tryz.prog 15 #[rate n d dr] w fun e w' => e = .returned (.tuple #[.string (bs (rtxS n d dr).1), .int .i64 0]) ∧ Below w.heap.size w w') ∧ (∀ w, Calls Tryz.prog 17 #[.string (bs (rtxS n d dr).1)] w fun e w' => e = .returned (.tuple #[.agg #[.int .i64 n, .int .i64 d, .bool dr], .int .i64 0]) ∧ Below w.heap.size w w')) := by
    have r1 := fun (w : World) (ht : TabN w) => ctext_any n d dr w ht
    have r2 := fun (w : World) => rcheck_any n d dr w
    unfold checkS at r2
    unfold rtxS at r1 ⊢
    by_cases h : okR n d dr = true
    · rw [if_pos h] at r1 ⊢
      have r3 := fun (w : World) => crate_any (rtxL n d dr) (by have := rtxL_len (okR_iff.mp h); omega) w
      rw [rt_read h] at r3
      exact .inr ⟨r1, r3⟩
    · rw [if_neg h] at r1 r2 ⊢
      exact .inl ⟨r1, r2⟩
  rcases Int.lt_trichotomy V V2 with h | h | h
  · have hr := clk_rise hf v0 h u1
    rcases hr with hr | ⟨hr, hb⟩
    · have hs : (bs (clkL 2 V)).size < (bs (clkL 2 V2)).size := by rw [bs_size, bs_size]; exact hr
      exact spk_2 s t n d x y x2 y2 _ _ _ dr _ _ _ (.inr (.inr (.inl ⟨hs, hq.mpr h⟩))) hrate w ht known_any m1 m2 m3 m4 m5 m6 m7 m8
    · have hs : (bs (clkL 2 V)).size = (bs (clkL 2 V2)).size := by rw [bs_size, bs_size]; exact hr
      have hl : Op.bytesLess (bs (clkL 2 V)).toList (bs (clkL 2 V2)).toList = true := by rw [bs_toList, bs_toList]; exact hb
      have hd : ¬ (bs (clkL 2 V)).data = (bs (clkL 2 V2)).data := fun e => by rw [bs_same e, bl_irr] at hb; cases hb
      exact spk_2 s t n d x y x2 y2 _ _ _ dr _ _ _ (.inl ⟨hs, hl, hd, hq.mpr h⟩) hrate w ht known_any m1 m2 m3 m4 m5 m6 m7 m8
  · have hq0 : 0 ≤ cmpS x y x2 y2 := by rcases Int.lt_or_le (cmpS x y x2 y2) 0 with hlt | hle; have := hq.mp hlt; omega; exact hle
    have hs : (bs (clkL 2 V)).size = (bs (clkL 2 V2)).size := by rw [h]
    have hl : Op.bytesLess (bs (clkL 2 V)).toList (bs (clkL 2 V2)).toList = false := by rw [h]; exact bl_irr _
    exact spk_2 s t n d x y x2 y2 _ _ _ dr _ _ _ (.inr (.inl ⟨hs, hl, hq0⟩)) hrate w ht known_any m1 m2 m3 m4 m5 m6 m7 m8
  · have hq0 : 0 ≤ cmpS x y x2 y2 := by rcases Int.lt_or_le (cmpS x y x2 y2) 0 with hlt | hle; have := hq.mp hlt; omega; exact hle
    have hr := clk_rise hf u0 h v1
    rcases hr with hr | ⟨hr, hb⟩
    · have hs : (bs (clkL 2 V2)).size < (bs (clkL 2 V)).size := by rw [bs_size, bs_size]; exact hr
      exact spk_2 s t n d x y x2 y2 _ _ _ dr _ _ _ (.inr (.inr (.inr hs))) hrate w ht known_any m1 m2 m3 m4 m5 m6 m7 m8
    · have hs : (bs (clkL 2 V)).size = (bs (clkL 2 V2)).size := by rw [bs_size, bs_size]; exact hr.symm
      have hl : Op.bytesLess (bs (clkL 2 V)).toList (bs (clkL 2 V2)).toList = false := by rw [bs_toList, bs_toList]; exact bl_asym _ _ hb
      exact spk_2 s t n d x y x2 y2 _ _ _ dr _ _ _ (.inr (.inl ⟨hs, hl, hq0⟩)) hrate w ht known_any m1 m2 m3 m4 m5 m6 m7 m8
theorem spoken_4 (s t n d : Int) (dr : Bool) (w : World) (ht : TabN w) :
    Calls Tryz.prog 4 #[.int .i64 4, .int .i64 s, .int .i64 t, rate n d dr] w fun e w' => e = .returned (.bool true) ∧ Below w.heap.size w w' := by
  have hf : (4 : Int) = 1 ∨ (4 : Int) = 2 ∨ (4 : Int) = 4 := by decide
  have m1 := fun w => within5_any s 36000001 (by decide) (by decide) w
  have m3 := fun w => within5_any t 36000001 (by decide) (by decide) w
  obtain ⟨V, hV⟩ : ∃ V, s % 36000001 = V := ⟨_, rfl⟩
  obtain ⟨V2, hV2⟩ : ∃ V, t % 36000001 = V := ⟨_, rfl⟩
  have v0 : 0 ≤ V := by omega
  have v1 : V ≤ 360000 * 100 := by omega
  have u0 : 0 ≤ V2 := by omega
  have u1 : V2 ≤ 360000 * 100 := by omega
  rw [hV] at m1
  rw [hV2] at m3
  obtain ⟨x, y, c, en, et, x0, x1, y0, y1, ez, ec, ex, ey, c1⟩ := new_rel v0 v1 (show (1 : Int) ≤ 100 by decide) (by decide)
  obtain ⟨x2, y2, c2, en2, et2, x02, x12, y02, y12, ez2, ec2, ex2, ey2, c12⟩ := new_rel u0 u1 (show (1 : Int) ≤ 100 by decide) (by decide)
  have m2 := fun w => new3_any V 100 w (by omega) (by omega) (by decide) (by decide)
  have m4 := fun w => new3_any V2 100 w (by omega) (by omega) (by decide) (by decide)
  rw [en] at m2
  rw [en2] at m4
  have m5 := fun (w : World) (ht : TabN w) => clock_any 4 x y w (by omega) (by omega) (by omega) (by omega) ht
  have m6 := fun (w : World) (ht : TabN w) => clock_any 4 x2 y2 w (by omega) (by omega) (by omega) (by omega) ht
  rw [clk_said hf rfl et ez ec ex] at m5
  rw [clk_said hf rfl et2 ez2 ec2 ex2] at m6
  have m7 := fun w => cparse_any 4 (clkL 4 V) w
  have erd : prsS 4 (clkL 4 V) = newS V 100 := clk_read hf v0 v1
  rw [erd, en] at m7
  have m8 := fun w => cmp3_any x y x2 y2 w (by omega) (by omega) (by omega) (by omega)
  have hq := cmp_rel (V := V) (V' := V2) (g := 100) (by decide) x0 y0 c1 x02 y02 c12 ex ey ex2 ey2
  have hrate : ((∀ w, TabN w → Calls Tryz.prog 15 #[rate n d dr] w fun e w' => e = .returned (.tuple #[.string (bs (rtxS n d dr).1), .int .i64 14]) ∧ Below w.heap.size w w') ∧ (∀ w, Calls Tryz.prog 16 #[rate n d dr] w fun e w' => e = .returned (.int .i64 14) ∧ Below w.heap.size w w')) ∨
      ((∀ w, TabN w → Calls Tryz.prog 15 #[rate n d dr] w fun e w' => e = .returned (.tuple #[.string (bs (rtxS n d dr).1), .int .i64 0]) ∧ Below w.heap.size w w') ∧ (∀ w, Calls Tryz.prog 17 #[.string (bs (rtxS n d dr).1)] w fun e w' => e = .returned (.tuple #[.agg #[.int .i64 n, .int .i64 d, .bool dr], .int .i64 0]) ∧ Below w.heap.size w w')) := by
    have r1 := fun (w : World) (ht : TabN w) => ctext_any n d dr w ht
    have r2 := fun (w : World) => rcheck_any n d dr w
    unfold checkS at r2
    unfold rtxS at r1 ⊢
    by_cases h : okR n d dr = true
    · rw [if_pos h] at r1 ⊢
      have r3 := fun (w : World) => crate_any (rtxL n d dr) (by have := rtxL_len (okR_iff.mp h); omega) w
      rw [rt_read h] at r3
      exact .inr ⟨r1, r3⟩
    · rw [if_neg h] at r1 r2 ⊢
      exact .inl ⟨r1, r2⟩
  rcases Int.lt_trichotomy V V2 with h | h | h
  · have hr := clk_rise hf v0 h u1
    rcases hr with hr | ⟨hr, hb⟩
    · have hs : (bs (clkL 4 V)).size < (bs (clkL 4 V2)).size := by rw [bs_size, bs_size]; exact hr
      exact spk_4 s t n d x y x2 y2 _ _ _ dr _ _ _ (.inr (.inr (.inl ⟨hs, hq.mpr h⟩))) hrate w ht known_any m1 m2 m3 m4 m5 m6 m7 m8
    · have hs : (bs (clkL 4 V)).size = (bs (clkL 4 V2)).size := by rw [bs_size, bs_size]; exact hr
      have hl : Op.bytesLess (bs (clkL 4 V)).toList (bs (clkL 4 V2)).toList = true := by rw [bs_toList, bs_toList]; exact hb
      have hd : ¬ (bs (clkL 4 V)).data = (bs (clkL 4 V2)).data := fun e => by rw [bs_same e, bl_irr] at hb; cases hb
      exact spk_4 s t n d x y x2 y2 _ _ _ dr _ _ _ (.inl ⟨hs, hl, hd, hq.mpr h⟩) hrate w ht known_any m1 m2 m3 m4 m5 m6 m7 m8
  · have hq0 : 0 ≤ cmpS x y x2 y2 := by rcases Int.lt_or_le (cmpS x y x2 y2) 0 with hlt | hle; have := hq.mp hlt; omega; exact hle
    have hs : (bs (clkL 4 V)).size = (bs (clkL 4 V2)).size := by rw [h]
    have hl : Op.bytesLess (bs (clkL 4 V)).toList (bs (clkL 4 V2)).toList = false := by rw [h]; exact bl_irr _
    exact spk_4 s t n d x y x2 y2 _ _ _ dr _ _ _ (.inr (.inl ⟨hs, hl, hq0⟩)) hrate w ht known_any m1 m2 m3 m4 m5 m6 m7 m8
  · have hq0 : 0 ≤ cmpS x y x2 y2 := by rcases Int.lt_or_le (cmpS x y x2 y2) 0 with hlt | hle; have := hq.mp hlt; omega; exact hle
    have hr := clk_rise hf u0 h v1
    rcases hr with hr | ⟨hr, hb⟩
    · have hs : (bs (clkL 4 V2)).size < (bs (clkL 4 V)).size := by rw [bs_size, bs_size]; exact hr
      exact spk_4 s t n d x y x2 y2 _ _ _ dr _ _ _ (.inr (.inr (.inr hs))) hrate w ht known_any m1 m2 m3 m4 m5 m6 m7 m8
    · have hs : (bs (clkL 4 V)).size = (bs (clkL 4 V2)).size := by rw [bs_size, bs_size]; exact hr.symm
      have hl : Op.bytesLess (bs (clkL 4 V)).toList (bs (clkL 4 V2)).toList = false := by rw [bs_toList, bs_toList]; exact bl_asym _ _ hb
      exact spk_4 s t n d x y x2 y2 _ _ _ dr _ _ _ (.inr (.inl ⟨hs, hl, hq0⟩)) hrate w ht known_any m1 m2 m3 m4 m5 m6 m7 m8
theorem spoken5_true (f s t : Int) (n d : Int) (dr : Bool) (hf : (Lit.int .i64 f).wf = true) (hs : (Lit.int .i64 s).wf = true) (ht2 : (Lit.int .i64 t).wf = true) (hn : (Lit.int .i64 n).wf = true) (hd : (Lit.int .i64 d).wf = true) (w : World) (ht : TabN w) :
    Calls Tryz.prog 4 #[.int .i64 f, .int .i64 s, .int .i64 t, rate n d dr] w fun e w' => e = .returned (.bool true) ∧ Below w.heap.size w w' := by
  by_cases h1 : f = 1
  · subst h1; exact spoken_1 s t n d dr w ht
  by_cases h2 : f = 2
  · subst h2; exact spoken_2 s t n d dr w ht
  by_cases h4 : f = 4
  · subst h4; exact spoken_4 s t n d dr w ht
  have m1 := fun w => within5_any s 360000001 (by decide) (by decide) w
  have m3 := fun w => within5_any t 360000001 (by decide) (by decide) w
  obtain ⟨V, hV⟩ : ∃ V, s % 360000001 = V := ⟨_, rfl⟩
  obtain ⟨V2, hV2⟩ : ∃ V, t % 360000001 = V := ⟨_, rfl⟩
  have v0 : 0 ≤ V := by omega
  have v1 : V ≤ 360000 * 1000 := by omega
  have u0 : 0 ≤ V2 := by omega
  have u1 : V2 ≤ 360000 * 1000 := by omega
  rw [hV] at m1
  rw [hV2] at m3
  obtain ⟨x, y, c, en, et, x0, x1, y0, y1, ez, ec, ex, ey, c1⟩ := new_rel v0 v1 (show (1 : Int) ≤ 1000 by decide) (by decide)
  obtain ⟨x2, y2, c2, en2, et2, x02, x12, y02, y12, ez2, ec2, ex2, ey2, c12⟩ := new_rel u0 u1 (show (1 : Int) ≤ 1000 by decide) (by decide)
  have m2 := fun w => new3_any V 1000 w (by omega) (by omega) (by decide) (by decide)
  have m4 := fun w => new3_any V2 1000 w (by omega) (by omega) (by decide) (by decide)
  rw [en] at m2
  rw [en2] at m4
  have m5 := fun (w : World) (ht : TabN w) => clock_any f x y w (by omega) (by omega) (by omega) (by omega) ht
  have m6 := fun (w : World) (ht : TabN w) => clock_any f x2 y2 w (by omega) (by omega) (by omega) (by omega) ht
  have e : ∀ x y, clkS f x y = ([], 5) := by intro x y; unfold clkS partsOf; rw [if_neg h1, if_neg h2, if_neg h4, if_pos rfl]
  rw [e] at m5 m6
  exact spk_n f s t n d x y x2 y2 _ _ dr (beq_f h1) (beq_f h2) (beq_f h4) w ht known_any m1 m2 m3 m4 m5 m6
end Go.Proofs.YtghiibdhibcbaaaGreatDoor.PA
