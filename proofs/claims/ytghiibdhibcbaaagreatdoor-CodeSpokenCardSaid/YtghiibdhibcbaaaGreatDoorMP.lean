/- A clock is read as it was written; clocks rise with the times. A rate is read as it was written. How long labels and clocks are. -/
import Derived.Test.YtghiibdhibcbaaaGreatDoorMI
import Derived.Test.YtghiibdhibcbaaaGreatDoorMN
import Derived.Test.YtghiibdhibcbaaaGreatDoorM2
import Derived.Test.YtghiibdhibcbaaaGreatDoorMO
namespace Go.Proofs.YtghiibdhibcbaaaGreatDoor.PA
open Go Go.Proofs.YtghiibdhibcbaaaGreatDoor.CS
set_option linter.unusedSimpArgs false
set_option linter.unusedVariables false
theorem digsH1 {n : Int} (h0 : 0 ≤ n) (h1 : n < 1000) : ∃ k, 1 ≤ k ∧ k ≤ 3 ∧ (k > 1 → (digL n 1).head? ≠ some 48) ∧ Digs (digL n 1) k n := by
  by_cases h : n < 10
  · exact ⟨1, by decide, by decide, fun h => absurd h (by decide), digs1 h0 h⟩
  · by_cases h2 : n < 100
    · have e : digL n 2 = digL n 1 := by rw [digL2 h0 h2, digL12 (by omega) h2]
      refine ⟨2, by decide, by decide, fun _ => ?_, digs_eq e (digs2 h0 h2)⟩
      rw [digL12 (by omega) h2]
      simp only [List.head?_cons, ne_eq, Option.some.injEq]
      intro e
      have := congrArg UInt8.toNat e
      rw [dg_nat] at this
      have h48 : (48 : UInt8).toNat = 48 := rfl
      omega
    · have e : digL n 3 = digL n 1 := by rw [digL3 h0 h1, digL13 (by omega) h1]
      refine ⟨3, by decide, by decide, fun _ => ?_, digs_eq e (digs3 h0 h1)⟩
      rw [digL13 (by omega) h1]
      simp only [List.head?_cons, ne_eq, Option.some.injEq]
      intro e
      have := congrArg UInt8.toNat e
      rw [dg_nat] at this
      have h48 : (48 : UInt8).toNat = 48 := rfl
      omega
theorem tlO_app {pt : UInt8} {size : Nat} {m s k : Int} (m0 : 0 ≤ m) (m1 : m < 60) (s0 : 0 ≤ s) (s1 : s < 60) (dk : Digs (digL k size) size k) :
    tlO pt size (digL m 2 ++ 58 :: (digL s 2 ++ pt :: digL k size)) = some (m, s, k) := by
  unfold tlO
  rw [belO_app (digs2 m0 (by omega)) m1]
  simp only [Option.bind_some]
  rw [byteO_app]
  simp only [Option.bind_some]
  rw [belO_app (digs2 s0 (by omega)) s1]
  simp only [Option.bind_some]
  rw [byteO_app]
  simp only [Option.bind_some]
  have e := digO_app (r := []) dk
  rw [List.append_nil] at e
  rw [e]
  rfl
theorem clO_app {least : Nat} {pt : UInt8} {size : Nat} {h m s k : Int} {j : Nat} (dh : Digs (digL h least) j h) (l1 : 1 ≤ least) (j1 : least ≤ j) (j3 : j ≤ 3) (hh : j > least → (digL h least).head? ≠ some 48)
    (m0 : 0 ≤ m) (m1 : m < 60) (s0 : 0 ≤ s) (s1 : s < 60) (dk : Digs (digL k size) size k) :
    clO least pt size (digL h least ++ 58 :: (digL m 2 ++ 58 :: (digL s 2 ++ pt :: digL k size))) = some (h, m, s, k) := by
  unfold clO
  rw [hcO_app dh j1 j3 hh l1]
  simp only [Option.bind_some]
  rw [tlO_app m0 m1 s0 s1 dk]
  rfl
/-- the parts of a number of a format's parts -/
theorem clk_parts {V G : Int} (g0 : 1 ≤ G) (v0 : 0 ≤ V) (v1 : V ≤ 360000 * G) :
    0 ≤ V / G / 3600 ∧ V / G / 3600 ≤ 100 ∧ 0 ≤ V / G / 60 % 60 ∧ V / G / 60 % 60 < 60 ∧ 0 ≤ V / G % 60 ∧ V / G % 60 < 60 ∧ 0 ≤ V % G ∧ V % G < G ∧ (V / G / 3600 * 3600 + V / G / 60 % 60 * 60 + V / G % 60) * G + V % G = V := by
  have t0 : 0 ≤ V / G := Int.ediv_nonneg v0 (by omega)
  have t1 : V / G ≤ 360000 := Int.le_of_lt_add_one ((Int.ediv_lt_iff_lt_mul (by omega)).mpr (by omega))
  have r0 := Int.emod_nonneg V (show G ≠ 0 by omega)
  have r1 := Int.emod_lt_of_pos V (show 0 < G by omega)
  have e := Int.mul_ediv_add_emod V G
  obtain ⟨T, hT⟩ : ∃ T, V / G = T := ⟨_, rfl⟩
  rw [hT] at t0 t1 e ⊢
  refine ⟨by omega, by omega, by omega, by omega, by omega, by omega, r0, r1, ?_⟩
  rw [show T / 3600 * 3600 + T / 60 % 60 * 60 + T % 60 = T by omega, Int.mul_comm T G]
  exact e
theorem clk_read {f V : Int} (hf : f = 1 ∨ f = 2 ∨ f = 4) (v0 : 0 ≤ V) (v1 : V ≤ 360000 * partsOf f) : prsS f (clkL f V) = newS V (partsOf f) := by
  have g0 : 1 ≤ partsOf f := by rcases hf with rfl | rfl | rfl <;> decide
  obtain ⟨h0, h1, m0, m1, s0, s1, k0, k1, e⟩ := clk_parts g0 v0 v1
  unfold clkL clkT
  obtain ⟨h, eh⟩ : ∃ h, V / partsOf f / 3600 = h := ⟨_, rfl⟩
  obtain ⟨m, em⟩ : ∃ m, V / partsOf f / 60 % 60 = m := ⟨_, rfl⟩
  obtain ⟨s, es⟩ : ∃ s, V / partsOf f % 60 = s := ⟨_, rfl⟩
  obtain ⟨k, ek⟩ : ∃ k, V % partsOf f = k := ⟨_, rfl⟩
  rw [eh, em, es, ek] at e
  rw [eh] at h0 h1
  rw [em] at m0 m1
  rw [es] at s0 s1
  rw [ek] at k0 k1
  rw [eh, em, es, ek]
  have fin : prsV (partsOf f) (some (h, m, s, k)) = newS V (partsOf f) := by
    unfold prsV
    dsimp only
    rw [e, if_pos v1]
  rcases hf with rfl | rfl | rfl
  · obtain ⟨j, hj, dh⟩ := digsH h0 (by omega)
    have c := clO_app (least := 2) (pt := 44) (size := 3) dh (by decide) (by omega) (by omega) (fun hk => by rcases hj with rfl | ⟨_, h⟩; exact absurd hk (by decide); exact h) m0 m1 s0 s1 (digs3 k0 (by have : partsOf 1 = 1000 := rfl; omega))
    unfold prsS
    rw [if_pos rfl]
    show prsV 1000 (clO 2 44 3 (digL h 2 ++ 58 :: (digL m 2 ++ 58 :: (digL s 2 ++ 44 :: digL k 3)))) = _
    rw [c]
    exact fin
  · obtain ⟨j, hj, dh⟩ := digsH h0 (by omega)
    have c := clO_app (least := 2) (pt := 46) (size := 3) dh (by decide) (by omega) (by omega) (fun hk => by rcases hj with rfl | ⟨_, h⟩; exact absurd hk (by decide); exact h) m0 m1 s0 s1 (digs3 k0 (by have : partsOf 2 = 1000 := rfl; omega))
    unfold prsS
    rw [if_neg (by decide), if_pos rfl]
    show prsV 1000 (if (digL h 2 ++ 58 :: (digL m 2 ++ 58 :: (digL s 2 ++ 46 :: digL k 3))).length = 9 then _ else clO 2 46 3 (digL h 2 ++ 58 :: (digL m 2 ++ 58 :: (digL s 2 ++ 46 :: digL k 3)))) = _
    rw [if_neg, c]
    · exact fin
    · have l1 := dh.len
      have l2 := (digs2 m0 (by omega : m < 100)).len
      have l3 := (digs2 s0 (by omega : s < 100)).len
      have l4 := (digs3 k0 (by have : partsOf 2 = 1000 := rfl; omega)).len
      simp only [List.length_append, List.length_cons, l1, l2, l3, l4]
      omega
  · obtain ⟨j, j1, j3, hh, dh⟩ := digsH1 h0 (by omega)
    have c := clO_app (least := 1) (pt := 46) (size := 2) dh (by decide) j1 j3 hh m0 m1 s0 s1 (digs2 k0 (by have : partsOf 4 = 100 := rfl; omega))
    unfold prsS
    rw [if_neg (by decide), if_neg (by decide), if_pos rfl]
    show prsV 100 (clO 1 46 2 (digL h 1 ++ 58 :: (digL m 2 ++ 58 :: (digL s 2 ++ 46 :: digL k 2)))) = _
    rw [c]
    exact fin
theorem before_h1 {a b : Int} (a0 : 0 ≤ a) (h : a < b) (hb : b < 1000) : before (digL a 1) (digL b 1) := by
  by_cases h1 : b < 10
  · right
    rw [digL1 a0 (by omega), digL1 (by omega) h1]
    exact ⟨rfl, bl_cons_lt (dg_lt (by omega)) _ _⟩
  · by_cases h2 : b < 100
    · by_cases h3 : a < 10
      · left; rw [digL1 a0 h3, digL12 (by omega) h2]; show 1 < 2; decide
      · right
        rw [digL12 (by omega) (by omega), digL12 (by omega) h2]
        exact ⟨rfl, bl_two (by omega) (by omega)⟩
    · by_cases h3 : a < 10
      · left; rw [digL1 a0 h3, digL13 (by omega) hb]; show 1 < 3; decide
      · by_cases h4 : a < 100
        · left; rw [digL12 (by omega) h4, digL13 (by omega) hb]; show 2 < 3; decide
        · right
          rw [digL13 (by omega) (by omega), digL13 (by omega) hb]
          exact ⟨rfl, bl_three (by omega) (by omega)⟩
theorem bl_d3 {a b : Int} (a0 : 0 ≤ a) (h : a < b) (hb : b < 1000) : Op.bytesLess (digL a 3) (digL b 3) = true := by
  rw [digL3 a0 (by omega), digL3 (by omega) hb]; exact bl_three (by omega) (by omega)
theorem clkT_before {f h m s k h' m' s' k' : Int} (hf : f = 1 ∨ f = 2 ∨ f = 4) (h0 : 0 ≤ h) (h1 : h' < 1000) (m0 : 0 ≤ m) (m1 : m < 60) (m0' : 0 ≤ m') (m1' : m' < 60) (s0 : 0 ≤ s) (s1 : s < 60) (s0' : 0 ≤ s') (s1' : s' < 60) (k0 : 0 ≤ k) (k1 : k < partsOf f) (k0' : 0 ≤ k') (k1' : k' < partsOf f)
    (hlt : h < h' ∨ (h = h' ∧ (m < m' ∨ (m = m' ∧ (s < s' ∨ (s = s' ∧ k < k')))))) : before (clkT f h m s k) (clkT f h' m' s' k') := by
  have hw : ∀ a b : Int, 0 ≤ a → a < b → b < partsOf f → Op.bytesLess (digL a (widthOf f)) (digL b (widthOf f)) = true := by
    intro a b a0 hab hb
    rcases hf with rfl | rfl | rfl
    · exact bl_d3 a0 hab hb
    · exact bl_d3 a0 hab hb
    · exact bl_d2 a0 hab hb
  have hl : ∀ a : Int, 0 ≤ a → a < partsOf f → (digL a (widthOf f)).length = widthOf f := by
    intro a a0 ha
    rcases hf with rfl | rfl | rfl
    · exact (digs3 a0 ha).len
    · exact (digs3 a0 ha).len
    · exact (digs2 a0 ha).len
  have hh : ∀ a b : Int, 0 ≤ a → a < b → b < 1000 → before (digL a (leastOf f)) (digL b (leastOf f)) := by
    intro a b a0 hab hb
    rcases hf with rfl | rfl | rfl
    · exact before_h a0 hab hb
    · exact before_h a0 hab hb
    · exact before_h1 a0 hab hb
  unfold clkT
  have lm := len2 m0 (by omega)
  have lm' := len2 m0' (by omega)
  have ls := len2 s0 (by omega)
  have ls' := len2 s0' (by omega)
  have lk := hl k k0 k1
  have lk' := hl k' k0' k1'
  rcases hlt with hlt | ⟨rfl, hlt | ⟨rfl, hlt | ⟨rfl, hlt⟩⟩⟩
  · exact before_app (hh _ _ h0 hlt h1) (by simp only [List.length_cons, List.length_append]; omega)
  · exact before_pre _ (before_cons _ (before_app (.inr ⟨by omega, bl_d2 m0 hlt (by omega)⟩) (by simp only [List.length_cons, List.length_append]; omega)))
  · exact before_pre _ (before_cons _ (before_pre _ (before_cons _ (before_app (.inr ⟨by omega, bl_d2 s0 hlt (by omega)⟩) (by simp only [List.length_cons]; omega)))))
  · exact before_pre _ (before_cons _ (before_pre _ (before_cons _ (before_pre _ (before_cons _ (.inr ⟨by omega, hw _ _ k0 hlt k1'⟩))))))
theorem clk_rise {f V V' : Int} (hf : f = 1 ∨ f = 2 ∨ f = 4) (v0 : 0 ≤ V) (h : V < V') (v1 : V' ≤ 360000 * partsOf f) : before (clkL f V) (clkL f V') := by
  have g0 : 1 ≤ partsOf f := by rcases hf with rfl | rfl | rfl <;> decide
  obtain ⟨h0, h1, m0, m1, s0, s1, k0, k1, _⟩ := clk_parts g0 v0 (by omega)
  obtain ⟨h0', h1', m0', m1', s0', s1', k0', k1', _⟩ := clk_parts g0 (by omega) v1
  unfold clkL
  refine clkT_before hf h0 (by omega) m0 m1 m0' m1' s0 s1 s0' s1' k0 k1 k0' k1' ?_
  have e1 := Int.mul_ediv_add_emod V (partsOf f)
  have e2 := Int.mul_ediv_add_emod V' (partsOf f)
  have hle : V / partsOf f ≤ V' / partsOf f := Int.ediv_le_ediv (by omega) (by omega)
  rcases Int.lt_or_eq_of_le hle with hl | hl
  · obtain ⟨T, hT⟩ : ∃ T, V / partsOf f = T := ⟨_, rfl⟩
    obtain ⟨T', hT'⟩ : ∃ T, V' / partsOf f = T := ⟨_, rfl⟩
    rw [hT, hT'] at hl ⊢
    clear e1 e2
    omega
  · rw [hl] at e1 ⊢
    exact .inr ⟨rfl, .inr ⟨rfl, .inr ⟨rfl, by omega⟩⟩⟩
/-- a number of parts as a ratio -/
theorem new_rel {V g : Int} (v0 : 0 ≤ V) (v1 : V ≤ 360000 * g) (g0 : 1 ≤ g) (g1 : g ≤ 1000) :
    ∃ x y c, newS V g = (x, y, 0) ∧ timeS x y = 0 ∧ 0 ≤ x ∧ x ≤ 360000000 ∧ 1 ≤ y ∧ y ≤ g ∧ g % y = 0 ∧ g / y = c ∧ x * c = V ∧ y * c = g ∧ 1 ≤ c := by
  obtain ⟨x, y, e, et, x0, x1, y0, y1⟩ := time_new (V := V) (g := g) v0 (by omega) g0 g1
  rw [if_pos v1] at et
  have e2 := new_pos v0 (by omega) g0 (by omega)
  rw [e] at e2
  simp only [Prod.mk.injEq] at e2
  obtain ⟨ex, ey, _⟩ := e2
  obtain ⟨c, hc⟩ : ∃ c, Nat.gcd V.natAbs g.natAbs = c := ⟨_, rfl⟩
  have hp : 0 < c := by rw [← hc]; exact Nat.gcd_pos_of_pos_right _ (by omega)
  have w1 : (c : Int) ∣ V := by have := Int.natCast_dvd_natCast.mpr (Nat.gcd_dvd_left V.natAbs g.natAbs); rw [hc] at this; rwa [show (V.natAbs : Int) = V by omega] at this
  have w2 : (c : Int) ∣ g := by have := Int.natCast_dvd_natCast.mpr (Nat.gcd_dvd_right V.natAbs g.natAbs); rw [hc] at this; rwa [show (g.natAbs : Int) = g by omega] at this
  rw [hc] at ex ey
  have u1 : x * (c : Int) = V := by rw [ex]; exact Int.ediv_mul_cancel w1
  have u2 : y * (c : Int) = g := by rw [ey]; exact Int.ediv_mul_cancel w2
  refine ⟨x, y, c, e, et, x0, by omega, y0, y1, ?_, ?_, u1, u2, by omega⟩
  · rw [← u2, Int.mul_comm]; exact Int.mul_emod_left _ _
  · rw [← u2]; exact Int.mul_ediv_cancel_left _ (by omega)
theorem cmp_rel {V V' g x y c x' y' c' : Int} (g0 : 1 ≤ g) (x0 : 0 ≤ x) (y0 : 1 ≤ y) (c0 : 1 ≤ c) (x0' : 0 ≤ x') (y0' : 1 ≤ y') (c0' : 1 ≤ c') (u1 : x * c = V) (u2 : y * c = g) (u1' : x' * c' = V') (u2' : y' * c' = g) :
    cmpS x y x' y' < 0 ↔ V < V' := by
  have key : x * y' < x' * y ↔ V < V' := by
    have e1 : (x * y') * (c * c') = V * g := by rw [← u1, ← u2']; grind
    have e2 : (x' * y) * (c * c') = V' * g := by rw [← u1', ← u2]; grind
    have cc : 0 < c * c' := Int.mul_pos (by omega) (by omega)
    constructor
    · intro h
      have := Int.mul_lt_mul_of_pos_right h cc
      rw [e1, e2] at this
      exact Int.lt_of_mul_lt_mul_right this (by omega)
    · intro h
      have := Int.mul_lt_mul_of_pos_right h (show 0 < g by omega)
      rw [← e1, ← e2] at this
      exact Int.lt_of_mul_lt_mul_right this (by omega)
  rw [← key]
  unfold cmpS
  rw [decide_eq_false (show ¬ x < 0 by omega), decide_eq_false (show ¬ x' < 0 by omega), if_pos (by decide), if_neg (by omega)]
  unfold cmpN
  have n1 : ((x.natAbs * y'.natAbs : Nat) : Int) = x * y' := by rw [Int.natCast_mul]; congr 1 <;> omega
  have n2 : ((x'.natAbs * y.natAbs : Nat) : Int) = x' * y := by rw [Int.natCast_mul]; congr 1 <;> omega
  split
  · rename_i h; constructor
    · intro h; omega
    · intro h2; rw [← n1, ← n2] at h2; omega
  · split
    · rename_i h h2; constructor
      · intro _; rw [← n1, ← n2]; omega
      · intro _; omega
    · rename_i h h2; constructor
      · intro h; omega
      · intro h3; rw [← n1, ← n2] at h3; omega
end Go.Proofs.YtghiibdhibcbaaaGreatDoor.PA
namespace Go.Proofs.YtghiibdhibcbaaaGreatDoor.PA
open Go Go.Proofs.YtghiibdhibcbaaaGreatDoor.CS
set_option linter.unusedSimpArgs false
set_option linter.unusedVariables false
theorem vg_val (l : List UInt8) : noD l = false → vg l = (ParD.val l : Int) := by
  refine snoc_ind (P := fun l => noD l = false → vg l = (ParD.val l : Int)) (fun _ => rfl) (fun l c ih h => ?_) l
  rw [noD_snoc, Bool.or_eq_false_iff] at h
  rw [vg_snoc, ParD.val_snoc, ih h.1]
  have hc := h.2
  unfold isD at hc
  simp only [Bool.not_eq_false', Bool.and_eq_true, decide_eq_true_eq] at hc
  omega
theorem who_itoa {n : Int} (h0 : 1 ≤ n) (h1 : n ≤ 999999999) : whoO (Lib.itoa n) = some n := by
  rw [itoa_nat (by omega)]
  have hne := ParD.dec_ne n.toNat
  have hl := ParD.dec_len 8 n.toNat (by omega)
  have hno : noD (Lib.decDigits n.toNat) = false := by
    unfold noD
    rw [List.any_eq_false]
    intro c hc
    have := ParD.dec_dig n.toNat c hc
    unfold ParD.isDig at this
    unfold isD
    simp [this.1, this.2]
  unfold whoO
  rw [if_pos, vg_val _ hno, ParD.val_dec]
  · congr 1; omega
  · refine ⟨?_, by omega, ?_, hno⟩
    · cases h : Lib.decDigits n.toNat with
      | nil => exact absurd h hne
      | cons a l => simp
    · rintro ⟨_, h⟩
      obtain ⟨c, l, e, hc⟩ := ParD.dec_head n.toNat (by omega)
      rw [e] at h
      simp only [List.head?_cons, Option.some.injEq] at h
      exact hc h
theorem rtxL_len {n d : Int} {dr : Bool} (o : Ok n d dr) : 1 ≤ (rtxL n d dr).length ∧ (rtxL n d dr).length ≤ 50 := by
  have n1 := o.n1
  have n2 := o.n2
  have d1 := o.d1
  have d2 := o.d2
  have l1 := itoa_len n (by omega) (by omega)
  have l2 := itoa_len d (by omega) (by omega)
  have l3 := itoa_one n
  rw [bs_size] at l1 l2 l3
  unfold rtxL
  simp only [List.length_append]
  constructor
  · omega
  · split <;> split <;> (simp only [List.length_cons, List.length_nil]; omega)
theorem rt_read {n d : Int} {dr : Bool} (h : okR n d dr = true) : rateS (rtO (rtxL n d dr)) = ((n, d, dr), 0) := by
  have o := okR_iff.mp h
  have n1 := o.n1
  have n2 := o.n2
  have d1 := o.d1
  have d2 := o.d2
  have e : rtO (rtxL n d dr) = some (n, d, dr) := by
    unfold rtxL
    by_cases hd : d = 1
    · subst hd
      rw [if_pos rfl, List.nil_append]
      exact (rt_one (Lib.itoa n) n dr (who_itoa n1 (by omega))).1
    · rw [if_neg hd]
      have := (rt_two (Lib.itoa n) (Lib.itoa d) n d dr (who_itoa n1 (by omega)) (who_itoa d1 (by omega)) hd).1
      rw [List.append_assoc] at this
      exact this
  rw [e]
  unfold rateS
  dsimp only
  rw [if_pos h]
end Go.Proofs.YtghiibdhibcbaaaGreatDoor.PA
namespace Go.Proofs.YtghiibdhibcbaaaGreatDoor.PA
open Go Go.Proofs.YtghiibdhibcbaaaGreatDoor.CS
set_option linter.unusedSimpArgs false
set_option linter.unusedVariables false
end Go.Proofs.YtghiibdhibcbaaaGreatDoor.PA
