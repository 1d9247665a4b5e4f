/- CodeRise. -/
import Derived.Test.YtghiibdhibcbaaaDoorLwRis
import Derived.Test.YtghiibdhibcbaaaDoorLabR
namespace Go.Proofs.YtghiibdhibcbaaaDoor.PA
open Go Go.RowKit Go.Proofs.YtghiibdhibcbaaaDoor.CS Go.ChangeShapes Go.WideShapes
set_option linter.unusedVariables false
theorem bl_irr : ∀ a : List UInt8, Op.bytesLess a a = false := by
  intro a
  induction a with
  | nil => rfl
  | cons x a ih => unfold Op.bytesLess; rw [ih]; simp
theorem bl_asym : ∀ a b : List UInt8, Op.bytesLess a b = true → Op.bytesLess b a = false := by
  intro a
  induction a with
  | nil => intro b h; cases b with
    | nil => rfl
    | cons y b => rfl
  | cons x a ih =>
    intro b h
    cases b with
    | nil => exact absurd h (by unfold Op.bytesLess; decide)
    | cons y b =>
      unfold Op.bytesLess at h ⊢
      simp only [Bool.or_eq_true, decide_eq_true_eq, Bool.and_eq_true, beq_iff_eq] at h
      rcases h with h | ⟨rfl, h⟩
      · have h1 : ¬ y < x := by rw [UInt8.lt_iff_toNat_lt] at h ⊢; omega
        have h2 : y ≠ x := by rintro rfl; rw [UInt8.lt_iff_toNat_lt] at h; omega
        simp [h1, h2]
      · simp [ih _ h, UInt8.lt_irrefl]
theorem bl_pre (r s : List UInt8) : ∀ a : List UInt8, Op.bytesLess (a ++ r) (a ++ s) = Op.bytesLess r s := by
  intro a
  induction a with
  | nil => rfl
  | cons x a ih => rw [List.cons_append, List.cons_append, Op.bytesLess, ih]; simp [UInt8.lt_irrefl]
theorem bl_app (r s : List UInt8) : ∀ a b : List UInt8, a.length = b.length → Op.bytesLess a b = true → Op.bytesLess (a ++ r) (b ++ s) = true := by
  intro a
  induction a with
  | nil => intro b hl h; cases b with
    | nil => rw [bl_irr] at h; cases h
    | cons y b => cases hl
  | cons x a ih =>
    intro b hl h
    cases b with
    | nil => cases hl
    | cons y b =>
      rw [List.cons_append, List.cons_append, Op.bytesLess]
      unfold Op.bytesLess at h
      simp only [Bool.or_eq_true, decide_eq_true_eq, Bool.and_eq_true, beq_iff_eq] at h ⊢
      rcases h with h | ⟨rfl, h⟩
      · exact .inl h
      · exact .inr ⟨rfl, ih b (by simpa using hl) h⟩
theorem dg_lt {a b : Nat} (h : a % 10 < b % 10) : dg a < dg b := by rw [UInt8.lt_iff_toNat_lt, dg_nat, dg_nat]; omega
theorem dg_mod {a b : Nat} (h : a % 10 = b % 10) : dg a = dg b := by unfold dg; rw [h]
theorem bl_cons_lt {a b : UInt8} (h : a < b) (r s : List UInt8) : Op.bytesLess (a :: r) (b :: s) = true := by unfold Op.bytesLess; simp [h]
theorem bl_cons_eq (a : UInt8) (r s : List UInt8) : Op.bytesLess (a :: r) (a :: s) = Op.bytesLess r s := bl_pre r s [a]
theorem bl_two {u v : Nat} (h : u < v) (hv : v < 100) : Op.bytesLess [dg (u / 10), dg u] [dg (v / 10), dg v] = true := by
  rcases Nat.lt_or_ge (u / 10) (v / 10) with h1 | h1
  · exact bl_cons_lt (dg_lt (by omega)) _ _
  · rw [dg_mod (a := u / 10) (b := v / 10) (by omega), bl_cons_eq]
    exact bl_cons_lt (dg_lt (by omega)) _ _
theorem bl_three {u v : Nat} (h : u < v) (hv : v < 1000) : Op.bytesLess [dg (u / 100), dg (u / 10), dg u] [dg (v / 100), dg (v / 10), dg v] = true := by
  rcases Nat.lt_or_ge (u / 100) (v / 100) with h1 | h1
  · exact bl_cons_lt (dg_lt (by omega)) _ _
  · rw [dg_mod (a := u / 100) (b := v / 100) (by omega), bl_cons_eq]
    rcases Nat.lt_or_ge (u / 10) (v / 10) with h2 | h2
    · exact bl_cons_lt (dg_lt (by omega)) _ _
    · rw [dg_mod (a := u / 10) (b := v / 10) (by omega), bl_cons_eq]
      exact bl_cons_lt (dg_lt (by omega)) _ _
/-- digits of the same width rise with the numbers -/
theorem bl_d2 {a b : Int} (a0 : 0 ≤ a) (h : a < b) (hb : b < 100) : Op.bytesLess (digL a 2) (digL b 2) = true := by
  rw [digL2 a0 (by omega), digL2 (by omega) hb]; exact bl_two (by omega) (by omega)
theorem bl_dw {a b f : Int} (a0 : 0 ≤ a) (h : a < b) (hb : b < f) (hf : f ≤ 240) : Op.bytesLess (digL a (wide f)) (digL b (wide f)) = true := by
  unfold wide
  by_cases hw : f > 100
  · rw [if_pos hw, digL3 a0 (by omega), digL3 (by omega) (by omega)]; exact bl_three (by omega) (by omega)
  · rw [if_neg hw]; exact bl_d2 a0 h (by omega)
theorem len2 {a : Int} (h0 : 0 ≤ a) (h1 : a < 100) : (digL a 2).length = 2 := (digs2 h0 h1).len
/-- two labels: the same width, rising; or the shorter one ahead -/
def before (a b : List UInt8) : Prop := a.length < b.length ∨ (a.length = b.length ∧ Op.bytesLess a b = true)
theorem before_app {a b r s : List UInt8} (h : before a b) (hl : r.length = s.length) : before (a ++ r) (b ++ s) := by
  rcases h with h | ⟨h1, h2⟩
  · left; rw [List.length_append, List.length_append]; omega
  · right; exact ⟨by rw [List.length_append, List.length_append]; omega, bl_app _ _ _ _ h1 h2⟩
theorem before_pre {r s : List UInt8} (a : List UInt8) (h : before r s) : before (a ++ r) (a ++ s) := by
  rcases h with h | ⟨h1, h2⟩
  · left; rw [List.length_append, List.length_append]; omega
  · right; exact ⟨by rw [List.length_append, List.length_append]; omega, by rw [bl_pre]; exact h2⟩
theorem before_cons {r s : List UInt8} (a : UInt8) (h : before r s) : before (a :: r) (a :: s) := before_pre [a] h
theorem before_h {a b : Int} (a0 : 0 ≤ a) (h : a < b) (hb : b < 1000) : before (digL a 2) (digL b 2) := by
  by_cases h1 : b < 100
  · right; exact ⟨by rw [len2 a0 (by omega), len2 (by omega) h1], bl_d2 a0 h h1⟩
  · by_cases h2 : a < 100
    · left; rw [len2 a0 h2, digL23 (by omega) hb]; show 2 < 3; decide
    · right
      rw [digL23 (by omega) (by omega), digL23 (by omega) hb]
      exact ⟨rfl, bl_three (by omega) (by omega)⟩
theorem lenw {a f : Int} (h0 : 0 ≤ a) (h1 : a < f) (hf : f ≤ 240) : (digL a (wide f)).length = wide f := by
  unfold wide
  by_cases hw : f > 100
  · rw [if_pos hw]; exact (digs3 h0 (by omega)).len
  · rw [if_neg hw]; exact (digs2 h0 (by omega)).len
theorem labT_before {dr : Bool} {f h m s k h' m' s' k' : Int} (f1 : f ≤ 240) (h0 : 0 ≤ h) (h1 : h' < 1000) (m0 : 0 ≤ m) (m1 : m < 60) (m0' : 0 ≤ m') (m1' : m' < 60) (s0 : 0 ≤ s) (s1 : s < 60) (s0' : 0 ≤ s') (s1' : s' < 60) (k0 : 0 ≤ k) (k1 : k < f) (k0' : 0 ≤ k') (k1' : k' < f)
    (hlt : h < h' ∨ (h = h' ∧ (m < m' ∨ (m = m' ∧ (s < s' ∨ (s = s' ∧ k < k')))))) : before (labT dr h m s k (wide f)) (labT dr h' m' s' k' (wide f)) := by
  unfold labT
  have lm := len2 m0 (by omega)
  have lm' := len2 m0' (by omega)
  have ls := len2 s0 (by omega)
  have ls' := len2 s0' (by omega)
  have lk := lenw k0 k1 f1
  have lk' := lenw k0' k1' f1
  rcases hlt with hlt | ⟨rfl, hlt | ⟨rfl, hlt | ⟨rfl, hlt⟩⟩⟩
  · exact before_app (before_h h0 hlt h1) (by simp only [List.length_cons, List.length_append]; omega)
  · exact before_pre _ (before_cons _ (before_app (.inr ⟨by omega, bl_d2 m0 hlt (by omega)⟩) (by simp only [List.length_cons, List.length_append]; omega)))
  · exact before_pre _ (before_cons _ (before_pre _ (before_cons _ (before_app (.inr ⟨by omega, bl_d2 s0 hlt (by omega)⟩) (by simp only [List.length_cons]; omega)))))
  · exact before_pre _ (before_cons _ (before_pre _ (before_cons _ (before_pre _ (before_cons _ (.inr ⟨by omega, bl_dw k0 hlt k1' f1⟩))))))
/-- the numbers that are said rise with the frames -/
theorem num_rise {G D M K M' K' p q : Int} (g0 : 60 ≤ G) (D0 : 0 ≤ D) (D1 : D ≤ 4) (k0 : 0 ≤ K) (kg : K < G) (k0' : 0 ≤ K') (kg' : K' < G) (hk : M % 10 ≠ 0 → D ≤ K)
    (hp : p = G * M + K - D * (M - M / 10)) (hq : q = G * M' + K' - D * (M' - M' / 10)) (hpq : p < q) : M < M' ∨ (M = M' ∧ K < K') := by
  rcases Int.lt_trichotomy M M' with h | rfl | h
  · exact .inl h
  · right; exact ⟨rfl, by omega⟩
  · exfalso
    obtain ⟨t, ht⟩ : ∃ t, M - M' = t := ⟨_, rfl⟩
    obtain ⟨x, hx⟩ : ∃ x, (M - M / 10) - (M' - M' / 10) = x := ⟨_, rfl⟩
    have e1 : G * M = G * M' + G * t := by rw [← ht]; grind
    have e2 : D * (M - M / 10) = D * (M' - M' / 10) + D * x := by rw [← hx]; grind
    rcases (by omega : t = 1 ∨ 2 ≤ t) with h1 | h1
    · rw [h1, Int.mul_one] at e1
      rcases (by omega : x = 0 ∨ (x = 1 ∧ M % 10 ≠ 0)) with rfl | ⟨rfl, h2⟩
      · omega
      · have := hk h2; omega
    · have y1 : D * x ≤ 4 * t := Int.mul_le_mul D1 (by omega) (by omega) (by omega)
      have y2 : 60 * (t - 1) ≤ G * (t - 1) := Int.mul_le_mul_of_nonneg_right g0 (by omega)
      have y3 : G * (t - 1) = G * t - G := by grind
      omega
theorem minutes_few {n d fr M K : Int} {dr : Bool} (h : okR n d dr = true) (hf : inF n d fr = true) (e1 : num n d dr fr = 60 * full n d * M + K) (k0 : 0 ≤ K) (e2 : fr = num n d dr fr - drop n d dr * (M - M / 10)) : M ≤ 59999 := by
  have o := okR_iff.mp h
  obtain ⟨b0, b1, b2, b3, b4⟩ := fr_le o hf
  obtain ⟨f0, f1⟩ := full_le o
  rcases Int.lt_or_le M 60000 with hl | hl
  · omega
  · exfalso
    have hl2 := (last_le o).2.1
    have h60 : 60 * full n d * 60000 ≤ 60 * full n d * M := Int.mul_le_mul_of_nonneg_left hl (by omega)
    have hfu : n ≤ full n d * d := by
      have := Int.lt_ediv_add_one_mul_self (n + d - 1) (show 0 < d by have := o.d1; omega)
      unfold full
      have h3 : ((n + d - 1) / d + 1) * d = (n + d - 1) / d * d + d := by grind
      omega
    have hd1 := o.d1
    rcases o.kinds with ⟨rfl, hd⟩ | ⟨rfl, rfl, rfl, hd, hF⟩ | ⟨rfl, rfl, rfl, hd, hF⟩
    · rw [num_false] at e1
      have h5 : (3600000 * full n d) * d ≤ fr * d := Int.mul_le_mul_of_nonneg_right (by omega) (by omega)
      have h6 : (3600000 * full n d) * d = 3600000 * (full n d * d) := by grind
      have n1 := o.n1
      omega
    · rw [hF] at h60 e1; rw [hd] at e2; have := (inF_iff.mp hf).2; rw [last_30] at this; omega
    · rw [hF] at h60 e1; rw [hd] at e2; have := (inF_iff.mp hf).2; rw [last_60] at this; omega
theorem lab_rise {n d p q : Int} {dr : Bool} (h : okR n d dr = true) (hp : inF n d p = true) (hq : inF n d q = true) (hpq : p < q) : before (labL n d dr p) (labL n d dr q) := by
  have o := okR_iff.mp h
  obtain ⟨f0, f1⟩ := full_le o
  obtain ⟨D0, D1⟩ := @drop_le n d dr
  have bp := (fr_le o hp).1
  have bq := (fr_le o hq).1
  obtain ⟨M, K, e1, k0, k1, M0, e2, e3⟩ := num_read o bp
  obtain ⟨M', K', e1', k0', k1', M0', e2', e3'⟩ := num_read o bq
  have hM := minutes_few h hq e1' k0' e2'
  rw [labL_parts o e1 k0 k1, labL_parts o e1' k0' k1']
  rw [e1] at e2
  rw [e1'] at e2'
  have hr := num_rise (G := 60 * full n d) (by omega) D0 D1 k0 k1 k0' k1' e3 e2 e2' hpq
  obtain ⟨F, hF⟩ : ∃ F, full n d = F := ⟨_, rfl⟩
  rw [hF] at f0 f1 k1 k1' ⊢
  have a0 : 0 ≤ K / F := Int.ediv_nonneg k0 (by omega)
  have a1 : K / F < 60 := (Int.ediv_lt_iff_lt_mul (by omega)).mpr k1
  have b0 : 0 ≤ K' / F := Int.ediv_nonneg k0' (by omega)
  have b1 : K' / F < 60 := (Int.ediv_lt_iff_lt_mul (by omega)).mpr k1'
  have c0 := Int.emod_nonneg K (show F ≠ 0 by omega)
  have c1 := Int.emod_lt_of_pos K (show 0 < F by omega)
  have d0 := Int.emod_nonneg K' (show F ≠ 0 by omega)
  have d1 := Int.emod_lt_of_pos K' (show 0 < F by omega)
  have hm1 := Int.mul_ediv_add_emod K F
  have hm2 := Int.mul_ediv_add_emod K' F
  refine labT_before f1 (by omega) (by omega) (by omega) (by omega) (by omega) (by omega) a0 a1 b0 b1 c0 c1 d0 d1 ?_
  rcases hr with hr | ⟨rfl, hr⟩
  · rcases (by omega : M / 60 < M' / 60 ∨ (M / 60 = M' / 60 ∧ M % 60 < M' % 60)) with h1 | ⟨h1, h2⟩
    · exact .inl h1
    · exact .inr ⟨h1, .inl h2⟩
  · refine .inr ⟨rfl, .inr ⟨rfl, ?_⟩⟩
    have hle : K / F ≤ K' / F := Int.ediv_le_ediv (by omega) (by omega)
    rcases Int.lt_or_eq_of_le hle with h1 | h1
    · exact .inl h1
    · exact .inr ⟨h1, by rw [h1] at hm1; omega⟩
theorem bs_same {a b : List UInt8} (h : (bs a).data = (bs b).data) : a = b := by unfold bs at h; simpa using h
theorem rise5_true (n d : Int) (dr : Bool) (p q : Int) (hn : (Lit.int .i64 n).wf = true) (hd : (Lit.int .i64 d).wf = true) (hv : (Lit.int .i64 p).wf = true) (hv2 : (Lit.int .i64 q).wf = true) (w : World) (ht : TabN w) :
    Calls Tryd.prog 7 #[rate n d dr, .int .i64 p, .int .i64 q] w fun e w' => e = .returned (.bool true) ∧ Below w.heap.size w w' := by
  have m1 := rcheck_any n d dr
  unfold checkS at m1
  by_cases h : okR n d dr = true
  · rw [if_pos h] at m1
    have m2 := label_any n d p dr
    have m3 := label_any n d q dr
    unfold lblS at m2 m3
    rw [if_pos h] at m2 m3
    by_cases hp : inF n d p = true
    · rw [if_pos hp] at m2
      by_cases hq : inF n d q = true
      · rw [if_pos hq] at m3
        have key : ∀ {a b : Int}, inF n d a = true → inF n d b = true → a < b → ((bs (labL n d dr a)).size < (bs (labL n d dr b)).size) ∨ ((bs (labL n d dr a)).size = (bs (labL n d dr b)).size ∧ Op.bytesLess (bs (labL n d dr a)).toList (bs (labL n d dr b)).toList = true ∧ ¬ (bs (labL n d dr a)).data = (bs (labL n d dr b)).data) := by
          intro a b ha hb hab
          rw [bs_size, bs_size, bs_toList, bs_toList]
          rcases lab_rise h ha hb hab with hh | ⟨h1, h2⟩
          · exact .inl hh
          · right
            refine ⟨h1, h2, fun e => ?_⟩
            rw [bs_same e, bl_irr] at h2
            cases h2
        rcases Int.lt_trichotomy p q with hpq | rfl | hpq
        · have hne : (p == q) = false := by simp; omega
          rcases key hp hq hpq with h1 | ⟨h1, h2, h3⟩
          · exact rise_len_lt n d p q 0 0 dr _ _ hne hpq h1 w ht known_any m1 m2 m3
          · exact rise_lt n d p q 0 0 dr _ _ hne hpq h1 h2 h3 w ht known_any m1 m2 m3
        · exact rise_eq n d p 0 0 dr _ w ht known_any m1 m2 m2
        · have hne : (p == q) = false := by simp; omega
          rcases key hq hp hpq with h1 | ⟨h1, h2, h3⟩
          · exact rise_len_gt n d p q 0 0 dr _ _ hne hpq h1 w ht known_any m1 m2 m3
          · exact rise_gt n d p q 0 0 dr _ _ hne hpq h1.symm (bl_asym _ _ h2) (fun e => h3 e.symm) w ht known_any m1 m2 m3
      · rw [if_neg hq] at m3
        exact rise_f n d p q 0 31 dr _ _ (by decide) w ht known_any m1 m2 m3
    · rw [if_neg hp] at m2
      by_cases hq : inF n d q = true
      · rw [if_pos hq] at m3
        exact rise_e n d p q 31 0 dr _ _ (by decide) w ht known_any m1 m2 m3
      · rw [if_neg hq] at m3
        exact rise_e n d p q 31 31 dr _ _ (by decide) w ht known_any m1 m2 m3
  · rw [if_neg h] at m1
    exact rise_no n d p q 14 dr (by decide) w ht known_any m1
end Go.Proofs.YtghiibdhibcbaaaDoor.PA
