/- Chapter 6: what a made map does to a time. -/
import Derived.Test.YthlpaglldhgmfaaPy6
namespace Go.Proofs.Ythlpaglldhgmfaa.PA
open Go
set_option linter.unusedSimpArgs false
set_option linter.unusedVariables false
theorem lastLe_spec (f : Kn → Rt) (t : Rt) : ∀ (l : List Kn) (i a : Nat),
    (lastLe f t l i a = a ∧ ∀ j (h : j < l.length), ¬ rCmp (f l[j]) t ≤ 0) ∨ (∃ j, ∃ h : j < l.length, lastLe f t l i a = i + j ∧ rCmp (f l[j]) t ≤ 0 ∧ ∀ j' (h' : j' < l.length), j < j' → ¬ rCmp (f l[j']) t ≤ 0) := by
  intro l
  induction l with
  | nil => intro i a; exact .inl ⟨rfl, fun j h => absurd h (Nat.not_lt_zero _)⟩
  | cons k l ih =>
    intro i a
    simp only [lastLe]
    rcases ih (i + 1) (if rCmp (f k) t ≤ 0 then i else a) with ⟨h1, h2⟩ | ⟨j, hj, h1, h2, h3⟩
    · by_cases hc : rCmp (f k) t ≤ 0
      · rw [if_pos hc] at h1
        refine .inr ⟨0, by simp, by rw [if_pos hc, h1]; rfl, hc, fun j' h' hlt => ?_⟩
        obtain ⟨j'', rfl⟩ : ∃ x, j' = x + 1 := ⟨j' - 1, by omega⟩
        exact h2 j'' (by simpa using h')
      · rw [if_neg hc] at h1
        refine .inl ⟨by rw [if_neg hc, h1], fun j' h' => ?_⟩
        cases j' with
        | zero => exact hc
        | succ j'' => exact h2 j'' (by simpa using h')
    · refine .inr ⟨j + 1, by simpa using hj, by rw [h1]; omega, h2, fun j' h' hlt => ?_⟩
      obtain ⟨j'', rfl⟩ : ∃ x, j' = x + 1 := ⟨j' - 1, by omega⟩
      exact h3 j'' (by simpa using h') (by omega)
theorem at_spec (m : MapV) (f : Kn → Rt) (t : Rt) (h0 : 0 < m.knots.length) : ∃ h : m.at f t < m.knots.length, (m.at f t = 0 ∨ rCmp (f m.knots[m.at f t]) t ≤ 0) ∧ ∀ j (h' : j < m.knots.length), m.at f t < j → ¬ rCmp (f m.knots[j]) t ≤ 0 := by
  unfold MapV.at
  rcases lastLe_spec f t m.knots 0 0 with ⟨h1, h2⟩ | ⟨j, hj, h1, h2, h3⟩
  · exact ⟨by rw [h1]; exact h0, .inl h1, fun j h' _ => h2 j h'⟩
  · have e : lastLe f t m.knots 0 0 = j := by rw [h1]; omega
    refine ⟨by rw [e]; exact hj, .inr ?_, fun j' h' hlt => h3 j' h' (by omega)⟩
    simp only [e]
    exact h2
theorem rising_lt : ∀ (l : List (Rat × Rat)) (p : Rat × Rat), PL.Rising (p :: l) → ∀ j (h : j < l.length), p.1 < l[j].1 ∧ p.2 < l[j].2 := by
  intro l
  induction l with
  | nil => intro p _ j h; exact absurd h (Nat.not_lt_zero _)
  | cons q l ih =>
    intro p hp j h
    obtain ⟨h1, h2, h3⟩ := hp
    cases j with
    | zero => exact ⟨h1, h2⟩
    | succ j =>
      have := ih q h3 j (by simpa using h)
      simp only [List.getElem_cons_succ]
      exact ⟨by grind, by grind⟩
theorem rising_mono : ∀ (l : List (Rat × Rat)), PL.Rising l → ∀ i j (hi : i < l.length) (hj : j < l.length), i < j → l[i].1 < l[j].1 ∧ l[i].2 < l[j].2 := by
  intro l
  induction l with
  | nil => intro _ i j hi; exact absurd hi (Nat.not_lt_zero _)
  | cons p l ih =>
    intro hp i j hi hj hij
    cases j with
    | zero => exact absurd hij (Nat.not_lt_zero _)
    | succ j =>
      cases i with
      | zero => exact rising_lt l p hp j (by simpa using hj)
      | succ i =>
        refine ih ?_ i j (by simpa using hi) (by simpa using hj) (by omega)
        cases l with
        | nil => trivial
        | cons q l => exact hp.2.2
theorem slF_len : ∀ (l : List (Rat × Rat)) (p : Rat × Rat), (slF p l).length = l.length := by
  intro l
  induction l with
  | nil => intro p; rfl
  | cons q l ih => intro p; simp only [slF, List.length_cons, ih]
theorem evL_idx (t : Rat) : ∀ (l : List (Rat × Rat)) (p q : Rat × Rat) (i : Nat) (hi : i < (p :: q :: l).length), PL.Rising (p :: q :: l) → (i = 0 ∨ (p :: q :: l)[i].1 ≤ t) → (∀ j (hj : j < (p :: q :: l).length), i < j → t < (p :: q :: l)[j].1) →
    PL.evL (p :: q :: l) t = (p :: q :: l)[i].2 + (t - (p :: q :: l)[i].1) * (slF p (q :: l)).getD (min i l.length) 0 := by
  intro l
  induction l with
  | nil =>
    intro p q i hi hr h1 h2
    have hr1 := hr.1
    rcases (by simp at hi; omega : i = 0 ∨ i = 1) with rfl | rfl
    · simp [PL.evL, PL.line, slF, PL.slp]
    · simp only [PL.evL, PL.line, slF, PL.slp, List.getElem_cons_succ, List.getElem_cons_zero, List.length_nil, Nat.min_zero, List.getD_cons_zero]
      have : q.1 - p.1 ≠ 0 := by grind
      grind
  | cons r l ih =>
    intro p q i hi hr h1 h2
    rw [PL.evL_cons]
    cases i with
    | zero =>
      rw [if_pos (show t < q.1 from h2 1 (by simp) (by omega))]
      simp [PL.line, slF, PL.slp]
    | succ i =>
      have hge : ¬ t < q.1 := by
        have hc := h1.resolve_left (by omega)
        simp only [List.getElem_cons_succ] at hc
        cases i with
        | zero => simp only [List.getElem_cons_zero] at hc; grind
        | succ i =>
          have := (rising_lt (r :: l) q hr.2.2 i (by simpa using hi)).1
          simp only [List.getElem_cons_succ] at hc
          grind
      rw [if_neg hge, ih q r i (by simpa using hi) hr.2.2 (.inr (by simpa using h1.resolve_left (by omega))) (fun j hj hlt => by have := h2 (j + 1) (by simpa using hj) (by omega); simpa using this)]
      simp only [List.getElem_cons_succ, slF, List.length_cons]
      rw [show min (i + 1) (l.length + 1) = min i l.length + 1 by omega]
      simp only [List.getD_cons_succ]
theorem getD_map {α β : Type} (f : α → β) (l : List α) (n : Nat) (d : α) : (l.map f).getD n (f d) = f (l.getD n d) := by
  simp [List.getD_eq_getElem?_getD, List.getElem?_map]
theorem MapQ.own {l : List Kn} {m : MapV} (h : MapQ l m) : ∃ p q L, m.knots.map qk = p :: q :: L ∧ slF p (q :: L) = m.slopes.map qr ∧ m.knots.length = L.length + 2 ∧ m.slopes.length = L.length + 1 := by
  obtain ⟨p, q, L, h1, h2⟩ := slF_own h.val
  rw [← h.kn] at h1
  rw [← h.sl] at h2
  refine ⟨p, q, L, h1, h2, ?_, ?_⟩
  · have := congrArg List.length h1; simpa using this
  · have := congrArg List.length h2; rw [slF_len] at this; simp at this; omega
theorem MapQ.rk {l : List Kn} {m : MapV} (h : MapQ l m) : PL.Rising (m.knots.map qk) := by rw [h.kn]; exact (PL.Mp.knots_spec h.val).1
theorem MapQ.app {l : List Kn} {m : MapV} (h : MapQ l m) {t x : Rt} (ha : m.app t = (x, 0)) : rRight t = true ∧ rRight x = true ∧ qr x = (PL.make (l.map qk)).ev (qr t) := by
  obtain ⟨p, q, L, o1, o2, o3, o4⟩ := h.own
  unfold MapV.app at ha
  split at ha
  · rename_i ht
    obtain ⟨a1, a2, a3, a4, a5, a6⟩ := along_ok ha
    refine ⟨ht, a5, ?_⟩
    obtain ⟨hi, s1, s2⟩ := at_spec m (·.1) t (by omega)
    have hrk := h.rk
    rw [← PL.Mp.knots_ev h.val, ← h.kn]
    rw [o1] at hrk ⊢
    have hel : ∀ j (hj : j < m.knots.length), ∃ hj', (p :: q :: L)[j]'hj' = qk m.knots[j] := by
      intro j hj
      have : j < (m.knots.map qk).length := by simpa using hj
      refine ⟨by rw [← o1]; exact this, ?_⟩
      simp only [← o1, List.getElem_map]
    have hm : ∀ j (hj : j < m.knots.length), rRight (m.knots[j]).1 = true := fun j hj => (h.kr _ (List.getElem_mem hj)).1
    obtain ⟨hi', e1⟩ := hel _ hi
    rw [evL_idx (qr t) L p q (m.at (·.1) t) hi' hrk ?_ ?_, e1, a6]
    · have ek : m.knot (m.at (·.1) t) = m.knots[m.at (·.1) t] := by unfold MapV.knot; rw [List.getD_eq_getElem?_getD, List.getElem?_eq_getElem hi]; rfl
      rw [ek, o2]
      have z : (0 : Rat) = qr (0, 0) := by unfold qr qv; rfl
      rw [z, getD_map]
      unfold MapV.slope
      rw [show m.slopes.length - 1 = L.length by omega]
      rfl
    · rcases s1 with s1 | s1
      · exact .inl s1
      · rw [e1]; exact .inr ((rCmp_le (hm _ hi) ht).1 s1)
    · intro j hj hlt
      have hj2 : j < m.knots.length := by rw [o3]; simpa using hj
      obtain ⟨_, e2⟩ := hel j hj2
      rw [e2]
      have := s2 j hj2 hlt
      rw [rCmp_le (hm j hj2) ht] at this
      exact Rat.not_le.1 this
  · cases ha
theorem MapQ.slope_right {l : List Kn} {m : MapV} (h : MapQ l m) (i : Nat) : rRight (m.slope i) = true := by
  obtain ⟨p, q, L, o1, o2, o3, o4⟩ := h.own
  unfold MapV.slope
  have hi : min i (m.slopes.length - 1) < m.slopes.length := by omega
  rw [List.getD_eq_getElem?_getD, List.getElem?_eq_getElem hi]
  exact h.sr _ (List.getElem_mem hi)
theorem MapQ.app_own {l : List Kn} {m : MapV} (h : MapQ l m) {k : Kn} (hk : k ∈ m.knots) : m.app k.1 = (k.2, 0) := by
  obtain ⟨p, q, L, o1, o2, o3, o4⟩ := h.own
  obtain ⟨i, hi, rfl⟩ := List.getElem_of_mem hk
  have hr := h.kr _ hk
  unfold MapV.app
  rw [if_pos hr.1]
  obtain ⟨hj, s1, s2⟩ := at_spec m (·.1) (m.knots[i]).1 (by omega)
  have hm : ∀ j (hj : j < m.knots.length), rRight (m.knots[j]).1 = true := fun j hj => (h.kr _ (List.getElem_mem hj)).1
  have e : m.at (·.1) (m.knots[i]).1 = i := by
    rcases Nat.lt_trichotomy (m.at (·.1) (m.knots[i]).1) i with hlt | heq | hgt
    · have := s2 i hi hlt
      rw [rCmp_le (hm i hi) hr.1] at this
      exact absurd Rat.le_refl this
    · exact heq
    · rcases s1 with s1 | s1
      · omega
      · rw [rCmp_le (hm _ hj) hr.1] at s1
        have := (rising_mono _ h.rk i _ (by simpa using hi) (by simpa using hj) hgt).1
        simp only [List.getElem_map, qk] at this
        exact absurd s1 (Rat.not_le.2 this)
  have ek : m.knot (m.at (·.1) (m.knots[i]).1) = m.knots[i] := by unfold MapV.knot; rw [e, List.getD_eq_getElem?_getD, List.getElem?_eq_getElem hi]; rfl
  rw [ek]
  exact along_self hr.1 hr.2 (h.slope_right _)
theorem MapQ.app_at {l : List Kn} {m : MapV} (h : MapQ l m) {k : Kn} (hk : k ∈ l) {x : Rt} (ha : m.app k.1 = (x, 0)) : x = k.2 := by
  obtain ⟨_, hx, hq⟩ := h.app ha
  have hr := h.lr k hk
  refine qr_inj hx hr.2 ?_
  rw [hq, PL.make_ev h.rs]
  exact PL.evL_at _ h.rs (qk k) (List.mem_map_of_mem hk)
theorem MapQ.app_cmp {l : List Kn} {m : MapV} (h : MapQ l m) {t u x y : Rt} (ha : m.app t = (x, 0)) (hb : m.app u = (y, 0)) : rCmp x y = rCmp t u := by
  obtain ⟨ht, hx, hq⟩ := h.app ha
  obtain ⟨hu, hy, hp⟩ := h.app hb
  rw [rCmp_q hx hy, rCmp_q ht hu, hq, hp]
  rcases (by by_cases c : qr t < qr u; exact .inl c; by_cases d : qr u < qr t; exact .inr (.inr d); exact .inr (.inl (by grind)) : qr t < qr u ∨ qr t = qr u ∨ qr u < qr t) with c | c | c
  · have := PL.Mp.ev_mono h.val c
    rw [if_neg (by grind), if_pos this, if_neg (by grind), if_pos c]
  · rw [if_pos (by rw [c]), if_pos c]
  · have := PL.Mp.ev_mono h.val c
    rw [if_neg (by grind), if_neg (by grind), if_neg (by grind), if_neg (by grind)]
end Go.Proofs.Ythlpaglldhgmfaa.PA
