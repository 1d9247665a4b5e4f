/- Chapter 6 in plain numbers: maps through knots over the rationals. -/
import Derived.Test.YthlpaglldhgmfaaK6a
namespace Go.Proofs.Ythlpaglldhgmfaa.PL
set_option linter.unusedVariables false
set_option linter.unusedSimpArgs false
/-- bends: where, and the slope behind. -/
def ev (s c : Rat) : List (Rat × Rat) → Rat → Rat
  | [], t => c + s * t
  | (x, s') :: l, t => if t < x then c + s * t else ev s' (c + (s - s') * x) l t

/-- rising, each slope another one than that ahead -/
def Proper (a : Rat) (s : Rat) : List (Rat × Rat) → Prop
  | [] => True
  | (x, s') :: l => a < x ∧ s' ≠ s ∧ Proper x s' l

theorem ev_line {s c a : Rat} {l : List (Rat × Rat)} (h : Proper a s l) : ∃ d, 0 < d ∧ ∀ t, t < a + d → ev s c l t = c + s * t := by
  cases l with
  | nil => exact ⟨1, by grind, fun t _ => rfl⟩
  | cons p l =>
    obtain ⟨x, s'⟩ := p
    refine ⟨x - a, by have := h.1; grind, fun t ht => ?_⟩
    simp only [ev]
    rw [if_pos (by grind)]

theorem line_eq {s c s' c' a d : Rat} (hd : 0 < d) (h : ∀ t, a ≤ t → t < a + d → c + s * t = c' + s' * t) : s = s' ∧ c = c' := by
  have h1 := h a (by grind) (by grind)
  have h2 := h (a + d / 2) (by grind) (by grind)
  have h3 : (s - s') * d = 0 := by grind
  have : s = s' := by
    rcases Rat.mul_eq_zero.mp h3 with h | h <;> grind
  subst this
  exact ⟨rfl, by grind⟩

theorem ev_unique (l : List (Rat × Rat)) : ∀ (l' : List (Rat × Rat)) (a s c s' c' : Rat), Proper a s l → Proper a s' l' →
    (∀ t, a ≤ t → ev s c l t = ev s' c' l' t) → s = s' ∧ c = c' ∧ l = l' := by
  induction l with
  | nil =>
    intro l' a s c s' c' hp hp' h
    obtain ⟨d, hd, h1⟩ := ev_line (c := c') hp'
    obtain ⟨rfl, rfl⟩ := line_eq (a := a) (s := s) (c := c) (s' := s') (c' := c') hd (fun t ha ht => by rw [← h1 t ht, ← h t ha]; rfl)
    refine ⟨rfl, rfl, ?_⟩
    cases l' with
    | nil => rfl
    | cons p l' =>
      exfalso
      obtain ⟨x, s''⟩ := p
      obtain ⟨h2, h3, h4⟩ := hp'
      obtain ⟨d', hd', h5⟩ := ev_line (c := c + (s - s'') * x) h4
      have := line_eq (a := x) (s := s) (c := c) (s' := s'') (c' := c + (s - s'') * x) hd' (fun t ha ht => by
        rw [← h5 t ht]
        have := h t (by grind)
        simp only [ev] at this
        rw [if_neg (by grind)] at this
        exact this)
      grind
  | cons p l ih =>
    intro l' a s c s' c' hp hp' h
    obtain ⟨d1, hd1, h1⟩ := ev_line (c := c) hp
    obtain ⟨d2, hd2, h2⟩ := ev_line (c := c') hp'
    have hlt : ∃ d, 0 < d ∧ d ≤ d1 ∧ d ≤ d2 := by
      by_cases e : d1 ≤ d2
      · exact ⟨d1, hd1, by grind, e⟩
      · exact ⟨d2, hd2, by grind, by grind⟩
    obtain ⟨d, hd, hda, hdb⟩ := hlt
    obtain ⟨rfl, rfl⟩ := line_eq (a := a) (s := s) (c := c) (s' := s') (c' := c') hd (fun t ha ht => by rw [← h2 t (by grind), ← h1 t (by grind)]; exact h t ha)
    refine ⟨rfl, rfl, ?_⟩
    obtain ⟨x, s1⟩ := p
    obtain ⟨hx, hs1, hl⟩ := hp
    obtain ⟨e1, he1, h3⟩ := ev_line (c := c + (s - s1) * x) hl
    cases l' with
    | nil =>
      exfalso
      have := line_eq (a := x) (s := s1) (c := c + (s - s1) * x) (s' := s) (c' := c) he1 (fun t ha ht => by
        rw [← h3 t ht]
        have := h t (by grind)
        simp only [ev] at this
        rw [if_neg (by grind)] at this
        exact this)
      grind
    | cons p' l' =>
      obtain ⟨x', s1'⟩ := p'
      obtain ⟨hx', hs1', hl'⟩ := hp'
      obtain ⟨e2, he2, h4⟩ := ev_line (c := c + (s - s1') * x') hl'
      have hxx : x = x' := by
        apply Classical.byContradiction
        intro hne
        rcases (show x < x' ∨ x' < x by grind) with hlt | hlt
        · have hm : ∃ d, 0 < d ∧ d ≤ e1 ∧ d ≤ x' - x := by
            by_cases e : e1 ≤ x' - x
            · exact ⟨e1, he1, by grind, e⟩
            · exact ⟨x' - x, by grind, by grind, by grind⟩
          obtain ⟨d, hd, hda, hdb⟩ := hm
          have := line_eq (a := x) (s := s1) (c := c + (s - s1) * x) (s' := s) (c' := c) hd (fun t ha ht => by
            rw [← h3 t (by grind)]
            have := h t (by grind)
            simp only [ev] at this
            rw [if_neg (by grind), if_pos (by grind)] at this
            exact this)
          grind
        · have hm : ∃ d, 0 < d ∧ d ≤ e2 ∧ d ≤ x - x' := by
            by_cases e : e2 ≤ x - x'
            · exact ⟨e2, he2, by grind, e⟩
            · exact ⟨x - x', by grind, by grind, by grind⟩
          obtain ⟨d, hd, hda, hdb⟩ := hm
          have := line_eq (a := x') (s := s1') (c := c + (s - s1') * x') (s' := s) (c' := c) hd (fun t ha ht => by
            rw [← h4 t (by grind)]
            have := h t (by grind)
            simp only [ev] at this
            rw [if_pos (by grind), if_neg (by grind)] at this
            exact this.symm)
          grind
      subst hxx
      obtain ⟨rfl, _, rfl⟩ := ih l' x s1 (c + (s - s1) * x) s1' (c + (s - s1') * x) hl hl' (fun t ht => by
        have := h t (by grind)
        simp only [ev] at this
        rw [if_neg (by grind), if_neg (by grind)] at this
        exact this)
      rfl
/-- the line through two points -/
def line (p q : Rat × Rat) (t : Rat) : Rat := p.2 + (t - p.1) * ((q.2 - p.2) / (q.1 - p.1))

/-- straight between neighbours, straight on outside -/
def evL : List (Rat × Rat) → Rat → Rat
  | [], t => t
  | [p], t => p.2 + (t - p.1)
  | [p, q], t => line p q t
  | p :: q :: r :: l, t => if t < q.1 then line p q t else evL (q :: r :: l) t

def Rising : List (Rat × Rat) → Prop
  | [] => True
  | [_] => True
  | p :: q :: l => p.1 < q.1 ∧ p.2 < q.2 ∧ Rising (q :: l)

theorem line_left {p q : Rat × Rat} : line p q p.1 = p.2 := by simp only [line]; grind
theorem line_right {p q : Rat × Rat} (h : p.1 < q.1) : line p q q.1 = q.2 := by
  simp only [line]
  have : q.1 - p.1 ≠ 0 := by grind
  grind
theorem div_pos' {a b : Rat} (ha : 0 < a) (hb : 0 < b) : 0 < a / b := by
  rw [Rat.div_def]; exact Rat.mul_pos ha (Rat.inv_pos.mpr hb)
theorem line_mono {p q : Rat × Rat} (h1 : p.1 < q.1) (h2 : p.2 < q.2) {t u : Rat} (h : t < u) : line p q t < line p q u := by
  simp only [line]
  have hs := div_pos' (a := q.2 - p.2) (b := q.1 - p.1) (by grind) (by grind)
  have := Rat.mul_pos hs (show 0 < u - t by grind)
  grind

theorem evL_cons {p q r : Rat × Rat} {l : List (Rat × Rat)} {t : Rat} : evL (p :: q :: r :: l) t = if t < q.1 then line p q t else evL (q :: r :: l) t := rfl

theorem evL_head (p : Rat × Rat) (l : List (Rat × Rat)) (h : Rising (p :: l)) : evL (p :: l) p.1 = p.2 := by
  cases l with
  | nil => simp only [evL]; grind
  | cons q l =>
    cases l with
    | nil => simp only [evL]; exact line_left
    | cons r l => rw [evL_cons, if_pos h.1]; exact line_left

/-- it goes through its points -/
theorem evL_at (l : List (Rat × Rat)) : ∀ (_ : Rising l) (k : Rat × Rat), k ∈ l → evL l k.1 = k.2 := by
  induction l with
  | nil => intro _ k hk; cases hk
  | cons p l ih =>
    intro h k hk
    rcases List.mem_cons.mp hk with rfl | hk
    · exact evL_head _ _ h
    · cases l with
      | nil => cases hk
      | cons q l =>
        cases l with
        | nil =>
          have : k = q := by simpa using hk
          subst this
          simp only [evL]; exact line_right h.1
        | cons r l =>
          rw [evL_cons]
          have hge : ∀ (l : List (Rat × Rat)) (q : Rat × Rat), Rising (q :: l) → ∀ k ∈ q :: l, q.1 ≤ k.1 := by
            intro l
            induction l with
            | nil => intro q _ k hk; have : k = q := by simpa using hk
                     subst this; grind
            | cons r l ih2 =>
              intro q hq k hk
              rcases List.mem_cons.mp hk with rfl | hk
              · grind
              · have := ih2 r hq.2.2 k hk; have := hq.1; grind
          rw [if_neg (by have := hge _ _ h.2.2 k hk; grind)]
          exact ih h.2.2 k hk

theorem evL_lt_head (p : Rat × Rat) (l : List (Rat × Rat)) (h : Rising (p :: l)) (t : Rat) (ht : t < p.1) : evL (p :: l) t < p.2 := by
  cases l with
  | nil => simp only [evL]; grind
  | cons q l =>
    have hl : line p q t < p.2 := by have := line_mono h.1 h.2.1 ht; rw [line_left] at this; exact this
    cases l with
    | nil => exact hl
    | cons r l => rw [evL_cons, if_pos (by have := h.1; grind)]; exact hl

theorem evL_ge_head (p : Rat × Rat) (l : List (Rat × Rat)) : ∀ (_ : Rising (p :: l)) (t : Rat) (_ : p.1 ≤ t), p.2 ≤ evL (p :: l) t := by
  induction l generalizing p with
  | nil => intro _ t ht; simp only [evL]; grind
  | cons q l ih =>
    intro h t ht
    have hl : p.2 ≤ line p q t := by
      by_cases e : t = p.1
      · subst e; rw [line_left]; grind
      · have := line_mono h.1 h.2.1 (show p.1 < t by grind); rw [line_left] at this; grind
    cases l with
    | nil => exact hl
    | cons r l =>
      rw [evL_cons]
      split
      · exact hl
      · have := ih q h.2.2 t (by grind); have := h.2.1; grind

theorem evL_mono (l : List (Rat × Rat)) : ∀ (_ : Rising l) (t u : Rat), t < u → evL l t < evL l u := by
  induction l with
  | nil => intro _ t u h; exact h
  | cons p l ih =>
    intro h t u htu
    cases l with
    | nil => simp only [evL]; grind
    | cons q l =>
      cases l with
      | nil => exact line_mono h.1 h.2.1 htu
      | cons r l =>
        rw [evL_cons, evL_cons]
        by_cases h1 : t < q.1
        · by_cases h2 : u < q.1
          · rw [if_pos h1, if_pos h2]; exact line_mono h.1 h.2.1 htu
          · rw [if_pos h1, if_neg h2]
            have a := line_mono h.1 h.2.1 h1
            rw [line_right h.1] at a
            have b := evL_ge_head q (r :: l) h.2.2 u (by grind)
            grind
        · rw [if_neg h1, if_neg (by grind)]
          exact ih h.2.2 t u htu

theorem evL_inj {l : List (Rat × Rat)} (h : Rising l) {t u : Rat} (e : evL l t = evL l u) : t = u := by
  apply Classical.byContradiction
  intro hne
  rcases (show t < u ∨ u < t by grind) with hlt | hlt
  · have := evL_mono l h _ _ hlt; grind
  · have := evL_mono l h _ _ hlt; grind

/-- points with their coordinates exchanged -/
def swap (l : List (Rat × Rat)) : List (Rat × Rat) := l.map fun p => (p.2, p.1)

theorem rising_swap (l : List (Rat × Rat)) : Rising l → Rising (swap l) := by
  induction l with
  | nil => intro _; trivial
  | cons p l ih =>
    intro h
    cases l with
    | nil => trivial
    | cons q l => exact ⟨h.2.1, h.1, ih h.2.2⟩

theorem line_swap {p q : Rat × Rat} (h1 : p.1 < q.1) (h2 : p.2 < q.2) (t : Rat) : line (p.2, p.1) (q.2, q.1) (line p q t) = t := by
  simp only [line]
  have a : q.1 - p.1 ≠ 0 := by grind
  have b : q.2 - p.2 ≠ 0 := by grind
  have c : (q.2 - p.2) / (q.1 - p.1) * ((q.1 - p.1) / (q.2 - p.2)) = 1 := by
    rw [Rat.div_def, Rat.div_def]; grind
  have : p.1 + (p.2 + (t - p.1) * ((q.2 - p.2) / (q.1 - p.1)) - p.2) * ((q.1 - p.1) / (q.2 - p.2)) = p.1 + (t - p.1) * ((q.2 - p.2) / (q.1 - p.1) * ((q.1 - p.1) / (q.2 - p.2))) := by grind
  rw [this, c]; grind

/-- the points exchanged undo -/
theorem evL_swap (l : List (Rat × Rat)) : ∀ (_ : Rising l) (t : Rat), evL (swap l) (evL l t) = t := by
  induction l with
  | nil => intro _ t; rfl
  | cons p l ih =>
    intro h t
    cases l with
    | nil => simp only [swap, List.map, evL]; grind
    | cons q l =>
      cases l with
      | nil => exact line_swap h.1 h.2.1 t
      | cons r l =>
        rw [evL_cons]
        show evL ((p.2, p.1) :: (q.2, q.1) :: (r.2, r.1) :: swap l) _ = t
        by_cases h1 : t < q.1
        · rw [if_pos h1, evL_cons]
          have a := line_mono h.1 h.2.1 h1
          rw [line_right h.1] at a
          rw [if_pos a]
          exact line_swap h.1 h.2.1 t
        · rw [if_neg h1, evL_cons]
          have b := evL_ge_head q (r :: l) h.2.2 t (by grind)
          rw [if_neg (by simp only; grind)]
          exact ih h.2.2 t
def slp (p q : Rat × Rat) : Rat := (q.2 - p.2) / (q.1 - p.1)

theorem slp_eq {p q : Rat × Rat} (h : p.1 < q.1) {s c : Rat} (hp : p.2 = c + s * p.1) (hq : q.2 = c + s * q.1) : slp p q = s := by
  simp only [slp]
  have : q.1 - p.1 ≠ 0 := by grind
  grind
theorem on_slp {p q : Rat × Rat} (h : p.1 < q.1) {c : Rat} (hp : p.2 = c + slp p q * p.1) : q.2 = c + slp p q * q.1 := by
  simp only [slp] at *
  have : q.1 - p.1 ≠ 0 := by grind
  grind
theorem slp_pos {p q : Rat × Rat} (h : p.1 < q.1) (h2 : p.2 < q.2) : 0 < slp p q := div_pos' (by grind) (by grind)

/-- the bends behind a knot: each with the slope behind it; s: the slope ahead. -/
def jb (s : Rat) (q : Rat × Rat) : List (Rat × Rat) → List ((Rat × Rat) × Rat)
  | [] => []
  | r :: l => if slp q r = s then jb s r l else (q, slp q r) :: jb (slp q r) r l

def toB (J : List ((Rat × Rat) × Rat)) : List (Rat × Rat) := J.map fun j => (j.1.1, j.2)

/-- what is made of knots: the first slope, that line's height at 0, the bends. -/
structure Mp where
  s : Rat
  c : Rat
  J : List ((Rat × Rat) × Rat)
deriving DecidableEq

def Mp.ev (m : Mp) (t : Rat) : Rat := PL.ev m.s m.c (toB m.J) t

def make : List (Rat × Rat) → Mp
  | [] => ⟨1, 0, []⟩
  | [p] => ⟨1, p.2 - p.1, []⟩
  | p :: q :: l => ⟨slp p q, p.2 - slp p q * p.1, jb (slp p q) q l⟩

/-- bends lie on the line ahead, turn, and rise -/
def VJ (s c : Rat) : List ((Rat × Rat) × Rat) → Prop
  | [] => True
  | (k, s') :: J => k.2 = c + s * k.1 ∧ s' ≠ s ∧ 0 < s' ∧ (∀ j ∈ J.head?, k.1 < j.1.1) ∧ VJ s' (c + (s - s') * k.1) J

def Mp.Valid (m : Mp) : Prop := 0 < m.s ∧ VJ m.s m.c m.J

theorem proper_of_VJ (J : List ((Rat × Rat) × Rat)) : ∀ (a s c : Rat), VJ s c J → (∀ j ∈ J.head?, a < j.1.1) → Proper a s (toB J) := by
  induction J with
  | nil => intro a s c _ _; trivial
  | cons j J ih =>
    obtain ⟨k, s'⟩ := j
    intro a s c h ha
    exact ⟨ha _ rfl, h.2.1, ih _ _ _ h.2.2.2.2 h.2.2.2.1⟩

theorem exists_below (J : List ((Rat × Rat) × Rat)) (b : Rat) : ∃ a, a < b ∧ ∀ j ∈ J.head?, a < j.1.1 := by
  cases J with
  | nil => exact ⟨b - 1, by grind, by simp⟩
  | cons j J =>
    by_cases h : b < j.1.1
    · exact ⟨b - 1, by grind, by intro x hx; have : x = j := by simpa using hx.symm
                                 subst this; grind⟩
    · exact ⟨j.1.1 - 1, by grind, by intro x hx; have : x = j := by simpa using hx.symm
                                     subst this; grind⟩

theorem jb_spec (l : List (Rat × Rat)) : ∀ (s c : Rat) (q : Rat × Rat), Rising (q :: l) → q.2 = c + s * q.1 →
    VJ s c (jb s q l) ∧ (∀ j ∈ (jb s q l).head?, q.1 ≤ j.1.1) ∧
    ∀ t, PL.ev s c (toB (jb s q l)) t = if t < q.1 then c + s * t else (match l with | [] => c + s * t | r :: l => evL (q :: r :: l) t) := by
  induction l with
  | nil => intro s c q _ _; exact ⟨trivial, by simp [jb], fun t => by simp [jb, toB, PL.ev]⟩
  | cons r l ih =>
    intro s c q h hq
    by_cases e : slp q r = s
    · have hr : r.2 = c + s * r.1 := by rw [← e]; exact on_slp h.1 (by rw [e]; exact hq)
      obtain ⟨i1, i2, i3⟩ := ih s c r h.2.2 hr
      simp only [jb]
      rw [if_pos e]
      refine ⟨i1, fun j hj => by have := i2 j hj; have := h.1; grind, fun t => ?_⟩
      rw [i3 t]
      have hl : line q r t = c + s * t := by
        have : line q r t = q.2 + (t - q.1) * slp q r := rfl
        rw [this, e, hq]; grind
      have h1 := h.1
      cases l with
      | nil => simp only [evL]; rw [hl]; simp
      | cons r' l =>
        simp only [evL_cons, hl]
        by_cases a : t < q.1
        · rw [if_pos (show t < r.1 by grind), if_pos a]
        · rw [if_neg a]
    · have hr0 : r.2 = (q.2 - slp q r * q.1) + slp q r * r.1 := on_slp h.1 (by grind)
      have hr : r.2 = (c + (s - slp q r) * q.1) + slp q r * r.1 := by grind
      obtain ⟨i1, i2, i3⟩ := ih (slp q r) (c + (s - slp q r) * q.1) r h.2.2 hr
      simp only [jb]
      rw [if_neg e]
      refine ⟨⟨hq, e, slp_pos h.1 h.2.1, fun j hj => by have := i2 j hj; have := h.1; grind, i1⟩, by simp, fun t => ?_⟩
      show PL.ev s c ((q.1, slp q r) :: toB (jb (slp q r) r l)) t = _
      simp only [PL.ev]
      rw [i3 t]
      have hl : line q r t = c + (s - slp q r) * q.1 + slp q r * t := by
        have : line q r t = q.2 + (t - q.1) * slp q r := rfl
        rw [this, hq]; grind
      cases l with
      | nil => simp only [evL]; rw [hl]; simp
      | cons r' l => simp only [evL_cons, hl]

theorem make_valid {l : List (Rat × Rat)} (h : Rising l) : (make l).Valid := by
  match l, h with
  | [], _ => exact ⟨by decide, trivial⟩
  | [p], _ => exact ⟨by simp only [make]; decide, trivial⟩
  | p :: q :: l, h => exact ⟨slp_pos h.1 h.2.1, (jb_spec l (slp p q) (p.2 - slp p q * p.1) q h.2.2 (on_slp h.1 (by grind))).1⟩

theorem make_ev {l : List (Rat × Rat)} (h : Rising l) (t : Rat) : (make l).ev t = evL l t := by
  match l, h with
  | [], _ => simp [make, Mp.ev, toB, PL.ev, evL]; grind
  | [p], _ => simp [make, Mp.ev, toB, PL.ev, evL]; grind
  | p :: q :: l, h =>
    obtain ⟨_, _, i⟩ := jb_spec l (slp p q) (p.2 - slp p q * p.1) q h.2.2 (on_slp h.1 (by grind))
    simp only [Mp.ev, make]
    rw [i t]
    have hl : line p q t = p.2 - slp p q * p.1 + slp p q * t := by
      have : line p q t = p.2 + (t - p.1) * slp p q := rfl
      rw [this]; grind
    cases l with
    | nil => simp only [evL]; rw [hl]; simp
    | cons r l => simp only [evL_cons, hl]

theorem toB_inj (J : List ((Rat × Rat) × Rat)) : ∀ (J' : List ((Rat × Rat) × Rat)) (s c : Rat), VJ s c J → VJ s c J' → toB J = toB J' → J = J' := by
  induction J with
  | nil => intro J' s c _ _ h; cases J' with
    | nil => rfl
    | cons j J' => simp [toB] at h
  | cons j J ih =>
    intro J' s c h h' e
    cases J' with
    | nil => simp [toB] at e
    | cons j' J' =>
      obtain ⟨⟨x, y⟩, s1⟩ := j
      obtain ⟨⟨x', y'⟩, s1'⟩ := j'
      simp only [toB, List.map_cons, List.cons.injEq, Prod.mk.injEq] at e
      obtain ⟨⟨rfl, rfl⟩, e⟩ := e
      have a := h.1
      have b := h'.1
      simp only at a b
      have : y = y' := by rw [a, b]
      subst this
      rw [ih J' _ _ h.2.2.2.2 h'.2.2.2.2 e]

/-- two maps that do the same are the same -/
theorem Mp.unique {m n : Mp} (hm : m.Valid) (hn : n.Valid) (h : ∀ t, m.ev t = n.ev t) : m = n := by
  obtain ⟨a1, _, ha1⟩ := exists_below m.J 0
  obtain ⟨a2, h21, ha2⟩ := exists_below n.J a1
  have p1 := proper_of_VJ m.J a2 m.s m.c hm.2 (fun j hj => by have := ha1 j hj; grind)
  have p2 := proper_of_VJ n.J a2 n.s n.c hn.2 ha2
  obtain ⟨e1, e2, e3⟩ := ev_unique _ _ a2 _ _ _ _ p1 p2 (fun t _ => h t)
  obtain ⟨s, c, J⟩ := m
  obtain ⟨s', c', J'⟩ := n
  simp only at e1 e2 e3
  subst e1 e2
  rw [toB_inj J J' s c hm.2 hn.2 e3]

theorem make_unique {l l' : List (Rat × Rat)} (h : Rising l) (h' : Rising l') (e : ∀ t, evL l t = evL l' t) : make l = make l' :=
  Mp.unique (make_valid h) (make_valid h') fun t => by rw [make_ev h, make_ev h', e]

/-- own knots -/
def tailK : Rat × Rat → Rat → List ((Rat × Rat) × Rat) → List (Rat × Rat)
  | k, s, [] => [(k.1 + 1, k.2 + s)]
  | _, _, (k, s) :: J => k :: tailK k s J

def Mp.knots (m : Mp) : List (Rat × Rat) := match m.J with
  | [] => [(0, m.c), (1, m.c + m.s)]
  | (k, s) :: J => (k.1 - 1, k.2 - m.s) :: k :: tailK k s J

theorem tailK_spec (J : List ((Rat × Rat) × Rat)) : ∀ (s c : Rat) (k : Rat × Rat), 0 < s → k.2 = c + s * k.1 → VJ s c J → (∀ j ∈ J.head?, k.1 < j.1.1) →
    Rising (k :: tailK k s J) ∧ ∃ r l, tailK k s J = r :: l ∧ slp k r = s ∧ jb s r l = J := by
  induction J with
  | nil =>
    intro s c k hs hk _ _
    refine ⟨⟨by simp only; grind, by simp only; grind, trivial⟩, _, _, rfl, slp_eq (c := c) (by simp only; grind) hk (by simp only; grind), rfl⟩
  | cons j J ih =>
    obtain ⟨k', s'⟩ := j
    intro s c k hs hk h hj
    have hlt : k.1 < k'.1 := hj _ rfl
    have hy : k.2 < k'.2 := by
      have := Rat.mul_lt_mul_of_pos_left hlt hs
      rw [hk, h.1]; grind
    have hk' : k'.2 = (c + (s - s') * k'.1) + s' * k'.1 := by have := h.1; grind
    obtain ⟨i1, r, l, i2, i3, i4⟩ := ih s' (c + (s - s') * k'.1) k' h.2.2.1 hk' h.2.2.2.2 h.2.2.2.1
    refine ⟨⟨hlt, hy, i1⟩, k', tailK k' s' J, rfl, slp_eq hlt hk h.1, ?_⟩
    rw [i2]
    simp only [jb]
    rw [if_neg (by rw [i3]; exact h.2.1), i3, i4]

theorem Mp.knots_spec {m : Mp} (h : m.Valid) : Rising m.knots ∧ make m.knots = m := by
  obtain ⟨s, c, J⟩ := m
  obtain ⟨h0, h⟩ := h
  simp only at h0 h
  cases J with
  | nil =>
    refine ⟨⟨by simp only; grind, by simp only; grind, trivial⟩, ?_⟩
    simp only [knots, make, jb]
    have : slp (0, c) (1, c + s) = s := slp_eq (c := c) (by simp only; grind) (by simp only; grind) (by simp only; grind)
    rw [this]
    simp only [Rat.mul_zero]
    congr 1
    grind
  | cons j J =>
    obtain ⟨k, s'⟩ := j
    have hk' : k.2 = (c + (s - s') * k.1) + s' * k.1 := by have := h.1; grind
    obtain ⟨i1, r, l, i2, i3, i4⟩ := tailK_spec J s' (c + (s - s') * k.1) k h.2.2.1 hk' h.2.2.2.2 h.2.2.2.1
    have e : slp (k.1 - 1, k.2 - s) k = s := slp_eq (c := c) (by simp only; grind) (by have := h.1; simp only; grind) h.1
    refine ⟨⟨by simp only; grind, by simp only; grind, i1⟩, ?_⟩
    simp only [knots, make]
    rw [e, i2]
    simp only [jb]
    rw [if_neg (by rw [i3]; exact h.2.1), i3, i4]
    have := h.1
    simp only [Mp.mk.injEq]
    exact ⟨trivial, by grind, trivial⟩

theorem Mp.knots_ev {m : Mp} (h : m.Valid) (t : Rat) : evL m.knots t = m.ev t := by
  rw [← make_ev (knots_spec h).1, (knots_spec h).2]

theorem Mp.ev_mono {m : Mp} (h : m.Valid) {t u : Rat} (e : t < u) : m.ev t < m.ev u := by
  rw [← knots_ev h, ← knots_ev h]; exact evL_mono _ (knots_spec h).1 _ _ e

/-- the other way round -/
theorem Mp.inv {m : Mp} (h : m.Valid) (t : Rat) : (make (swap m.knots)).ev (m.ev t) = t := by
  rw [make_ev (rising_swap _ (knots_spec h).1), ← knots_ev h]; exact evL_swap _ (knots_spec h).1 t
/-- G is straight on I -/
def Aff (G : Rat → Rat) (I : Rat → Prop) : Prop := ∃ s c, ∀ t, I t → G t = c + s * t

/-- x doesn't part I -/
def Out (I : Rat → Prop) (x : Rat) : Prop := (∀ t, I t → t ≤ x) ∨ (∀ t, I t → x ≤ t)

theorem ev_aff (B : List (Rat × Rat)) : ∀ (a s c : Rat) (I : Rat → Prop), Proper a s B → (∀ b ∈ B, Out I b.1) → Aff (ev s c B) I := by
  induction B with
  | nil => intro a s c I _ _; exact ⟨s, c, fun t _ => rfl⟩
  | cons b B ih =>
    obtain ⟨x, s'⟩ := b
    intro a s c I hp h
    rcases h _ (List.mem_cons_self ..) with h1 | h1
    · refine ⟨s, c, fun t ht => ?_⟩
      have := h1 t ht
      simp only at this
      simp only [ev]
      by_cases e : t < x
      · rw [if_pos e]
      · rw [if_neg e]
        have : t = x := by grind
        subst this
        obtain ⟨d, hd, hl⟩ := ev_line (c := c + (s - s') * t) hp.2.2
        rw [hl t (by grind)]; grind
    · obtain ⟨s1, c1, h2⟩ := ih x s' (c + (s - s') * x) I hp.2.2 (fun b hb => h b (List.mem_cons_of_mem _ hb))
      refine ⟨s1, c1, fun t ht => ?_⟩
      have := h1 t ht
      simp only at this
      simp only [ev]
      rw [if_neg (by grind)]
      exact h2 t ht

theorem Mp.aff {m : Mp} (h : m.Valid) (I : Rat → Prop) (hI : ∀ j ∈ m.J, Out I j.1.1) : Aff m.ev I := by
  obtain ⟨a, _, ha⟩ := exists_below m.J 0
  refine ev_aff (toB m.J) a m.s m.c I (proper_of_VJ m.J a _ _ h.2 ha) fun b hb => ?_
  obtain ⟨j, hj, rfl⟩ := List.mem_map.mp hb
  exact hI j hj

/-- rising numbers -/
def Up : List Rat → Prop
  | [] => True
  | [_] => True
  | x :: y :: l => x < y ∧ Up (y :: l)

theorem Up.tail {x : Rat} {l : List Rat} (h : Up (x :: l)) : Up l := by
  cases l with
  | nil => trivial
  | cons y l => exact h.2

theorem Up.lt {x : Rat} {l : List Rat} (h : Up (x :: l)) : ∀ y ∈ l, x < y := by
  induction l generalizing x with
  | nil => intro y hy; cases hy
  | cons z l ih =>
    intro y hy
    rcases List.mem_cons.mp hy with rfl | hy
    · exact h.1
    · have := ih h.2 y hy; have := h.1; grind

def graph (G : Rat → Rat) (l : List Rat) : List (Rat × Rat) := l.map fun x => (x, G x)

theorem rising_graph {G : Rat → Rat} (hG : ∀ t u, t < u → G t < G u) (l : List Rat) : Up l → Rising (graph G l) := by
  induction l with
  | nil => intro _; trivial
  | cons x l ih =>
    intro h
    cases l with
    | nil => trivial
    | cons y l => exact ⟨h.1, hG _ _ h.1, ih h.2⟩

theorem line_of_aff {G : Rat → Rat} {I : Rat → Prop} (h : Aff G I) {x y : Rat} (hxy : x < y) (hx : I x) (hy : I y) {t : Rat} (ht : I t) :
    line (x, G x) (y, G y) t = G t := by
  obtain ⟨s, c, h⟩ := h
  have e : slp (x, G x) (y, G y) = s := slp_eq (c := c) (by simp only; exact hxy) (h x hx) (h y hy)
  have : line (x, G x) (y, G y) t = G x + (t - x) * slp (x, G x) (y, G y) := rfl
  rw [this, e, h x hx, h t ht]; grind

/-- X: where G may turn -/
theorem interp {G : Rat → Rat} {X : Rat → Prop} (hX : ∀ I : Rat → Prop, (∀ x, X x → Out I x) → Aff G I) (l : List Rat) :
    ∀ (x y : Rat) (lo : Rat → Prop), Up (x :: y :: l) → (∀ t u, lo t → t ≤ u → lo u) → lo x →
      (∀ z, X z → (∀ t, lo t → z ≤ t) ∨ z ∈ (y :: l).dropLast) → ∀ t, lo t → evL (graph G (x :: y :: l)) t = G t := by
  induction l with
  | nil =>
    intro x y lo hu hlo hx hz t ht
    have ha : Aff G lo := hX lo fun z h => by
      rcases hz z h with h | h
      · exact .inr h
      · simp at h
    exact line_of_aff ha hu.1 hx (hlo _ _ hx (by have := hu.1; grind)) ht
  | cons w l ih =>
    intro x y lo hu hlo hx hz t ht
    have hxy := hu.1
    show evL ((x, G x) :: (y, G y) :: (w, G w) :: graph G l) t = G t
    rw [evL_cons]
    by_cases e : t < y
    · rw [if_pos e]
      have ha : Aff G (fun u => lo u ∧ u ≤ y) := hX _ fun z h => by
        rcases hz z h with h | h
        · exact .inr fun u hu => h u hu.1
        · left
          intro u hu1
          have hy := hu.2.lt
          rcases List.mem_cons.mp (show z ∈ y :: (w :: l).dropLast from h) with rfl | h
          · exact hu1.2
          · have := hy z (List.dropLast_subset _ h); have := hu1.2; grind
      exact line_of_aff ha hxy ⟨hx, by grind⟩ ⟨hlo _ _ hx (by grind), by grind⟩ ⟨ht, by grind⟩
    · rw [if_neg e]
      refine ih y w (fun u => y ≤ u) hu.2 (fun a b ha hab => by grind) (by grind) (fun z h => ?_) t (by grind)
      rcases hz z h with h | h
      · exact .inl fun u hu1 => by have := h y (hlo _ _ hx (by grind)); grind
      · rcases List.mem_cons.mp (show z ∈ y :: (w :: l).dropLast from h) with rfl | h
        · exact .inl fun u hu1 => hu1
        · exact .inr h

/-- G is the map made of its points, if it turns at inner points alone -/
theorem make_graph {G : Rat → Rat} {X : Rat → Prop} (hG : ∀ t u, t < u → G t < G u) (hX : ∀ I : Rat → Prop, (∀ x, X x → Out I x) → Aff G I)
    {x y : Rat} {l : List Rat} (hu : Up (x :: y :: l)) (hz : ∀ z, X z → z ∈ (y :: l).dropLast) (t : Rat) : (make (graph G (x :: y :: l))).ev t = G t := by
  rw [make_ev (rising_graph hG _ hu)]
  exact interp hX l x y (fun _ => True) hu (fun _ _ _ _ => trivial) trivial (fun z h => .inr (hz z h)) t trivial

/-- where a map that does n behind m may turn -/
def Turns (m n : Mp) (x : Rat) : Prop := (∃ j ∈ m.J, j.1.1 = x) ∨ ∃ j ∈ n.J, m.ev x = j.1.1

theorem Mp.le_of_ev {m : Mp} (h : m.Valid) {t u : Rat} (e : m.ev t ≤ m.ev u) : t ≤ u := by
  by_cases c : t ≤ u
  · exact c
  · have := ev_mono h (show u < t by grind); grind
theorem Mp.ev_le {m : Mp} (h : m.Valid) {t u : Rat} (e : t ≤ u) : m.ev t ≤ m.ev u := by
  by_cases c : t = u
  · subst c; grind
  · have := ev_mono h (show t < u by grind); grind

/-- every value is taken -/
theorem Mp.onto {m : Mp} (h : m.Valid) (y : Rat) : ∃ x, m.ev x = y := by
  have hs := rising_swap _ (knots_spec h).1
  have := evL_swap (swap m.knots) hs y
  have e : swap (swap m.knots) = m.knots := by simp [swap, Function.comp_def]
  rw [e, knots_ev h] at this
  exact ⟨_, this⟩

theorem comp_aff {m n : Mp} (hm : m.Valid) (hn : n.Valid) (I : Rat → Prop) (hI : ∀ x, Turns m n x → Out I x) : Aff (fun t => n.ev (m.ev t)) I := by
  obtain ⟨s, c, h1⟩ := m.aff hm I fun j hj => hI _ (.inl ⟨j, hj, rfl⟩)
  obtain ⟨s', c', h2⟩ := n.aff hn (fun u => ∃ t, I t ∧ m.ev t = u) fun j hj => by
    obtain ⟨x, hx⟩ := m.onto hm j.1.1
    rcases hI x (.inr ⟨j, hj, hx⟩) with h | h
    · left
      rintro u ⟨t, ht, rfl⟩
      rw [← hx]; exact m.ev_le hm (h t ht)
    · right
      rintro u ⟨t, ht, rfl⟩
      rw [← hx]; exact m.ev_le hm (h t ht)
  refine ⟨s * s', c' + s' * c, fun t ht => ?_⟩
  simp only
  rw [h2 _ ⟨t, ht, rfl⟩, h1 t ht]; grind

/-- the map that does n behind m, made of points -/
theorem comp_ev {m n : Mp} (hm : m.Valid) (hn : n.Valid) {x y : Rat} {l : List Rat} (hu : Up (x :: y :: l)) (hz : ∀ z, Turns m n z → z ∈ (y :: l).dropLast) (t : Rat) :
    (make (graph (fun t => n.ev (m.ev t)) (x :: y :: l))).ev t = n.ev (m.ev t) :=
  make_graph (fun _ _ h => n.ev_mono hn (m.ev_mono hm h)) (comp_aff hm hn) hu hz t

/-- the map that changes nothing -/
theorem still_eq {m : Mp} (hm : m.Valid) (h : ∀ t, m.ev t = t) : m.knots = [(0, 0), (1, 1)] := by
  have : m = ⟨1, 0, []⟩ := Mp.unique hm ⟨by simp only; decide, trivial⟩ fun t => by
    rw [h]; simp only [Mp.ev, toB, List.map, ev]; grind
  subst this
  simp only [Mp.knots]
  rw [show (0 : Rat) + 1 = 1 by grind]
theorem jb_mem (l : List (Rat × Rat)) : ∀ (s : Rat) (q : Rat × Rat), ∀ j ∈ jb s q l, j.1 ∈ (q :: l).dropLast := by
  induction l with
  | nil => intro s q j hj; simp [jb] at hj
  | cons r l ih =>
    intro s q j hj
    simp only [jb] at hj
    show j.1 ∈ q :: (r :: l).dropLast
    split at hj
    · exact List.mem_cons_of_mem _ (ih _ _ j hj)
    · rcases List.mem_cons.mp hj with rfl | hj
      · exact List.mem_cons_self ..
      · exact List.mem_cons_of_mem _ (ih _ _ j hj)

theorem make_turns {p q : Rat × Rat} {l : List (Rat × Rat)} : ∀ j ∈ (make (p :: q :: l)).J, j.1 ∈ (q :: l).dropLast := jb_mem l _ _

theorem ins_up {l : List (Rat × Rat)} (h : Rising l) : Up (l.map (·.1)) := by
  induction l with
  | nil => trivial
  | cons p l ih =>
    cases l with
    | nil => trivial
    | cons q l => exact ⟨h.1, ih h.2.2⟩

theorem graph_self {l : List (Rat × Rat)} (h : Rising l) : graph (make l).ev (l.map (·.1)) = l := by
  simp only [graph, List.map_map]
  have : ∀ p ∈ l, ((fun x => (x, (make l).ev x)) ∘ fun x => x.1) p = p := by
    intro p hp
    simp only [Function.comp]
    rw [make_ev h, evL_at l h p hp]
  rw [List.map_congr_left this]; simp

/-- a number laid into a rising list -/
def insT (t : Rat) : List Rat → List Rat
  | [] => [t]
  | x :: l => if t < x then t :: x :: l else x :: insT t l

theorem insT_up (t : Rat) (l : List Rat) : t ∉ l → Up l → Up (insT t l) ∧ (∀ a, (∀ y ∈ l, a < y) → a < t → ∀ y ∈ insT t l, a < y) := by
  induction l with
  | nil => intro _ _; exact ⟨trivial, fun a _ h y hy => by simp [insT] at hy; subst hy; exact h⟩
  | cons x l ih =>
    intro hm hu
    simp only [insT]
    by_cases c : t < x
    · rw [if_pos c]
      exact ⟨⟨c, hu⟩, fun a h1 h2 y hy => by rcases List.mem_cons.mp hy with rfl | hy; exact h2; exact h1 y hy⟩
    · rw [if_neg c]
      have hx : x < t := by
        have : t ≠ x := fun e => hm (by rw [e]; exact List.mem_cons_self ..)
        grind
      obtain ⟨i1, i2⟩ := ih (fun h => hm (List.mem_cons_of_mem _ h)) hu.tail
      refine ⟨?_, fun a h1 h2 y hy => ?_⟩
      · have := i2 x hu.lt hx
        cases e : insT t l with
        | nil => trivial
        | cons z l' => rw [e] at i1 this; exact ⟨this z (List.mem_cons_self ..), i1⟩
      · rcases List.mem_cons.mp hy with rfl | hy
        · exact h1 _ (List.mem_cons_self ..)
        · exact i2 a (fun y hy => h1 y (List.mem_cons_of_mem _ hy)) h2 y hy

theorem insT_ne (t : Rat) (l : List Rat) : insT t l ≠ [] := by
  cases l with
  | nil => simp [insT]
  | cons x l => simp only [insT]; split <;> simp

theorem dropLast_cons_ne {α} (x : α) {l : List α} (h : l ≠ []) : (x :: l).dropLast = x :: l.dropLast := by
  cases l with
  | nil => exact absurd rfl h
  | cons y l => rfl

theorem insT_inner (t : Rat) (l : List Rat) : ∀ z ∈ l.dropLast, z ∈ (insT t l).dropLast := by
  induction l with
  | nil => intro z hz; simp at hz
  | cons x l ih =>
    intro z hz
    simp only [insT]
    split
    · show z ∈ t :: (x :: l).dropLast
      exact List.mem_cons_of_mem _ hz
    · rw [dropLast_cons_ne x (insT_ne t l)]
      cases l with
      | nil => simp at hz
      | cons y l =>
        rcases List.mem_cons.mp (show z ∈ x :: (y :: l).dropLast from hz) with rfl | hz
        · exact List.mem_cons_self ..
        · exact List.mem_cons_of_mem _ (ih z hz)

/-- a knot laid down on the map changes nothing -/
theorem insert_same {p q : Rat × Rat} {l : List (Rat × Rat)} (h : Rising (p :: q :: l)) (t : Rat) (ht : t ∉ (p :: q :: l).map (·.1)) :
    Rising (graph (make (p :: q :: l)).ev (insT t ((p :: q :: l).map (·.1)))) ∧ make (graph (make (p :: q :: l)).ev (insT t ((p :: q :: l).map (·.1)))) = make (p :: q :: l) := by
  have hv := make_valid h
  have hm : ∀ t u, t < u → (make (p :: q :: l)).ev t < (make (p :: q :: l)).ev u := fun t u e => Mp.ev_mono hv e
  obtain ⟨i1, _⟩ := insT_up t _ ht (ins_up h)
  have hr := rising_graph hm _ i1
  refine ⟨hr, Mp.unique (make_valid hr) hv fun u => ?_⟩
  have hX : ∀ I : Rat → Prop, (∀ x, (∃ j ∈ (make (p :: q :: l)).J, j.1.1 = x) → PL.Out I x) → Aff (make (p :: q :: l)).ev I := fun I hI => Mp.aff hv I fun j hj => hI _ ⟨j, hj, rfl⟩
  have hin : ∀ z, (∃ j ∈ (make (p :: q :: l)).J, j.1.1 = z) → z ∈ ((q :: l).map (·.1)).dropLast := by
    rintro z ⟨j, hj, rfl⟩
    have := make_turns j hj
    rw [← List.map_dropLast]
    exact List.mem_map_of_mem this
  by_cases c : t < p.1
  · have e : insT t ((p :: q :: l).map (·.1)) = t :: p.1 :: (q :: l).map (·.1) := by simp only [List.map_cons, insT]; rw [if_pos c]
    rw [e] at i1 ⊢
    refine make_graph hm hX i1 (fun z hz => ?_) u
    show z ∈ p.1 :: ((q :: l).map (·.1)).dropLast
    exact List.mem_cons_of_mem _ (hin z hz)
  · have e : insT t ((p :: q :: l).map (·.1)) = p.1 :: insT t ((q :: l).map (·.1)) := by simp only [List.map_cons]; rw [insT]; rw [if_neg c]
    rw [e] at i1 ⊢
    cases e2 : insT t ((q :: l).map (·.1)) with
    | nil => exact absurd e2 (insT_ne _ _)
    | cons y l' =>
      rw [e2] at i1
      refine make_graph hm hX i1 (fun z hz => ?_) u
      rw [← e2]
      exact insT_inner t _ z (hin z hz)
end Go.Proofs.Ythlpaglldhgmfaa.PL
