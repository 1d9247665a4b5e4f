/- Chapter 6: what the program reckons is exact: steps, slopes, bends, own knots. -/
import Derived.Test.YthlpaglldhgmfaaPl6
namespace Go.Proofs.Ythlpaglldhgmfaa.PA
open Go
set_option linter.unusedSimpArgs false
set_option linter.unusedVariables false
def qr (r : Rt) : Rat := qv r.1 r.2
def qk (k : Kn) : Rat × Rat := (qr k.1, qr k.2)
theorem qr_inj {a b : Rt} (ha : rRight a = true) (hb : rRight b = true) (e : qr a = qr b) : a = b := by
  obtain ⟨h1, h2⟩ := qv_inj ha hb e
  exact Prod.ext h1 h2
theorem qk_inj {a b : Kn} (ha : rRight a.1 = true ∧ rRight a.2 = true) (hb : rRight b.1 = true ∧ rRight b.2 = true) (e : qk a = qk b) : a = b := by
  have e1 := congrArg Prod.fst e
  have e2 := congrArg Prod.snd e
  exact Prod.ext (qr_inj ha.1 hb.1 e1) (qr_inj ha.2 hb.2 e2)
theorem map_inj_on {α β : Type} {f : α → β} {P : α → Prop} (hf : ∀ a b, P a → P b → f a = f b → a = b) : ∀ (l l' : List α), (∀ a ∈ l, P a) → (∀ a ∈ l', P a) → l.map f = l'.map f → l = l' := by
  intro l
  induction l with
  | nil => intro l' _ _ h; cases l' with | nil => rfl | cons a l' => simp at h
  | cons a l ih =>
    intro l' h1 h2 h
    cases l' with
    | nil => simp at h
    | cons b l' =>
      simp only [List.map_cons, List.cons.injEq] at h
      rw [hf a b (h1 a List.mem_cons_self) (h2 b List.mem_cons_self) h.1, ih l' (fun x hx => h1 x (List.mem_cons_of_mem _ hx)) (fun x hx => h2 x (List.mem_cons_of_mem _ hx)) h.2]
theorem pr0 {p : Rt × Int} (h : p.2 = 0) : p = (p.1, 0) := Prod.ext rfl h
theorem t3_ok {x : Int × Int × Int} {r : Rt} (h : t3 x = (r, 0)) : x = (r.1, r.2, 0) := by
  obtain ⟨a, b, c⟩ := x
  unfold t3 at h
  cases h
  rfl
theorem rAdd_ok {a b x : Rt} (h : rAdd a b = (x, 0)) : rRight a = true ∧ rRight b = true ∧ rRight x = true ∧ qr x = qr a + qr b := addS_ok (t3_ok h)
theorem rSub_ok {a b x : Rt} (h : rSub a b = (x, 0)) : rRight a = true ∧ rRight b = true ∧ rRight x = true ∧ qr x = qr a - qr b := subS_ok (t3_ok h)
theorem rMul_ok {a b x : Rt} (h : rMul a b = (x, 0)) : rRight a = true ∧ rRight b = true ∧ rRight x = true ∧ qr x = qr a * qr b := mulS_ok (t3_ok h)
theorem rDiv_ok {a b x : Rt} (h : rDiv a b = (x, 0)) : rRight a = true ∧ rRight b = true ∧ b.1 ≠ 0 ∧ rRight x = true ∧ qr x = qr a / qr b := divS_ok (t3_ok h)
theorem rAdd_of {a b x : Rt} (ha : rRight a = true) (hb : rRight b = true) (hx : rRight x = true) (e : qr x = qr a + qr b) : rAdd a b = (x, 0) := by
  have e' : qv a.1 a.2 + qv b.1 b.2 = qv x.1 x.2 := e.symm
  unfold rAdd
  rw [addS_T3 ha hb, e', T3_q hx]
  rfl
theorem rSub_of {a b x : Rt} (ha : rRight a = true) (hb : rRight b = true) (hx : rRight x = true) (e : qr x = qr a - qr b) : rSub a b = (x, 0) := by
  have e' : qv a.1 a.2 - qv b.1 b.2 = qv x.1 x.2 := e.symm
  unfold rSub
  rw [subS_T3 ha hb, e', T3_q hx]
  rfl
theorem rMul_of {a b x : Rt} (ha : rRight a = true) (hb : rRight b = true) (hx : rRight x = true) (e : qr x = qr a * qr b) : rMul a b = (x, 0) := by
  have e' : qv a.1 a.2 * qv b.1 b.2 = qv x.1 x.2 := e.symm
  unfold rMul
  rw [mulS_T3 ha hb, e', T3_q hx]
  rfl
theorem rCmp_q {a b : Rt} (ha : rRight a = true) (hb : rRight b = true) : rCmp a b = if qr a = qr b then 0 else if qr a < qr b then -1 else 1 := cmpS_q ha hb
theorem rCmp_lt {a b : Rt} (ha : rRight a = true) (hb : rRight b = true) : rCmp a b < 0 ↔ qr a < qr b := by
  rw [rCmp_q ha hb]
  by_cases h : qr a = qr b
  · rw [if_pos h, h]; simp [Rat.lt_irrefl]
  · rw [if_neg h]
    by_cases h2 : qr a < qr b
    · rw [if_pos h2]; simp [h2]
    · rw [if_neg h2]; simp [h2]
theorem rCmp_le {a b : Rt} (ha : rRight a = true) (hb : rRight b = true) : rCmp a b ≤ 0 ↔ qr a ≤ qr b := cmpS_le ha hb
theorem doS_0 (f : Rt → Rt → Rt × Int) (a b : Rt) : doS f 0 a b = f a b := by unfold doS; rw [if_pos rfl]
theorem doS_e {f : Rt → Rt → Rt × Int} {e : Int} {a b : Rt} (h : (doS f e a b).2 = 0) : e = 0 ∧ (f a b).2 = 0 := by
  unfold doS at h
  split at h
  · exact ⟨‹_›, h⟩
  · exact absurd h ‹_›
theorem doS_ok {f : Rt → Rt → Rt × Int} {e : Int} {a b x : Rt} (h : doS f e a b = (x, 0)) : e = 0 ∧ f a b = (x, 0) := by
  obtain ⟨rfl, _⟩ := doS_e (by rw [h] : (doS f e a b).2 = 0)
  rw [doS_0] at h
  exact ⟨rfl, h⟩
theorem right_0 : rRight (0, 1) = true := right01
theorem right_1 : rRight (1, 1) = true := by decide
theorem qr_0 : qr (0, 1) = 0 := by unfold qr qv; rfl
theorem qr_1 : qr (1, 1) = 1 := by unfold qr qv; rfl
theorem along_ok {k : Kn} {s t x : Rt} (h : alongS k s t = (x, 0)) : rRight k.1 = true ∧ rRight k.2 = true ∧ rRight s = true ∧ rRight t = true ∧ rRight x = true ∧ qr x = qr k.2 + (qr t - qr k.1) * qr s := by
  unfold alongS at h
  obtain ⟨h1, h2⟩ := doS_ok h
  obtain ⟨h3, h4⟩ := doS_e h1
  obtain ⟨a1, a2, a3, a4⟩ := rSub_ok (pr0 h3)
  rw [h3, doS_0] at h2
  obtain ⟨b1, b2, b3, b4⟩ := rMul_ok (pr0 h4)
  obtain ⟨c1, c2, c3, c4⟩ := rAdd_ok h2
  exact ⟨a2, c1, b2, a1, c3, by rw [c4, b4, a4]⟩
theorem along_self {k : Kn} {s : Rt} (h1 : rRight k.1 = true) (h2 : rRight k.2 = true) (h3 : rRight s = true) : alongS k s k.1 = (k.2, 0) := by
  unfold alongS
  rw [rSub_of h1 h1 right_0 (by rw [qr_0]; grind)]
  dsimp only
  rw [doS_0, rMul_of right_0 h3 right_0 (by rw [qr_0]; grind)]
  dsimp only
  rw [doS_0]
  exact rAdd_of h2 right_0 h2 (by rw [qr_0]; grind)
theorem back_ok {k : Kn} {s t x : Rt} (h : backS k s t = (x, 0)) : rRight k.1 = true ∧ rRight k.2 = true ∧ rRight s = true ∧ rRight t = true ∧ rRight x = true ∧ qr x = qr k.1 + (qr t - qr k.2) / qr s := by
  unfold backS at h
  obtain ⟨h1, h2⟩ := doS_ok h
  obtain ⟨h3, h4⟩ := doS_e h1
  obtain ⟨a1, a2, a3, a4⟩ := rSub_ok (pr0 h3)
  rw [h3, doS_0] at h2
  obtain ⟨b1, b2, _, b3, b4⟩ := rDiv_ok (pr0 h4)
  obtain ⟨c1, c2, c3, c4⟩ := rAdd_ok h2
  exact ⟨c1, a2, b2, a1, c3, by rw [c4, b4, a4]⟩
theorem rises_q : ∀ (l : List Kn), (∀ k ∈ l, rRight k.1 = true ∧ rRight k.2 = true) → ((risesB (·.1) l = true ∧ risesB (·.2) l = true) ↔ PL.Rising (l.map qk))
  | [], _ => by simp [risesB, PL.Rising]
  | [a], _ => by simp [risesB, PL.Rising]
  | a :: b :: l, h => by
    have ih := rises_q (b :: l) (fun k hk => h k (List.mem_cons_of_mem _ hk))
    have ha := h a List.mem_cons_self
    have hb := h b (List.mem_cons_of_mem _ List.mem_cons_self)
    have e1 := rCmp_lt ha.1 hb.1
    have e2 := rCmp_lt ha.2 hb.2
    simp only [List.map_cons] at ih ⊢
    simp only [risesB, Bool.and_eq_true, decide_eq_true_eq, PL.Rising, ← ih, e1, e2]
    constructor
    · rintro ⟨⟨x1, x2⟩, y1, y2⟩; exact ⟨x1, y1, x2, y2⟩
    · rintro ⟨x1, y1, x2, y2⟩; exact ⟨⟨x1, x2⟩, y1, y2⟩
theorem chk0_iff (l : List Kn) : chkK l = 0 ↔ l ≠ [] ∧ l.length ≤ 64 ∧ (∀ k ∈ l, rRight k.1 = true ∧ rRight k.2 = true) ∧ PL.Rising (l.map qk) := by
  unfold chkK
  by_cases h0 : l.length = 0
  · rw [if_pos h0]; simp [List.length_eq_zero_iff.mp h0]
  · rw [if_neg h0]
    have hne : l ≠ [] := fun e => h0 (by rw [e]; rfl)
    by_cases h1 : 64 < l.length
    · rw [if_pos h1]; simp; intro _ h; omega
    · rw [if_neg h1]
      cases h2 : (l.all fun k => rRight k.1 && rRight k.2)
      · rw [if_pos rfl]
        simp only [show ((12 : Int) = 0) = False by simp, false_iff]
        rintro ⟨_, _, h, _⟩
        rw [List.all_eq_true.2 (fun k hk => by simp [h k hk])] at h2
        cases h2
      · rw [if_neg (by decide)]
        have hr : ∀ k ∈ l, rRight k.1 = true ∧ rRight k.2 = true := fun k hk => by have := List.all_eq_true.1 h2 k hk; simpa using this
        have hq := rises_q l hr
        cases h3 : risesB (·.1) l
        · rw [if_pos rfl]; rw [h3] at hq; simp only [show ((33 : Int) = 0) = False by simp, false_iff]; rintro ⟨_, _, _, h⟩; have := hq.2 h; simp at this
        · rw [if_neg (by decide)]
          cases h4 : risesB (·.2) l
          · rw [if_pos rfl]; rw [h4] at hq; simp only [show ((32 : Int) = 0) = False by simp, false_iff]; rintro ⟨_, _, _, h⟩; have := hq.2 h; simp at this
          · rw [if_neg (by decide)]
            simp only [true_iff]
            exact ⟨hne, by omega, hr, hq.1 ⟨h3, h4⟩⟩
/-- slopes, exactly -/
def slF : Rat × Rat → List (Rat × Rat) → List Rat
  | _, [] => []
  | p, r :: l => PL.slp p r :: slF r l
theorem piece_ok {e : Int} {k k' : Kn} {s : Rt} (h : pieceS e k k' = (s, 0)) : e = 0 ∧ (rRight k.1 = true ∧ rRight k.2 = true) ∧ (rRight k'.1 = true ∧ rRight k'.2 = true) ∧ rRight s = true ∧ qr s = PL.slp (qk k) (qk k') := by
  unfold pieceS at h
  obtain ⟨h1, h2⟩ := doS_ok h
  obtain ⟨h3, h4⟩ := doS_e h1
  obtain ⟨h5, h6⟩ := doS_e h3
  subst h5
  rw [doS_0] at h2 h3
  rw [h3, doS_0] at h2
  obtain ⟨a1, a2, a3, a4⟩ := rSub_ok (pr0 h6)
  obtain ⟨b1, b2, b3, b4⟩ := rSub_ok (pr0 h4)
  obtain ⟨_, _, _, c3, c4⟩ := rDiv_ok h2
  exact ⟨rfl, ⟨b2, a2⟩, ⟨b1, a1⟩, c3, by rw [c4, a4, b4]; rfl⟩
theorem slp_err : ∀ (l : List Kn) (e : Int), (slpF l e).2 = 0 → e = 0
  | [], e, h => h
  | [_], e, h => h
  | k :: k' :: l, e, h => by
    simp only [slpF] at h
    exact (piece_ok (pr0 (slp_err _ _ h))).1
theorem slp_ok : ∀ (ks : List Kn) (k : Kn) (e : Int) (ss : List Rt), slpF (k :: ks) e = (ss, 0) → e = 0 ∧ ss.map qr = slF (qk k) (ks.map qk) ∧ (∀ s ∈ ss, rRight s = true) ∧ (ks ≠ [] → ∀ x ∈ k :: ks, rRight x.1 = true ∧ rRight x.2 = true) := by
  intro ks
  induction ks with
  | nil =>
    intro k e ss h
    simp only [slpF, Prod.mk.injEq] at h
    obtain ⟨rfl, rfl⟩ := h
    exact ⟨rfl, rfl, fun s hs => (by cases hs), fun h => absurd rfl h⟩
  | cons k' ks ih =>
    intro k e ss h
    simp only [slpF, Prod.mk.injEq] at h
    obtain ⟨rfl, h2⟩ := h
    have h3 := slp_err _ _ h2
    obtain ⟨e1, r1, r2, r3, r4⟩ := piece_ok (pr0 h3)
    obtain ⟨_, i2, i3, i4⟩ := ih k' _ _ (pr02 h2)
    refine ⟨e1, ?_, ?_, fun _ x hx => ?_⟩
    · simp only [List.map_cons, slF, i2, r4]
    · intro s hs
      rcases List.mem_cons.1 hs with rfl | hs
      · exact r3
      · exact i3 s hs
    · rcases List.mem_cons.1 hx with rfl | hx
      · exact r1
      · by_cases hn : ks = []
        · subst hn; have : x = k' := by simpa using hx
          subst this; exact r2
        · exact i4 hn x hx
where
  pr02 {p : List Rt × Int} (h : p.2 = 0) : p = (p.1, 0) := Prod.ext rfl h
def bq (b : Kn × Rt) : (Rat × Rat) × Rat := (qk b.1, qr b.2)
theorem bend_jb : ∀ (ss : List Rt) (p : Rt) (k : Kn) (ks : List Kn), rRight p = true → (∀ s ∈ ss, rRight s = true) → ss.map qr = slF (qk k) (ks.map qk) → (bendF p ss (k :: ks)).map bq = PL.jb (qr p) (qk k) (ks.map qk) := by
  intro ss
  induction ss with
  | nil =>
    intro p k ks _ _ h
    cases ks with
    | nil => rfl
    | cons r ks => simp [slF] at h
  | cons s ss ih =>
    intro p k ks hp hs h
    cases ks with
    | nil => simp [slF] at h
    | cons r ks =>
      simp only [List.map_cons, slF, List.cons.injEq] at h
      have hs1 := hs s List.mem_cons_self
      have i := ih s r ks hs1 (fun x hx => hs x (List.mem_cons_of_mem _ hx)) h.2
      simp only [bendF, List.map_cons, PL.jb, ← h.1]
      by_cases e : s = p
      · rw [if_pos e, if_pos (by rw [e]), i, e]
      · rw [if_neg e, if_neg (fun e2 => e (qr_inj hs1 hp e2))]
        simp only [List.map_cons, i]
        rfl
theorem at_ok {e : Int} {k : Kn} {s t : Rt} (h : (atS e k s t).2 = 0) : e = 0 ∧ (alongS k s t).2 = 0 ∧ (atS e k s t).1 = (t, (alongS k s t).1) := by
  unfold atS at h ⊢
  by_cases he : e = 0
  · rw [if_pos he] at h ⊢; exact ⟨he, h, rfl⟩
  · rw [if_neg he] at h; exact absurd h he
theorem newK_inv {l : List Kn} {m : MapV} (h : newK l = (some m, 0)) : ∃ k0 ks p0 ss, l = k0 :: ks ∧ chkK l = 0 ∧ slopesS l = (p0 :: ss, 0) ∧ m.slopes = p0 :: (bendF p0 ss ks).map (·.2) ∧ m.bends = (bendF p0 ss ks).length ∧ ownK p0 (bendF p0 ss ks) k0 = (m.knots, 0) ∧ (slopesS m.knots).2 = 0 := by
  unfold newK at h
  by_cases h1 : chkK l = 0
  · rw [if_neg (by simp [h1])] at h
    by_cases h2 : (slopesS l).2 = 0
    · rw [if_neg (by simp [h2])] at h
      split at h
      · rename_i p0 ss k0 ks h3
        dsimp only at h
        by_cases h4 : (ownK p0 (bendF p0 ss ks) k0).2 = 0
        · rw [if_neg (by simp [h4])] at h
          by_cases h5 : (slopesS (ownK p0 (bendF p0 ss ks) k0).1).2 = 0
          · rw [if_neg (by simp [h5])] at h
            cases h
            exact ⟨k0, ks, p0, ss, rfl, h1, Prod.ext h3 h2, rfl, rfl, Prod.ext rfl h4, h5⟩
          · rw [if_pos h5] at h; cases h
        · rw [if_pos h4] at h; cases h
      · cases h
    · rw [if_pos h2] at h; cases h
  · rw [if_pos h1] at h; cases h
theorem newK_cases (l : List Kn) : (∃ m, newK l = (some m, 0)) ∨ ∃ e, e ≠ 0 ∧ newK l = (none, e) := by
  unfold newK
  by_cases h1 : chkK l = 0
  · rw [if_neg (by simp [h1])]
    by_cases h2 : (slopesS l).2 = 0
    · rw [if_neg (by simp [h2])]
      split
      · rename_i p0 ss k0 ks h3
        dsimp only
        by_cases h4 : (ownK p0 (bendF p0 ss ks) k0).2 = 0
        · rw [if_neg (by simp [h4])]
          by_cases h5 : (slopesS (ownK p0 (bendF p0 ss ks) k0).1).2 = 0
          · rw [if_neg (by simp [h5])]; exact .inl ⟨_, rfl⟩
          · rw [if_pos h5]; exact .inr ⟨_, h5, rfl⟩
        · rw [if_pos h4]; exact .inr ⟨_, h4, rfl⟩
      · exact .inr ⟨1, by decide, rfl⟩
    · rw [if_pos h2]; exact .inr ⟨_, h2, rfl⟩
  · rw [if_pos h1]; exact .inr ⟨_, h1, rfl⟩
end Go.Proofs.Ythlpaglldhgmfaa.PA
