/- Chapter 6: a map that was made: its numbers, and what it does. -/
import Derived.Test.YthlpaglldhgmfaaPx6
namespace Go.Proofs.Ythlpaglldhgmfaa.PA
open Go
set_option linter.unusedSimpArgs false
set_option linter.unusedVariables false
theorem tailK_last : ∀ (J : List ((Rat × Rat) × Rat)) (k : Rat × Rat) (s : Rat) (kl : Rat × Rat) (sl : Rat), ((k, s) :: J).getLast (by simp) = (kl, sl) → PL.tailK k s J = J.map (·.1) ++ [(kl.1 + 1, kl.2 + sl)] := by
  intro J
  induction J with
  | nil => intro k s kl sl h; simp only [List.getLast_singleton, Prod.mk.injEq] at h; obtain ⟨rfl, rfl⟩ := h; rfl
  | cons j J ih =>
    obtain ⟨k', s'⟩ := j
    intro k s kl sl h
    rw [List.getLast_cons_cons] at h
    simp only [PL.tailK, List.map_cons, List.cons_append, ih k' s' kl sl h]
theorem slF_tail : ∀ (J : List ((Rat × Rat) × Rat)) (s c : Rat) (k : Rat × Rat), 0 < s → k.2 = c + s * k.1 → PL.VJ s c J → (∀ j ∈ J.head?, k.1 < j.1.1) → slF k (PL.tailK k s J) = s :: J.map (·.2) := by
  intro J
  induction J with
  | nil => intro s c k hs hk _ _; simp only [PL.tailK, slF, List.map_nil]; rw [PL.slp_eq (c := c) (by simp only; grind) hk (by simp only; grind)]
  | cons j J ih =>
    obtain ⟨k', s'⟩ := j
    intro s c k hs hk h hj
    have hlt : k.1 < k'.1 := hj _ rfl
    have hk' : k'.2 = (c + (s - s') * k'.1) + s' * k'.1 := by have := h.1; grind
    simp only [PL.tailK, slF, List.map_cons]
    rw [ih s' _ k' h.2.2.1 hk' h.2.2.2.2 h.2.2.2.1, PL.slp_eq hlt hk h.1]
theorem slF_own {m : PL.Mp} (h : m.Valid) : ∃ p q l, m.knots = p :: q :: l ∧ slF p (q :: l) = m.s :: m.J.map (·.2) := by
  obtain ⟨s, c, J⟩ := m
  obtain ⟨h0, h⟩ := h
  simp only at h0 h
  cases J with
  | nil => exact ⟨_, _, _, rfl, by simp only [slF, List.map_nil]; rw [PL.slp_eq (s := s) (c := c) (by simp only; grind) (by simp only; grind) (by simp only; grind)]⟩
  | cons j J =>
    obtain ⟨k, s'⟩ := j
    have hk' : k.2 = (c + (s - s') * k.1) + s' * k.1 := by have := h.1; grind
    refine ⟨_, _, _, rfl, ?_⟩
    simp only [slF, List.map_cons]
    rw [slF_tail J s' _ k h.2.2.1 hk' h.2.2.2.2 h.2.2.2.1, PL.slp_eq (c := c) (by simp only; grind) (by have := h.1; simp only; grind) h.1]
theorem bend_mem : ∀ (ss : List Rt) (p : Rt) (ks : List Kn), ∀ x ∈ bendF p ss ks, x.1 ∈ ks ∧ x.2 ∈ ss := by
  intro ss
  induction ss with
  | nil => intro p ks x hx; cases ks <;> simp [bendF] at hx
  | cons s ss ih =>
    intro p ks x hx
    cases ks with
    | nil => simp [bendF] at hx
    | cons a ks =>
      simp only [bendF] at hx
      split at hx
      · have := ih s ks x hx; exact ⟨List.mem_cons_of_mem _ this.1, List.mem_cons_of_mem _ this.2⟩
      · rcases List.mem_cons.mp hx with rfl | hx
        · exact ⟨List.mem_cons_self, List.mem_cons_self⟩
        · have := ih s ks x hx; exact ⟨List.mem_cons_of_mem _ this.1, List.mem_cons_of_mem _ this.2⟩
theorem bend_len : ∀ (ss : List Rt) (p : Rt) (ks : List Kn), (bendF p ss ks).length ≤ ss.length := by
  intro ss
  induction ss with
  | nil => intro p ks; cases ks <;> simp [bendF]
  | cons x ss ih =>
    intro p ks
    cases ks with
    | nil => simp [bendF]
    | cons a ks =>
      simp only [bendF]
      split
      · have := ih x ks; simp only [List.length_cons]; omega
      · have := ih x ks; simp only [List.length_cons]; omega
/-- a map that was made of knots: its numbers -/
structure MapQ (l : List Kn) (m : MapV) : Prop where
  ne : l ≠ []
  le : l.length ≤ 64
  lr : ∀ k ∈ l, rRight k.1 = true ∧ rRight k.2 = true
  rs : PL.Rising (l.map qk)
  kn : m.knots.map qk = (PL.make (l.map qk)).knots
  kr : ∀ k ∈ m.knots, rRight k.1 = true ∧ rRight k.2 = true
  sl : m.slopes.map qr = (PL.make (l.map qk)).s :: (PL.make (l.map qk)).J.map (·.2)
  sr : ∀ s ∈ m.slopes, rRight s = true
  ns : m.slopes.length ≤ 64
theorem MapQ.val {l : List Kn} {m : MapV} (h : MapQ l m) : (PL.make (l.map qk)).Valid := PL.make_valid h.rs
theorem slope_len : ∀ (ks : List Kn) (k : Kn) (e : Int), (slpF (k :: ks) e).1.length = ks.length := by
  intro ks
  induction ks with
  | nil => intro k e; rfl
  | cons k' ks ih => intro k e; simp only [slpF, List.length_cons, ih]
theorem make_of {k0 : Kn} {ks : List Kn} {p0 : Rt} {ss : List Rt} (h : slopesS (k0 :: ks) = (p0 :: ss, 0)) :
    PL.make ((k0 :: ks).map qk) = ⟨qr p0, qr k0.2 - qr p0 * qr k0.1, (bendF p0 ss ks).map bq⟩ ∧ rRight p0 = true ∧ (∀ s ∈ ss, rRight s = true) ∧ ss.length = ks.length - 1 := by
  cases ks with
  | nil =>
    have h : (([(1, 1)] : List Rt), (0 : Int)) = (p0 :: ss, 0) := h
    simp only [Prod.mk.injEq, List.cons.injEq, and_true] at h
    obtain ⟨rfl, rfl⟩ := h
    refine ⟨?_, right_1, fun s hs => (by cases hs), rfl⟩
    have e1 : qr (1, 1) = 1 := qr_1
    show (⟨1, (qk k0).2 - (qk k0).1, []⟩ : PL.Mp) = ⟨qr (1, 1), qr k0.2 - qr (1, 1) * qr k0.1, []⟩
    rw [e1]
    simp only [qk, Rat.one_mul]
  | cons k1 ks =>
    have h : slpF (k0 :: k1 :: ks) 0 = (p0 :: ss, 0) := by rw [← h]; unfold slopesS; rw [if_neg (by simp)]
    have hl := slope_len (k1 :: ks) k0 0
    rw [h] at hl
    obtain ⟨_, i2, i3, _⟩ := slp_ok _ _ _ _ h
    simp only [List.map_cons, slF, List.cons.injEq] at i2
    have rp := i3 p0 List.mem_cons_self
    have rss : ∀ s ∈ ss, rRight s = true := fun s hs => i3 s (List.mem_cons_of_mem _ hs)
    refine ⟨?_, rp, rss, by simp only [List.length_cons] at hl ⊢; omega⟩
    rw [bend_jb ss p0 k1 ks rp rss i2.2]
    simp only [List.map_cons, PL.make, ← i2.1]
    rfl
theorem own_q {p0 : Rt} {B : List (Kn × Rt)} {k0 : Kn} {K : List Kn} (h : ownK p0 B k0 = (K, 0)) :
    K.map qk = (⟨qr p0, qr k0.2 - qr p0 * qr k0.1, B.map bq⟩ : PL.Mp).knots ∧ K.length = B.length + 2 := by
  cases B with
  | nil =>
    have h : lineS k0 p0 = (K, 0) := h
    unfold lineS at h
    dsimp only at h
    simp only [Prod.mk.injEq] at h
    obtain ⟨rfl, h2⟩ := h
    obtain ⟨e1, f1, g1⟩ := at_ok h2
    obtain ⟨_, f0, g0⟩ := at_ok e1
    obtain ⟨_, _, _, _, _, a0⟩ := along_ok (pr0 f0)
    obtain ⟨_, _, _, _, _, a1⟩ := along_ok (pr0 f1)
    refine ⟨?_, rfl⟩
    rw [g1, g0]
    simp only [List.map_cons, List.map_nil, PL.Mp.knots, qk, a0, a1, qr_0, qr_1]
    simp only [List.cons.injEq, Prod.mk.injEq, and_true, true_and]
    exact ⟨by grind, by grind⟩
  | cons b B' =>
    obtain ⟨⟨kl, sl⟩, hl⟩ : ∃ z, (b :: B').getLast (by simp) = z := ⟨_, rfl⟩
    have e : ownK p0 (b :: B') k0 = bentS p0 (b :: B') b (kl, sl) := by rw [← hl]; rfl
    rw [e] at h
    unfold bentS at h
    dsimp only at h
    simp only [Prod.mk.injEq] at h
    obtain ⟨rfl, h2⟩ := h
    obtain ⟨y0, f1, g1⟩ := at_ok h2
    obtain ⟨h0, y1⟩ := doS_e y0
    obtain ⟨x0, f0, g0⟩ := at_ok h0
    rw [h0, doS_0] at g1 f1 y0
    obtain ⟨_, _, _, xq⟩ := rSub_ok (pr0 x0)
    obtain ⟨_, _, _, yq⟩ := rAdd_ok (pr0 y0)
    obtain ⟨_, _, _, _, _, a0⟩ := along_ok (pr0 f0)
    obtain ⟨_, _, _, _, _, a1⟩ := along_ok (pr0 f1)
    have hlb : ((b :: B').map bq).getLast (by simp) = (qk kl, qr sl) := by rw [List.getLast_map, hl]; rfl
    refine ⟨?_, by simp⟩
    rw [h0, doS_0, g1, g0]
    have tl := tailK_last (B'.map bq) (qk b.1) (qr b.2) (qk kl) (qr sl) hlb
    simp only [List.map_cons, List.map_append, List.map_nil, PL.Mp.knots, bq, List.map_map] at tl ⊢
    have tl2 : PL.tailK (qk b.1) (qr b.2) (List.map bq B') = List.map qk (List.map (fun x => x.1) B') ++ [((qk kl).1 + 1, (qk kl).2 + qr sl)] := by
      rw [tailK_last (B'.map bq) (qk b.1) (qr b.2) (qk kl) (qr sl) hlb]; simp [bq, List.map_map, Function.comp]
    simp only [List.map_map] at tl2
    rw [tl2]
    simp only [List.cons_append, List.cons.injEq, qk, a0, a1, xq, yq, qr_1]
    refine ⟨Prod.ext ?_ ?_, trivial, ?_⟩
    · rfl
    · dsimp only; grind
    · congr 1
      simp only [List.cons.injEq, Prod.mk.injEq, and_true, true_and]
      grind
theorem newK_Q {l : List Kn} {m : MapV} (h : newK l = (some m, 0)) : MapQ l m := by
  obtain ⟨k0, ks, p0, ss, rfl, h1, h2, h3, h4, h5, h6⟩ := newK_inv h
  obtain ⟨c1, c2, c3, c4⟩ := (chk0_iff _).1 h1
  obtain ⟨m1, m2, m3, m4⟩ := make_of h2
  obtain ⟨o1, o2⟩ := own_q h5
  refine ⟨c1, c2, c3, c4, by rw [m1]; exact o1, ?_, ?_, ?_, ?_⟩
  · have hne : m.knots.length ≠ 1 := by omega
    unfold slopesS at h6
    rw [if_neg hne] at h6
    cases hk : m.knots with
    | nil => intro k hk; cases hk
    | cons a K =>
      rw [hk] at h6
      obtain ⟨_, _, _, q⟩ := slp_ok K a 0 _ (slp_ok.pr02 h6)
      exact q (fun e => by rw [hk, e] at hne; exact hne rfl)
  · rw [h3, m1]; simp [bq, List.map_map, Function.comp]
  · intro s hs
    rw [h3] at hs
    rcases List.mem_cons.1 hs with rfl | hs
    · exact m2
    · obtain ⟨x, hx, rfl⟩ := List.mem_map.1 hs; exact m3 _ (bend_mem _ _ _ x hx).2
  · rw [h3]
    have := bend_len ss p0 ks
    simp only [List.length_cons, List.length_map] at c2 ⊢
    omega
end Go.Proofs.Ythlpaglldhgmfaa.PA
