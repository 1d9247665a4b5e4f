/- Chapter 6: a map's own knots make the map; a knot laid down on it changes nothing. -/
import Derived.Test.YthlpaglldhgmfaaLh6
namespace Go.Proofs.Ythlpaglldhgmfaa.PA
open Go
set_option linter.unusedSimpArgs false
set_option linter.unusedVariables false
theorem bq_inj {a b : Kn × Rt} (ha : (rRight a.1.1 = true ∧ rRight a.1.2 = true) ∧ rRight a.2 = true) (hb : (rRight b.1.1 = true ∧ rRight b.1.2 = true) ∧ rRight b.2 = true) (e : bq a = bq b) : a = b := by
  have e1 := congrArg Prod.fst e
  have e2 := congrArg Prod.snd e
  exact Prod.ext (qk_inj ha.1 hb.1 e1) (qr_inj ha.2 hb.2 e2)
theorem own_again {l : List Kn} {m : MapV} (h : newK l = (some m, 0)) : newK m.knots = (some m, 0) := by
  have hQ := newK_Q h
  obtain ⟨k0, ks, p0, ss, rfl, h1, h2, h3, h4, h5, h6⟩ := newK_inv h
  obtain ⟨c1, c2, c3, c4⟩ := (chk0_iff _).1 h1
  obtain ⟨m1, m2, m3, m4⟩ := make_of h2
  obtain ⟨o1, o2⟩ := own_q h5
  have hb := bend_len ss p0 ks
  have hm := bend_mem ss p0 ks
  obtain ⟨B, hB⟩ : ∃ B, bendF p0 ss ks = B := ⟨_, rfl⟩
  rw [hB] at h3 h4 h5 m1 o1 o2 hb hm
  have hlen : m.knots.length ≤ 64 := by simp only [List.length_cons] at c2; omega
  have hne : m.knots ≠ [] := by intro e; rw [e] at o2; simp at o2
  have hc : chkK m.knots = 0 := (chk0_iff _).2 ⟨hne, hlen, hQ.kr, hQ.rk⟩
  obtain ⟨a, K, hk⟩ := List.exists_cons_of_ne_nil hne
  have hsl : (slopesS m.knots).1.length = K.length := by
    have hK : K ≠ [] := by intro e; rw [hk, e] at o2; simp at o2
    unfold slopesS
    rw [if_neg (by rw [o2]; omega), hk]
    exact slope_len K a 0
  have hsn : (slopesS m.knots).1 ≠ [] := by
    intro e; rw [e] at hsl; have := o2; rw [hk] at this; simp at this hsl; omega
  obtain ⟨q0, qs, hqs⟩ := List.exists_cons_of_ne_nil hsn
  have hsq : slopesS (a :: K) = (q0 :: qs, 0) := by rw [← hk]; exact Prod.ext hqs h6
  obtain ⟨n1, n2, n3, n4⟩ := make_of hsq
  have hM : PL.make ((a :: K).map qk) = PL.make ((k0 :: ks).map qk) := by rw [← hk, hQ.kn, (PL.Mp.knots_spec hQ.val).2]
  rw [n1, m1] at hM
  simp only [PL.Mp.mk.injEq] at hM
  have e0 : q0 = p0 := qr_inj n2 m2 hM.1
  subst e0
  have hm2 := bend_mem qs q0 K
  have e1 : bendF q0 qs K = B := by
    refine map_inj_on (f := bq) (P := fun a => (rRight a.1.1 = true ∧ rRight a.1.2 = true) ∧ rRight a.2 = true) (fun a b => bq_inj) _ _ ?_ ?_ hM.2.2
    · intro x hx
      have := hm2 x hx
      exact ⟨hQ.kr _ (by rw [hk]; exact List.mem_cons_of_mem _ this.1), n3 _ this.2⟩
    · intro x hx
      have := hm x hx
      exact ⟨c3 _ (List.mem_cons_of_mem _ this.1), m3 _ this.2⟩
  have hown : ownK q0 B a = (m.knots, 0) := by
    cases B with
    | cons b B' => exact h5
    | nil =>
      have h5 : lineS k0 q0 = (m.knots, 0) := h5
      unfold lineS at h5
      dsimp only at h5
      simp only [Prod.mk.injEq] at h5
      obtain ⟨g5, g6⟩ := h5
      obtain ⟨y1, f1, g1⟩ := at_ok g6
      obtain ⟨_, f0, g0⟩ := at_ok y1
      rw [g1, g0] at g5
      obtain ⟨_, _, _, _, x0r, a0⟩ := along_ok (pr0 f0)
      obtain ⟨_, _, _, _, x1r, a1⟩ := along_ok (pr0 f1)
      have ha : a = ((0, 1), (alongS k0 q0 (0, 1)).1) := by rw [hk] at g5; exact (List.cons.inj g5).1.symm
      have s0 := along_self (k := a) (s := q0) (by rw [ha]; exact right_0) (by rw [ha]; exact x0r) m2
      have ha1 : a.1 = (0, 1) := by rw [ha]
      have ha2 : a.2 = (alongS k0 q0 (0, 1)).1 := by rw [ha]
      rw [ha1] at s0
      obtain ⟨z1, hz1⟩ : ∃ z, (alongS k0 q0 (1, 1)).1 = z := ⟨_, rfl⟩
      rw [hz1] at x1r a1 g5
      have s1 : alongS a q0 (1, 1) = (z1, 0) := by
        unfold alongS
        rw [ha1, rSub_of right_1 right_0 right_1 (by rw [qr_0, qr_1]; grind)]
        dsimp only
        rw [doS_0, rMul_of right_1 m2 m2 (by rw [qr_1]; grind)]
        dsimp only
        rw [doS_0]
        exact rAdd_of (by rw [ha2]; exact x0r) m2 x1r (by rw [ha2, a0, a1, qr_0, qr_1]; grind)
      show lineS a q0 = (m.knots, 0)
      unfold lineS
      have t0 : atS 0 a q0 (0, 1) = (((0, 1), a.2), 0) := by unfold atS; rw [if_pos rfl, s0]
      have t1 : atS 0 a q0 (1, 1) = (((1, 1), z1), 0) := by unfold atS; rw [if_pos rfl, s1]
      dsimp only
      rw [t0]
      dsimp only
      rw [t1]
      rw [← g5, ha2]
  rw [newK_ok hc h6 hqs hk]
  unfold postK
  rw [e1, hown]
  unfold endK
  rw [if_neg (by simp), if_neg (by simp [h6])]
  obtain ⟨mk, ms, mb⟩ := m
  simp only at h3 h4
  rw [h3, h4]
/-- a knot laid into rising ones -/
def insK (t x : Rt) : List Kn → List Kn
  | [] => [(t, x)]
  | k :: l => if rCmp t k.1 < 0 then (t, x) :: k :: l else k :: insK t x l
theorem insK_q {G : Rat → Rat} {t x : Rt} (ht : rRight t = true) (hx : qr x = G (qr t)) : ∀ (l : List Kn), (∀ k ∈ l, rRight k.1 = true ∧ qr k.2 = G (qr k.1)) → (insK t x l).map qk = PL.graph G (PL.insT (qr t) ((l.map qk).map (·.1))) := by
  intro l
  induction l with
  | nil => intro _; simp [insK, PL.insT, PL.graph, qk, hx]
  | cons k l ih =>
    intro h
    have hk := h k List.mem_cons_self
    have i := ih (fun y hy => h y (List.mem_cons_of_mem _ hy))
    have hg : (l.map qk) = PL.graph G ((l.map qk).map (·.1)) := by
      simp only [PL.graph, List.map_map]
      refine List.map_congr_left fun y hy => ?_
      exact Prod.ext rfl (h y (List.mem_cons_of_mem _ hy)).2
    simp only [insK, List.map_cons, PL.insT]
    have e := rCmp_lt ht hk.1
    have ek : (qk k).1 = qr k.1 := rfl
    by_cases hc : rCmp t k.1 < 0
    · rw [if_pos hc, ek, if_pos (e.1 hc)]
      simp only [List.map_cons, PL.graph, List.cons.injEq]
      refine ⟨Prod.ext rfl hx, Prod.ext rfl hk.2, ?_⟩
      exact hg
    · rw [if_neg hc, ek, if_neg (fun h2 => hc (e.2 h2))]
      simp only [List.map_cons, i, PL.graph, List.cons.injEq]
      exact ⟨Prod.ext rfl hk.2, trivial⟩
theorem only_same {l : List Kn} {m o : MapV} {t x : Rt} (h : newK l = (some m, 0)) (ha : m.app t = (x, 0)) (h2 : 2 ≤ l.length) (hn : ∀ k ∈ l, rCmp t k.1 ≠ 0) (ho : newK (insK t x l) = (some o, 0)) : o.knots = m.knots := by
  have hQ := newK_Q h
  have hO := newK_Q ho
  obtain ⟨ht, hx, hq⟩ := hQ.app ha
  have hG : ∀ k ∈ l, rRight k.1 = true ∧ qr k.2 = (PL.make (l.map qk)).ev (qr k.1) := fun k hk => ⟨(hQ.lr k hk).1, by
    rw [PL.make_ev hQ.rs]
    exact (PL.evL_at _ hQ.rs (qk k) (List.mem_map_of_mem hk)).symm⟩
  have e := insK_q ht hq l hG
  have hnot : qr t ∉ (l.map qk).map (·.1) := by
    intro hm
    simp only [List.map_map, List.mem_map, Function.comp] at hm
    obtain ⟨k, hk, e⟩ := hm
    have := hn k hk
    rw [rCmp_q ht (hQ.lr k hk).1] at this
    exact this (if_pos e.symm)
  have hL : ∃ p q L, l.map qk = p :: q :: L := by
    match l, h2 with
    | a :: b :: L, _ => exact ⟨_, _, _, rfl⟩
  obtain ⟨p, q, L, hL⟩ := hL
  have hr := hQ.rs
  have key : PL.make ((insK t x l).map qk) = PL.make (l.map qk) := by
    rw [e]
    rw [hL] at hr hnot ⊢
    exact (PL.insert_same hr (qr t) hnot).2
  refine map_inj_on (f := qk) (P := fun a => rRight a.1 = true ∧ rRight a.2 = true) (fun a b => qk_inj) _ _ hO.kr hQ.kr ?_
  rw [hO.kn, hQ.kn, key]
theorem insK_len (t x : Rt) : ∀ l : List Kn, (insK t x l).length = l.length + 1 := by
  intro l
  induction l with
  | nil => rfl
  | cons k l ih => simp only [insK]; split <;> simp [ih]
end Go.Proofs.Ythlpaglldhgmfaa.PA
