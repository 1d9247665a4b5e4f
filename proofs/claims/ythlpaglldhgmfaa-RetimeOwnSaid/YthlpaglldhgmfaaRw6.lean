/- Chapter 6: rows of ratios, of knots that a call owns; slopes in plain lists, one behind the other. -/
import Derived.Test.YthlpaglldhgmfaaApp6
import Derived.Deep.AppendLies
namespace Go.Proofs.Ythlpaglldhgmfaa.PA
open Go Go.RowKit Go.Proofs.YthlpaglldhgmfaaW.PrintWords Go.Proofs.YthlpaglldhgmfaaW.PrintLast Go.Proofs.YthlpaglldhgmfaaW.PrintMore
set_option linter.unusedSimpArgs false
set_option linter.unusedVariables false
def flatT (l : List Rt) : List Value := l.flatMap fun r => [.int .i64 r.1, .int .i64 r.2]
def flatK (l : List Kn) : List Value := l.flatMap fun k => [.int .i64 k.1.1, .int .i64 k.1.2, .int .i64 k.2.1, .int .i64 k.2.2]
theorem flatT_len (l : List Rt) : (flatT l).length = l.length * 2 := by
  induction l with
  | nil => rfl
  | cons r l ih => simp only [flatT, List.flatMap_cons, List.length_append, List.length_cons, List.length_nil] at ih ⊢; omega
theorem flatK_len (l : List Kn) : (flatK l).length = l.length * 4 := by
  induction l with
  | nil => rfl
  | cons r l ih => simp only [flatK, List.flatMap_cons, List.length_append, List.length_cons, List.length_nil] at ih ⊢; omega
theorem flatT_snoc (l : List Rt) (r : Rt) : flatT (l ++ [r]) = flatT l ++ [.int .i64 r.1, .int .i64 r.2] := by simp [flatT]
theorem flatK_snoc (l : List Kn) (k : Kn) : flatK (l ++ [k]) = flatK l ++ [.int .i64 k.1.1, .int .i64 k.1.2, .int .i64 k.2.1, .int .i64 k.2.2] := by simp [flatK]
theorem flatT_app (l m : List Rt) : flatT (l ++ m) = flatT l ++ flatT m := by simp [flatT]
theorem flatK_app (l m : List Kn) : flatK (l ++ m) = flatK l ++ flatK m := by simp [flatK]
theorem flatT_at (l : List Rt) : ∀ (j : Nat) (h : j < l.length), (flatT l)[j * 2]? = some (.int .i64 l[j].1) ∧ (flatT l)[j * 2 + 1]? = some (.int .i64 l[j].2) := by
  induction l with
  | nil => intro j h; exact absurd h (Nat.not_lt_zero _)
  | cons r l ih =>
    intro j h
    have e : flatT (r :: l) = .int .i64 r.1 :: .int .i64 r.2 :: flatT l := rfl
    rw [e]
    match j with
    | 0 => exact ⟨rfl, rfl⟩
    | j + 1 =>
      have := ih j (by simpa using h)
      rw [show (j + 1) * 2 = j * 2 + 1 + 1 by omega]
      exact this
theorem flatK_at (l : List Kn) : ∀ (j : Nat) (h : j < l.length), (flatK l)[j * 4]? = some (.int .i64 l[j].1.1) ∧ (flatK l)[j * 4 + 1]? = some (.int .i64 l[j].1.2) ∧ (flatK l)[j * 4 + 2]? = some (.int .i64 l[j].2.1) ∧ (flatK l)[j * 4 + 3]? = some (.int .i64 l[j].2.2) := by
  induction l with
  | nil => intro j h; exact absurd h (Nat.not_lt_zero _)
  | cons r l ih =>
    intro j h
    have e : flatK (r :: l) = .int .i64 r.1.1 :: .int .i64 r.1.2 :: .int .i64 r.2.1 :: .int .i64 r.2.2 :: flatK l := rfl
    rw [e]
    match j with
    | 0 => exact ⟨rfl, rfl, rfl, rfl⟩
    | j + 1 =>
      have := ih j (by simpa using h)
      rw [show (j + 1) * 4 = j * 4 + 1 + 1 + 1 + 1 by omega]
      exact this
theorem flatT_one (l : List Rt) : ∀ u ∈ flatT l, u.oneCell' = true := by
  intro u hu
  simp only [flatT, List.mem_flatMap, List.mem_cons, List.not_mem_nil, or_false] at hu
  obtain ⟨r, _, h | h⟩ := hu <;> rw [h] <;> rfl
theorem flatK_one (l : List Kn) : ∀ u ∈ flatK l, u.oneCell' = true := by
  intro u hu
  simp only [flatK, List.mem_flatMap, List.mem_cons, List.not_mem_nil, or_false] at hu
  obtain ⟨r, _, h | h | h | h⟩ := hu <;> rw [h] <;> rfl
/-- a row that lies at the head of a block: its cells -/
theorem add0 (g j : Nat) : (⟨g, 0, none⟩ : Addr).add j = ⟨g, j, none⟩ := by unfold Addr.add; split <;> simp_all
theorem own_cell {w : World} {base n cap size g : Nat} {e : TypeId} {xs : List Value} (h : w.ownsRow base e size (.slice (some ⟨g, 0, none⟩) n cap) n xs) (j : Nat) (u : Value) (hu : xs[j]? = some u) : w.cell? ⟨g, j, none⟩ = some u := by
  rcases h.2 with ⟨h0, _⟩ | ⟨g', cap', cur, hv, hb, hg, hn, hm, hs, ht⟩
  · cases h0
  · cases hv
    rw [cell_of_row w g j cur e (0, 0) hg]
    rw [← ht, List.getElem?_take] at hu
    split at hu
    · rw [← hu]; exact Array.getElem?_toList.symm
    · cases hu
theorem own_rta {w : World} {base cap g : Nat} {e : TypeId} {l : List Rt} {n : Nat} (h : w.ownsRow base e 2 (.slice (some ⟨g, 0, none⟩) n cap) n (flatT l)) : RtA w ⟨g, 0, none⟩ l := fun j hj => by
  obtain ⟨a, b⟩ := flatT_at l j hj
  rw [add0]
  exact ⟨own_cell h _ _ a, own_cell h _ _ b⟩
theorem own_kna {w : World} {base cap g : Nat} {e : TypeId} {l : List Kn} {n : Nat} (h : w.ownsRow base e 4 (.slice (some ⟨g, 0, none⟩) n cap) n (flatK l)) : KnA w ⟨g, 0, none⟩ l := fun j hj => by
  obtain ⟨a, b, c, d⟩ := flatK_at l j hj
  rw [add0]
  exact ⟨own_cell h _ _ a, own_cell h _ _ b, own_cell h _ _ c, own_cell h _ _ d⟩
/-- a row that a call owns stays as it is where its block does -/
theorem own_keep {w w' : World} {base size n : Nat} {e : TypeId} {v : Value} {xs : List Value} (h : w.ownsRow base e size v n xs) (hk : ∀ k, v.ownBlock = some k → w'.heap[k]? = w.heap[k]?) : w'.ownsRow base e size v n xs := by
  refine ⟨h.1, ?_⟩
  rcases h.2 with h0 | ⟨g, cap, cur, hv, hb, hg, r⟩
  · exact .inl h0
  · refine .inr ⟨g, cap, cur, hv, hb, ?_, r⟩
    rw [hk g (by rw [hv]; rfl)]; exact hg
theorem own_base {w : World} {base b size n : Nat} {e : TypeId} {v : Value} {xs : List Value} (h : w.ownsRow base e size v n xs) (hb : b ≤ base) : w.ownsRow b e size v n xs := by
  refine ⟨h.1, ?_⟩
  rcases h.2 with h0 | ⟨g, cap, cur, hv, hb', r⟩
  · exact .inl h0
  · exact .inr ⟨g, cap, cur, hv, Nat.le_trans hb hb', r⟩
theorem own_fx {w w' : World} {g base size n : Nat} {e : TypeId} {v : Value} {xs : List Value} (h : w.ownsRow base e size v n xs) (hf : Fx g w w') (hg : g < base) : w'.ownsRow base e size v n xs :=
  own_keep h fun k hk => by
    have := h.lt k hk
    exact hf.block k this.2 (by omega)
theorem own_below {w w' : World} {base size n : Nat} {e : TypeId} {v : Value} {xs : List Value} (h : w.ownsRow base e size v n xs) (hb : Below w.heap.size w w') : w'.ownsRow base e size v n xs :=
  own_keep h fun k hk => hb.block k (h.lt k hk).2
theorem Fx.grown {g : Nat} {a w w' : World} {row : Option Nat} (h : Fx g a w) (hg : w.grownBy w' row) (hrow : ∀ k, row = some k → a.heap.size ≤ k) : Fx g a w' :=
  ⟨hg.os.trans h.os, hg.tape.trans h.tape, hg.output.trans h.output, Nat.le_trans h.size hg.size,
    fun i hi hne => (hg.block i (Nat.lt_of_lt_of_le hi h.size) (fun e => by have := hrow i e.symm; omega)).trans (h.block i hi hne)⟩
theorem KnA.fx {w w' : World} {g : Nat} {ad : Addr} {l : List Kn} (h : KnA w ad l) (hf : Fx g w w') (hg : w.heap.size ≤ g) : KnA w' ad l := h.below (hf.below (Below.refl _ _) hg (Nat.le_refl _))
theorem kna_flat {w : World} {ad : Addr} {l : List Kn} (h : KnA w ad l) : ∀ j u, (flatK l)[j]? = some u → w.cell? (ad.add j) = some u := by
  intro j u hu
  have hl : j < l.length * 4 := by rw [← flatK_len]; exact (List.getElem?_eq_some_iff.1 hu).1
  have hq : j / 4 < l.length := by omega
  obtain ⟨a, b, c, d⟩ := flatK_at l (j / 4) hq
  obtain ⟨a', b', c', d'⟩ := h (j / 4) hq
  have ad1 : ∀ m i, (⟨(ad.add m).block, (ad.add m).off + (i + 1), none⟩ : Addr) = ad.add (m + (i + 1)) := by
    intro m i
    unfold Addr.add
    by_cases hm : m = 0
    · subst hm; simp
    · rw [if_neg hm, if_neg (by omega)]; simp [Nat.add_assoc]
  rw [ad1 _ 0] at b'
  rw [ad1 _ 1] at c'
  rw [ad1 _ 2] at d'
  have hm : j % 4 < 4 := Nat.mod_lt _ (by decide)
  have hj : j = j / 4 * 4 + j % 4 := by omega
  rcases (by omega : j % 4 = 0 ∨ j % 4 = 1 ∨ j % 4 = 2 ∨ j % 4 = 3) with h0 | h0 | h0 | h0 <;> rw [h0] at hj
  · rw [hj] at hu ⊢; rw [Nat.add_zero] at hu ⊢; rw [a] at hu; cases hu; exact a'
  · rw [hj] at hu ⊢; rw [b] at hu; cases hu; exact b'
  · rw [hj] at hu ⊢; rw [c] at hu; cases hu; exact c'
  · rw [hj] at hu ⊢; rw [d] at hu; cases hu; exact d'
/-- slopes, one more -/
theorem slpF_snoc (a b : Kn) : ∀ (l : List Kn) (e : Int), slpF (l ++ [a, b]) e = ((slpF (l ++ [a]) e).1 ++ [(pieceS (slpF (l ++ [a]) e).2 a b).1], (pieceS (slpF (l ++ [a]) e).2 a b).2) := by
  intro l
  induction l with
  | nil => intro e; rfl
  | cons x l ih =>
    intro e
    cases l with
    | nil => rfl
    | cons y l =>
      have := ih (pieceS e x y).2
      simp only [List.cons_append] at this ⊢
      simp only [slpF, this, List.cons_append]
theorem slpF_take (l : List Kn) (j : Nat) (h : j + 1 < l.length) (e : Int) : slpF (l.take (j + 2)) e = ((slpF (l.take (j + 1)) e).1 ++ [(pieceS (slpF (l.take (j + 1)) e).2 l[j] l[j + 1]).1], (pieceS (slpF (l.take (j + 1)) e).2 l[j] l[j + 1]).2) := by
  rw [List.take_succ_eq_append_getElem h, List.take_succ_eq_append_getElem (i := j) (by omega)]
  have := slpF_snoc l[j] l[j + 1] (l.take j) e
  simp only [List.append_assoc, List.singleton_append] at this ⊢
  exact this
theorem slpF_len : ∀ (l : List Kn) (e : Int), (slpF l e).1.length = l.length - 1
  | [], _ => rfl
  | [_], _ => rfl
  | k :: k' :: l, e => by
    have := slpF_len (k' :: l) (pieceS e k k').2
    simp only [slpF, List.length_cons] at this ⊢
    omega
theorem pieceS_R (e : Int) (k k' : Kn) : R64 (pieceS e k k').1 := by unfold pieceS; exact do_R div_R _ _ _
theorem slpF_R : ∀ (l : List Kn) (e : Int), ∀ s ∈ (slpF l e).1, R64 s
  | [], _ => fun s h => absurd h (by simp [slpF])
  | [_], _ => fun s h => absurd h (by simp [slpF])
  | k :: k' :: l, e => by
    have := slpF_R (k' :: l) (pieceS e k k').2
    intro s hs
    simp only [slpF, List.mem_cons] at hs
    rcases hs with rfl | hs
    · exact pieceS_R _ _ _
    · exact this s hs
end Go.Proofs.Ythlpaglldhgmfaa.PA
