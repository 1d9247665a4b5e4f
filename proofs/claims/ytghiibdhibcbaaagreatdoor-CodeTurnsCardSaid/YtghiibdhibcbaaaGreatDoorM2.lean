/- The reference's reader: plain. A rate's text in plain lists: cut at its signs, or read from the left: the same. The reference's plain: all blocks but the reader's are kept. The reference: Rate. The reference: Rate told. Two rates are alike. -/
import Derived.Test.YtghiibdhibcbaaaGreatDoorMJ
import Derived.Test.YtghiibdhibcbaaaGreatDoorM1
import Derived.Lib.IndexBytes
import Derived.Test.YtghiibdhibcbaaaGreatDoorMB
import Derived.Test.YtghiibdhibcbaaaGreatDoorMM
namespace Go.Proofs.YtghiibdhibcbaaaGreatDoor.PA
open Go Go.RowKit Go.Proofs.YtghiibdhibcbaaaGreatDoorW.PrintWords Go.Proofs.YtghiibdhibcbaaaGreatDoorW.PrintLast Go.Proofs.YtghiibdhibcbaaaGreatDoorW.PrintMore Go.Proofs.YtghiibdhibcbaaaGreatDoor.CS
set_option linter.unusedSimpArgs false
set_option linter.unusedVariables false
def rplnS (S : ByteArray) (a : Nat) (b : Bool) : Int × Nat × Bool :=
  if runN (tl S a) < 1 ∨ runN (tl S a) > 9 ∨ (runN (tl S a) > 1 ∧ (tl S a).head? = some 48) then (0, a, true) else rnumS S a b (runN (tl S a))
end Go.Proofs.YtghiibdhibcbaaaGreatDoor.PA
namespace Go.Proofs.YtghiibdhibcbaaaGreatDoor.PA
open Go
set_option linter.unusedSimpArgs false
set_option linter.unusedVariables false
/-- a whole number, read from the left, and what is behind it -/
def plO (l : List UInt8) : Option (Int × List UInt8) :=
  if runN l < 1 ∨ runN l > 9 ∨ (runN l > 1 ∧ l.head? = some 48) then none else some (vg (l.take (runN l)), l.drop (runN l))
def finO (n d : Int) (t : List UInt8) : Option (Int × Int × Bool) := if t = [] then some (n, d, false) else if t = [100] then some (n, d, true) else none
/-- a rate's text, read from the left -/
def rrO (l : List UInt8) : Option (Int × Int × Bool) :=
  (plO l).bind fun p => if p.2.head? = some 47 then (plO p.2.tail).bind fun q => if q.1 = 1 then none else finO p.1 q.1 q.2 else finO p.1 1 p.2
theorem runN_at (N t : List UInt8) (hN : noD N = false) (ht : ∀ c, t.head? = some c → isD c = false) : runN (N ++ t) = N.length := by
  refine run_stop _ _ ((run_iff _ _).mpr ⟨by rw [List.length_append]; omega, ?_⟩) (fun c hc => ?_)
  · rw [List.take_left]; exact hN
  · rw [List.getElem?_append_right (Nat.le_refl _), Nat.sub_self] at hc
    exact ht c (by rw [List.head?_eq_getElem?]; exact hc)
theorem pl_at (N t : List UInt8) (hN : noD N = false) (ht : ∀ c, t.head? = some c → isD c = false) : plO (N ++ t) = (whoO N).map fun v => (v, t) := by
  have hr := runN_at N t hN ht
  unfold plO whoO
  rw [hr, List.take_left, List.drop_left]
  have hh : N.length > 1 → (N ++ t).head? = N.head? := by intro h; cases N with | nil => simp at h | cons a N => rfl
  by_cases h : 1 ≤ N.length ∧ N.length ≤ 9 ∧ ¬ (N.length > 1 ∧ N.head? = some 48) ∧ noD N = false
  · rw [if_pos h, if_neg]
    · rfl
    · rintro (h1 | h1 | ⟨h1, h2⟩)
      · omega
      · omega
      · exact h.2.2.1 ⟨h1, by rw [← hh h1]; exact h2⟩
  · rw [if_neg h, if_pos]
    · rfl
    · by_cases h1 : N.length < 1
      · exact .inl h1
      · by_cases h2 : N.length > 9
        · exact .inr (.inl h2)
        · by_cases h3 : N.length > 1 ∧ N.head? = some 48
          · exact .inr (.inr ⟨h3.1, by rw [hh h3.1]; exact h3.2⟩)
          · exact absurd ⟨by omega, by omega, h3, hN⟩ h
theorem who_no {N : List UInt8} {v : Int} (h : whoO N = some v) : noD N = false ∧ N ≠ [] := by
  unfold whoO at h
  split at h
  · rename_i hc; exact ⟨hc.2.2.2, fun e => by have := hc.1; rw [e] at this; simp at this⟩
  · cases h
theorem pl_of {l t : List UInt8} {v : Int} (h : plO l = some (v, t)) : ∃ N, l = N ++ t ∧ whoO N = some v := by
  unfold plO at h
  split at h
  · cases h
  · rename_i hc
    have hi := (run_iff l (runN l)).mp (Nat.le_refl _)
    have hl := run_le l
    simp only [Option.some.injEq, Prod.mk.injEq] at h
    obtain ⟨h1, h2⟩ := h
    refine ⟨l.take (runN l), by rw [← h2, List.take_append_drop], ?_⟩
    unfold whoO
    rw [List.length_take, Nat.min_eq_left hl, if_pos, h1]
    refine ⟨by omega, by omega, fun h3 => hc (.inr (.inr ⟨h3.1, ?_⟩)), hi.2⟩
    rw [← h3.2]
    cases hd : l with
    | nil => rw [hd] at h3; simp [runN] at h3
    | cons a l' =>
      rw [hd] at h3
      cases hr : runN (a :: l') with
      | zero => rw [hr] at h3; omega
      | succ k => rfl
theorem vg_pos (l : List UInt8) : noD l = false → l ≠ [] → l.head? ≠ some 48 → 1 ≤ vg l := by
  refine snoc_ind (P := fun l => noD l = false → l ≠ [] → l.head? ≠ some 48 → 1 ≤ vg l) (fun _ h => absurd rfl h) (fun l c ih h _ h48 => ?_) l
  rw [noD_snoc, Bool.or_eq_false_iff] at h
  rw [vg_snoc]
  have hc := h.2
  unfold isD at hc
  simp only [Bool.not_eq_false', Bool.and_eq_true, decide_eq_true_eq] at hc
  by_cases hl : l = []
  · subst hl
    have h5 : c.toNat ≠ 48 := fun e5 => h48 (by simp only [List.nil_append, List.head?_cons, Option.some.injEq]; exact UInt8.toNat_inj.mp (by rw [e5]; rfl))
    have hz : vg [] = 0 := rfl
    rw [hz]
    omega
  · have := ih h.1 hl (by cases l with | nil => exact absurd rfl hl | cons a l => exact h48)
    omega
theorem who_one_iff {D : List UInt8} {v : Int} (h : whoO D = some v) : v = 1 ↔ D = [49] := by
  constructor
  · intro h1
    subst h1
    unfold whoO at h
    split at h
    · rename_i hc
      obtain ⟨c1, c2, c3, c4⟩ := hc
      have hv := Option.some.inj h
      revert hv c1 c3 c4
      refine snoc_ind (P := fun D => 1 ≤ D.length → ¬ (D.length > 1 ∧ D.head? = some 48) → noD D = false → vg D = 1 → D = [49]) (fun h => by simp at h) (fun l c _ c1 c3 c4 hv => ?_) D
      rw [noD_snoc, Bool.or_eq_false_iff] at c4
      rw [vg_snoc] at hv
      have hc := c4.2
      unfold isD at hc
      simp only [Bool.not_eq_false', Bool.and_eq_true, decide_eq_true_eq] at hc
      by_cases hl : l = []
      · subst hl
        have hz : vg [] = 0 := rfl
        rw [hz] at hv
        have : c = 49 := UInt8.toNat_inj.mp (by show c.toNat = 49; omega)
        rw [this]; rfl
      · have := vg_pos l c4.1 hl (by
          intro h48
          refine c3 ⟨?_, ?_⟩
          · rw [List.length_append]; have : l.length ≠ 0 := fun e => hl (List.length_eq_zero_iff.mp e); simp; omega
          · cases l with
            | nil => exact absurd rfl hl
            | cons a l => exact h48)
        omega
    · cases h
  · intro h1
    subst h1
    have : whoO [49] = some 1 := by decide
    rw [this] at h
    exact (Option.some.inj h).symm
theorem idx_no (l : List UInt8) (c : UInt8) (h : c ∉ l) : Lib.indexByte l c = -1 := by
  induction l with
  | nil => rfl
  | cons b l ih =>
    have hb : (b == c) = false := by simp; rintro rfl; exact h List.mem_cons_self
    have := ih (fun hm => h (List.mem_cons_of_mem _ hm))
    simp [Lib.indexByte, hb, this]
theorem cut_at (N D : List UInt8) (c : UInt8) (h : c ∉ N) : Lib.cut (N ++ c :: D) [c] = (N, D, true) := by
  unfold Lib.cut
  rw [Lib.index_one, ParD.index_at N D c h]
  simp
theorem cut_no (l : List UInt8) (c : UInt8) (h : c ∉ l) : Lib.cut l [c] = (l, [], false) := by
  unfold Lib.cut
  rw [Lib.index_one, idx_no l c h]
  simp
theorem no_sign {N : List UInt8} (c : UInt8) (hc : isD c = false) (h : noD N = false) : c ∉ N := by
  intro hm
  unfold noD at h
  rw [List.any_eq_false] at h
  exact h c hm (by rw [hc]; rfl)
theorem cut_of (l : List UInt8) (c : UInt8) : (∃ N D, l = N ++ c :: D ∧ Lib.cut l [c] = (N, D, true)) ∨ Lib.cut l [c] = (l, [], false) := by
  by_cases h : c ∈ l
  · have hi := idx_lt l c
    by_cases h0 : Lib.indexByte l c = -1
    · right
      unfold Lib.cut
      rw [Lib.index_one, h0]
      simp
    · left
      obtain ⟨d1, d2⟩ := idx_split l c (by omega)
      refine ⟨l.take (Lib.indexByte l c).toNat, l.drop ((Lib.indexByte l c).toNat + 1), by rw [← d1, List.take_append_drop], ?_⟩
      unfold Lib.cut
      rw [Lib.index_one, if_pos (by omega)]
      simp
  · exact .inr (cut_no l c h)
theorem suf_yes (M : List UInt8) : Lib.trimSuffix (M ++ [100]) [100] = M ∧ Lib.hasSuffix (M ++ [100]) [100] = true := by
  have h : Lib.hasSuffix (M ++ [100]) [100] = true := by unfold Lib.hasSuffix; rw [List.isSuffixOf_iff_suffix]; exact List.suffix_append _ _
  refine ⟨?_, h⟩
  unfold Lib.trimSuffix
  rw [h, if_pos rfl]
  simp
theorem suf_no (M N : List UInt8) (hN : noD N = false) (h0 : N ≠ []) : Lib.trimSuffix (M ++ N) [100] = M ++ N ∧ Lib.hasSuffix (M ++ N) [100] = false := by
  have h : Lib.hasSuffix (M ++ N) [100] = false := by
    cases h : Lib.hasSuffix (M ++ N) [100]
    · rfl
    · exfalso
      unfold Lib.hasSuffix at h
      rw [List.isSuffixOf_iff_suffix] at h
      obtain ⟨p, hp⟩ := h
      have h1 : (M ++ N).getLast? = some 100 := by rw [← hp]; simp
      rw [List.getLast?_append] at h1
      cases hg : N.getLast? with
      | none => exact h0 (List.getLast?_eq_none_iff.mp hg)
      | some c =>
        rw [hg, Option.some_or, Option.some.injEq] at h1
        rw [h1] at hg
        exact no_sign 100 (by decide) hN (List.mem_of_getLast? hg)
  refine ⟨?_, h⟩
  unfold Lib.trimSuffix
  rw [h, if_neg (by decide)]
theorem suf_of (l : List UInt8) : (∃ M, l = M ++ [100] ∧ Lib.trimSuffix l [100] = M ∧ Lib.hasSuffix l [100] = true) ∨ (Lib.trimSuffix l [100] = l ∧ Lib.hasSuffix l [100] = false) := by
  cases h : Lib.hasSuffix l [100]
  · right
    refine ⟨?_, rfl⟩
    unfold Lib.trimSuffix
    rw [h, if_neg (by decide)]
  · left
    unfold Lib.hasSuffix at h
    rw [List.isSuffixOf_iff_suffix] at h
    obtain ⟨p, hp⟩ := h
    refine ⟨p, hp.symm, ?_⟩
    rw [← hp]
    exact ⟨(suf_yes p).1, rfl⟩
theorem fin_of {n d x y : Int} {b : Bool} {t : List UInt8} (h : finO n d t = some (x, y, b)) : x = n ∧ y = d ∧ (t = [] ∧ b = false ∨ t = [100] ∧ b = true) := by
  unfold finO at h
  split at h
  · rename_i ht; simp only [Option.some.injEq, Prod.mk.injEq] at h; exact ⟨h.1.symm, h.2.1.symm, .inl ⟨ht, h.2.2.symm⟩⟩
  · split at h
    · rename_i ht; simp only [Option.some.injEq, Prod.mk.injEq] at h; exact ⟨h.1.symm, h.2.1.symm, .inr ⟨ht, h.2.2.symm⟩⟩
    · cases h
/-- the end of it -/
def endO (b : Bool) : List UInt8 := if b = true then [100] else []
theorem fin_at (n d : Int) (b : Bool) : finO n d (endO b) = some (n, d, b) := by cases b <;> rfl
theorem endO_head (b : Bool) : ∀ c, (endO b).head? = some c → isD c = false := by cases b <;> intro c h <;> simp [endO] at h; subst h; decide
theorem suf_any (M N : List UInt8) (hN : noD N = false) (h0 : N ≠ []) (b : Bool) : Lib.trimSuffix (M ++ N ++ endO b) [100] = M ++ N ∧ Lib.hasSuffix (M ++ N ++ endO b) [100] = b := by
  cases b
  · have := suf_no M N hN h0
    simpa [endO] using this
  · exact suf_yes (M ++ N)
theorem rt_one (N : List UInt8) (v : Int) (b : Bool) (h : whoO N = some v) : rtO (N ++ endO b) = some (v, 1, b) ∧ rrO (N ++ endO b) = some (v, 1, b) := by
  obtain ⟨n1, n2⟩ := who_no h
  constructor
  · have hs := suf_any [] N n1 n2 b
    rw [List.nil_append] at hs
    unfold rtO
    rw [hs.1, hs.2, cut_no N 47 (no_sign 47 (by decide) n1)]
    simp [h]
  · unfold rrO
    rw [pl_at N _ n1 (endO_head b), h]
    have : ¬ (endO b).head? = some 47 := by cases b <;> decide
    simp only [Option.map_some, Option.bind_some]
    rw [if_neg this, fin_at]
theorem rt_two (N D : List UInt8) (v u : Int) (b : Bool) (h : whoO N = some v) (h2 : whoO D = some u) (h1 : u ≠ 1) : rtO (N ++ 47 :: D ++ endO b) = some (v, u, b) ∧ rrO (N ++ 47 :: D ++ endO b) = some (v, u, b) := by
  obtain ⟨n1, n2⟩ := who_no h
  obtain ⟨d1, d2⟩ := who_no h2
  have hD : D ≠ [49] := fun e => h1 ((who_one_iff h2).mpr e)
  constructor
  · have hs := suf_any (N ++ [47]) D d1 d2 b
    rw [List.append_assoc N, List.singleton_append] at hs
    unfold rtO
    rw [hs.1, hs.2, cut_at N D 47 (no_sign 47 (by decide) n1)]
    simp [h, h2, hD]
  · unfold rrO
    rw [List.append_assoc, pl_at N _ n1 (by intro c hc; simp at hc; subst hc; decide), h]
    simp only [Option.map_some, Option.bind_some, List.cons_append, List.head?_cons, List.tail_cons, if_true]
    rw [pl_at D _ d1 (endO_head b), h2]
    simp only [Option.map_some, Option.bind_some]
    rw [if_neg h1, fin_at]
theorem rt_eq (l : List UInt8) : rtO l = rrO l := by
  refine Option.ext (fun r => ⟨fun h => ?_, fun h => ?_⟩)
  · have hl : ∃ b, l = Lib.trimSuffix l [100] ++ endO b ∧ Lib.hasSuffix l [100] = b := by
      rcases suf_of l with ⟨M, e1, e2, e3⟩ | ⟨e1, e2⟩
      · exact ⟨true, by rw [e2]; exact e1, e3⟩
      · exact ⟨false, by rw [e1]; simp [endO], e2⟩
    obtain ⟨b, e1, e2⟩ := hl
    unfold rtO at h
    rw [e2] at h
    rcases cut_of (Lib.trimSuffix l [100]) 47 with ⟨N, D, c1, c2⟩ | c2
    · rw [c2] at h
      dsimp only at h
      rw [if_pos rfl] at h
      cases hn : whoO N with
      | none => rw [hn] at h; cases h
      | some v =>
        rw [hn] at h
        cases hd : whoO D with
        | none => rw [hd] at h; cases h
        | some u =>
          rw [hd] at h
          simp only [Option.bind_some] at h
          split at h
          · cases h
          · rename_i h49
            have h1 : u ≠ 1 := fun e => h49 ((who_one_iff hd).mp e)
            rw [e1, c1, (rt_two N D v u b hn hd h1).2]
            exact h
    · rw [c2] at h
      dsimp only at h
      rw [if_neg (by decide)] at h
      cases hn : whoO (Lib.trimSuffix l [100]) with
      | none => rw [hn] at h; cases h
      | some v =>
        rw [hn] at h
        rw [e1, (rt_one _ v b hn).2]
        exact h
  · obtain ⟨x, y, b⟩ := r
    have tb : ∀ t : List UInt8, (t = [] ∧ b = false ∨ t = [100] ∧ b = true) → t = endO b := by
      rintro t (⟨rfl, rfl⟩ | ⟨rfl, rfl⟩) <;> rfl
    unfold rrO at h
    cases hp : plO l with
    | none => rw [hp] at h; cases h
    | some p =>
      obtain ⟨v, t⟩ := p
      rw [hp] at h
      simp only [Option.bind_some] at h
      obtain ⟨N, e1, hN⟩ := pl_of hp
      split at h
      · rename_i hh
        obtain ⟨t', rfl⟩ : ∃ t', t = 47 :: t' := by
          cases t with
          | nil => cases hh
          | cons a t' => simp only [List.head?_cons, Option.some.injEq] at hh; exact ⟨t', by rw [hh]⟩
        rw [List.tail_cons] at h
        cases hq : plO t' with
        | none => rw [hq] at h; cases h
        | some q =>
          obtain ⟨u, t2⟩ := q
          rw [hq] at h
          simp only [Option.bind_some] at h
          obtain ⟨D, e2, hD⟩ := pl_of hq
          split at h
          · cases h
          · rename_i h1
            obtain ⟨rfl, rfl, h3⟩ := fin_of h
            rw [e1, e2, tb _ h3]
            have := (rt_two N D _ _ b hN hD h1).1
            rw [List.append_assoc, List.cons_append] at this
            exact this
      · obtain ⟨rfl, rfl, h3⟩ := fin_of h
        rw [e1, tb _ h3]
        exact (rt_one N _ b hN).1
/-- the reference's plain against it -/
theorem rpl_rel (S : ByteArray) (a : Nat) (h : a ≤ S.size) : relRV S (rplnS S a false) (plO (tl S a)) := by
  have hl := run_le (tl S a)
  rw [tl_len] at hl
  unfold rplnS plO
  split
  · exact ⟨h, rfl⟩
  · unfold rnumS
    rw [show S.data.toList.drop a = tl S a from rfl, if_pos (Nat.le_refl _)]
    refine ⟨by dsimp only; omega, rfl, ?_, rfl⟩
    unfold tl
    dsimp only
    rw [List.drop_drop]
end Go.Proofs.YtghiibdhibcbaaaGreatDoor.PA
namespace Go.Proofs.YtghiibdhibcbaaaGreatDoor.PA
open Go Go.RowKit Go.Proofs.YtghiibdhibcbaaaGreatDoorW.PrintWords Go.Proofs.YtghiibdhibcbaaaGreatDoorW.PrintLast Go.Proofs.YtghiibdhibcbaaaGreatDoorW.PrintMore Go.Proofs.YtghiibdhibcbaaaGreatDoor.CS
set_option linter.unusedSimpArgs false
set_option linter.unusedVariables false
/-- all but one block lies as it lay -/
structure Fx (g : Nat) (w w' : World) : Prop where
  os : w'.os = w.os
  tape : w'.tape = w.tape
  output : w'.output = w.output
  size : w.heap.size ≤ w'.heap.size
  block : ∀ k, k < w.heap.size → k ≠ g → w'.heap[k]? = w.heap[k]?
theorem Fx.refl (g : Nat) (w : World) : Fx g w w := ⟨rfl, rfl, rfl, Nat.le_refl _, fun _ _ _ => rfl⟩
theorem Fx.drewN {g : Nat} {w W : World} (h : Fx g w W) (n : Nat) : Fx g w (W.drewN n) := ⟨h.os, h.tape, h.output, h.size, h.block⟩
theorem Fx.setCell {g : Nat} {w W : World} (h : Fx g w W) (j : Nat) (u : Value) : Fx g w (W.setCell ⟨g, j, none⟩ u) := by
  have b := (Below.refl 0 W).setCell (p := ⟨g, j, none⟩) (Nat.zero_le _) u
  refine ⟨b.os.trans h.os, b.tape.trans h.tape, b.output.trans h.output, Nat.le_trans h.size b.size, fun k hk hne => ?_⟩
  rw [← h.block k hk hne]
  rcases Nat.lt_or_ge k g with hl | hl
  · exact ((Below.refl g W).setCell (p := ⟨g, j, none⟩) (Nat.le_refl _) u).block k hl
  · exact Below.heap_setCell _ _ _ _ hne
theorem Fx.below {g B : Nat} {a w w' : World} (h : Fx g w w') (hB : Below B a w) (hg : B ≤ g) (hs : B ≤ w.heap.size) : Below B a w' :=
  hB.trans ⟨h.os, h.tape, h.output, h.size, fun k hk => h.block k (by omega) (by omega)⟩
theorem Fx.kb {g k : Nat} {w w' : World} (h : Fx g w w') {o : Obj} (hk : w.heap[k]? = some o) (hne : k ≠ g) : w'.heap[k]? = some o := by
  have hl : k < w.heap.size := by
    rcases Nat.lt_or_ge k w.heap.size with hl | hl
    · exact hl
    · rw [Array.getElem?_eq_none hl] at hk; cases hk
  rw [h.block k hl hne]; exact hk
abbrev RF (w0 w' : World) (g : Nat) (s : ByteArray) (a : Int) (b : Bool) : Prop := w'.heap[g]? = some (rdr s a b) ∧ Fx g w0 w'
def floopR (w0 wr : World) (g : Nat) (S : ByteArray) (at_ k : Nat) (b : Bool) (v x : Value) : Prop :=
  ∃ i : Nat, i ≤ k ∧ i ≤ runN (S.data.toList.drop at_) ∧ v = .int .i64 (vg ((S.data.toList.drop at_).take i)) ∧ x = .int .i64 i ∧ wr.heap[g]? = some (rdr S ((at_ + i : Nat) : Int) b) ∧ Fx g w0 wr
set_option maxHeartbeats 1600000 in
set_option maxRecDepth 100000 in
theorem frnumber_any (S : ByteArray) (at_ k : Nat) (b : Bool) (g : Nat) (w0 w : World) (hS : S.size ≤ 9223372036854775807) (hat : at_ ≤ S.size) (k9 : k ≤ 9) (hx : w.heap[g]? = some (rdr S (at_ : Int) b)) (hB : Fx g w0 w) :
    Calls Tryz.prog 82 #[.pointer (some ⟨g, 0, none⟩), .int .i64 (k : Int)] w fun e w' => e = .returned (.int .i64 (rnumS S at_ b k).1) ∧ RF w0 w' g S ((rnumS S at_ b k).2.1 : Int) (rnumS S at_ b k).2.2 := by
  obtain ⟨c0, f0, c1, f1, c2, f2⟩ := Hand.hc3 hx
  have HX := Lib.hid hx
  have HB := Lib.hid hB
  clear hx hB
  go_enter Tryz.func82, Tryz.ntmps82
  go_wp2
  go_loopw [5, 6] (fun v x wr => floopR w0 wr g S at_ k b v x) (fun _ x _ => k - (intOf x).toNat)
  case atStart => exact ⟨0, Nat.zero_le _, Nat.zero_le _, rfl, rfl, HX.out, HB.out⟩
  case round =>
    obtain ⟨i, hi, hr, rfl, rfl, q1, q2⟩ := hrel
    obtain ⟨c0, f0, c1, f1, c2, f2⟩ := Hand.hc3 q1
    obtain ⟨p, hpe⟩ : ∃ p, at_ + i = p := ⟨_, rfl⟩
    rw [hpe] at q1 c1
    have HP := Lib.hid hpe
    have Q1 := Lib.hid q1
    have Q2 := Lib.hid q2
    clear hpe q1 q2
    have hvb := vg_9 (l := (S.data.toList.drop at_).take i) (by rw [List.length_take]; omega)
    obtain ⟨V, hV⟩ : ∃ V, vg ((S.data.toList.drop at_).take i) = V := ⟨_, rfl⟩
    rw [hV] at hvb ⊢
    have HV := Lib.hid hV
    clear hV
    have FAIL := Lib.hid (fun (hk : i < k) (hs : ∀ c, (S.data.toList.drop at_)[i]? = some c → isD c = false) =>
      (show rnumS S at_ b k = (0, p, true) by
        have e := run_stop _ i hr hs
        unfold rnumS
        rw [e, if_neg (by omega), HP.out]))
    by_cases hlt : i < k
    · by_cases hp : p < S.size
      · have g1 : ((S.size : Int) ≤ (p : Int)) = False := eq_false (by omega)
        have g2 : (S.size ≤ p) = False := eq_false (by omega)
        obtain ⟨u, hu⟩ : ∃ u : Nat, (S[p]'hp).toNat = u := ⟨_, rfl⟩
        have hu2 : ((S[p]'hp).toNat : Int) = (u : Int) := by rw [hu]
        have hub : u ≤ 255 := by have := (S[p]'hp).toNat_lt; omega
        have hat2 : (S.data.toList.drop at_)[i]? = some (S[p]'hp) := by
          have := at_drop S at_ i (by rw [HP.out]; exact hp)
          simpa only [HP.out] using this
        have HAT := Lib.hid hat2
        have HU := Lib.hid hu
        clear hat2 hu
        rcases (by omega : u < 48 ∨ 57 < u ∨ (48 ≤ u ∧ u ≤ 57)) with h1 | h1 | ⟨h1, h2⟩
        · have k1 : ((u : Int) < 48) = True := eq_true (by omega)
          have hf := Lib.hid (FAIL.out hlt (fun c hc => by rw [HAT.out, Option.some.injEq] at hc; subst hc; unfold isD; rw [HU.out]; simp; omega))
          go_wp2
          go_quiet (fail)
          go_wp2
          go_ret
          rw [hf.out]
          exact ⟨rfl, by rw [Hand.q1, Hand.q6, Q1.out]; rfl, (Fx.drewN Q2.out _).setCell _ _⟩
        · have k1 : ((u : Int) < 48) = False := eq_false (by omega)
          have k2 : (57 < (u : Int)) = True := eq_true (by omega)
          have hf := Lib.hid (FAIL.out hlt (fun c hc => by rw [HAT.out, Option.some.injEq] at hc; subst hc; unfold isD; rw [HU.out]; simp; omega))
          go_wp2
          go_quiet (fail)
          go_wp2
          go_ret
          rw [hf.out]
          exact ⟨rfl, by rw [Hand.q1, Hand.q6, Q1.out]; rfl, (Fx.drewN Q2.out _).setCell _ _⟩
        · have k1 : ((u : Int) < 48) = False := eq_false (by omega)
          have k2 : (57 < (u : Int)) = False := eq_false (by omega)
          have hd : isD (S[p]'hp) = true := by unfold isD; rw [HU.out]; simp; omega
          have hm := run_more _ i _ hr HAT.out hd
          have hsn : (S.data.toList.drop at_).take (i + 1) = (S.data.toList.drop at_).take i ++ [S[p]'hp] := by
            have hl : i < (S.data.toList.drop at_).length := by have := run_le (S.data.toList.drop at_); omega
            rw [List.take_succ_eq_append_getElem hl]
            have := HAT.out
            rw [List.getElem?_eq_getElem hl, Option.some.injEq] at this
            rw [this]
          have hvn := vg_snoc ((S.data.toList.drop at_).take i) (S[p]'hp)
          rw [← hsn, HV.out, HU.out] at hvn
          have HVN := Lib.hid hvn
          have HM := Lib.hid hm
          clear hvn hsn hm hd
          have KEY := Lib.hid (fun (n : Nat) => (⟨i + 1, hlt, HM.out, by rw [HVN.out]; congr 1; omega, by rw [Int.natCast_add]; rfl, by rw [Hand.q1, Hand.q6, Q1.out, ← Nat.add_assoc, HP.out, Int.natCast_add]; rfl, (Fx.drewN Q2.out _).setCell _ _⟩ : floopR w0 ((wr.drewN n).setCell ⟨g, 1, none⟩ (.int .i64 ((p : Int) + 1))) g S at_ k b (.int .i64 (10 * V + ((u : Int) - 48))) (.int .i64 ((i : Int) + 1))))
          go_wp2
          go_quiet (fail)
          go_wp2
          have e1 : IntKind.u8.wrap ((u : Int) - 48) = (u : Int) - 48 := by rw [IntKind.wrap_u8]; omega
          have e2 : IntKind.i64.wrap (10 * V) = 10 * V := by rw [IntKind.wrap_i64]; omega
          have e3 : IntKind.i64.wrap (10 * V + ((u : Int) - 48)) = 10 * V + ((u : Int) - 48) := by rw [IntKind.wrap_i64]; omega
          go_quiet (fail)
          clear e1 e2 e3
          go_wp2
          go_roundw
          case rel => exact KEY.out _
          case measure => simp [intOf]; omega
      · have g1 : ((S.size : Int) ≤ (p : Int)) = True := eq_true (by omega)
        have g2 : (S.size ≤ p) = True := eq_true (by omega)
        have hf := Lib.hid (FAIL.out hlt (fun c hc => by rw [at_none S at_ i (by rw [HP.out]; omega)] at hc; cases hc))
        go_wp2
        go_quiet (fail)
        go_wp2
        go_ret
        rw [hf.out]
        exact ⟨rfl, by rw [Hand.q1, Hand.q6, Q1.out]; rfl, (Fx.drewN Q2.out _).setCell _ _⟩
    · have hik : i = k := by omega
      subst hik
      have e : rnumS S at_ b i = (V, p, b) := by unfold rnumS; rw [if_pos hr, HV.out, HP.out]
      have HE := Lib.hid e
      clear e
      go_wp2
      go_ret
      rw [HE.out]
      exact ⟨rfl, Q1.out, Q2.out⟩
def floopU (w0 wr : World) (g : Nat) (S : ByteArray) (a : Nat) (b : Bool) (x : Value) : Prop :=
  ∃ i : Nat, i ≤ runN (S.data.toList.drop a) ∧ x = .int .i64 i ∧ wr.heap[g]? = some (rdr S (a : Int) b) ∧ Fx g w0 wr
set_option maxHeartbeats 1600000 in
set_option maxRecDepth 100000 in
theorem frrun_any (S : ByteArray) (a : Nat) (b : Bool) (g : Nat) (w0 w : World) (hS : S.size ≤ 9223372036854775807) (hat : a ≤ S.size) (hx : w.heap[g]? = some (rdr S (a : Int) b)) (hB : Fx g w0 w) :
    Calls Tryz.prog 103 #[.pointer (some ⟨g, 0, none⟩)] w fun e w' => e = .returned (.int .i64 (runN (S.data.toList.drop a) : Int)) ∧ RF w0 w' g S (a : Int) b := by
  obtain ⟨c0, f0, c1, f1, c2, f2⟩ := Hand.hc3 hx
  have HX := Lib.hid hx
  have HB := Lib.hid hB
  have hrl := run_le (S.data.toList.drop a)
  rw [List.length_drop, Array.length_toList] at hrl
  have hrl2 : runN (S.data.toList.drop a) ≤ S.size - a := hrl
  have HRL := Lib.hid hrl2
  clear hx hB hrl hrl2
  go_enter Tryz.func103, Tryz.ntmps103
  go_wp2
  go_loopw [3] (fun x wr => floopU w0 wr g S a b x) (fun x _ => S.size + 1 - (intOf x).toNat)
  case atStart => exact ⟨0, Nat.zero_le _, rfl, HX.out, HB.out⟩
  case round =>
    obtain ⟨i, hr, rfl, q1, q2⟩ := hrel
    obtain ⟨c0, f0, c1, f1, c2, f2⟩ := Hand.hc3 q1
    have hi9 : a + i ≤ S.size := by have := HRL.out; omega
    obtain ⟨p, hpe⟩ : ∃ p, a + i = p := ⟨_, rfl⟩
    have hpi : (a : Int) + (i : Int) = (p : Int) := by rw [← hpe]; rfl
    have HR := Lib.hid hr
    have HP := Lib.hid hpe
    have Q1 := Lib.hid q1
    have Q2 := Lib.hid q2
    have hp0 : p ≤ 9223372036854775807 := by omega
    have hw : IntKind.i64.wrap ((a : Int) + (i : Int)) = (p : Int) := by rw [IntKind.wrap_i64]; omega
    clear hpe q1 q2 hr
    by_cases hp : p < S.size
    · have hi8 : i + 1 ≤ 9223372036854775807 := by have := HP.out; omega
      have g1 : ((p : Int) < (S.size : Int)) = True := eq_true (by omega)
      have g2 : (p < S.size) = True := eq_true (by omega)
      obtain ⟨u, hu⟩ : ∃ u : Nat, (S[p]'hp).toNat = u := ⟨_, rfl⟩
      have hu2 : ((S[p]'hp).toNat : Int) = (u : Int) := by rw [hu]
      have hat2 : (S.data.toList.drop a)[i]? = some (S[p]'hp) := by
        have := at_drop S a i (by rw [HP.out]; exact hp)
        simpa only [HP.out] using this
      have HAT := Lib.hid hat2
      have HU := Lib.hid hu
      clear hat2 hu
      rcases (by omega : u < 48 ∨ 57 < u ∨ (48 ≤ u ∧ u ≤ 57)) with h1 | h1 | ⟨h1, h2⟩
      · have k1 : (48 ≤ (u : Int)) = False := eq_false (by omega)
        have hf := Lib.hid (run_stop _ i HR.out (fun c hc => by rw [HAT.out, Option.some.injEq] at hc; subst hc; unfold isD; rw [HU.out]; simp; omega))
        go_wp2
        go_quiet (fail)
        clear hpi hw
        go_wp2
        go_ret
        rw [hf.out]
        exact ⟨rfl, Q1.out, Fx.drewN Q2.out _⟩
      · have k1 : (48 ≤ (u : Int)) = True := eq_true (by omega)
        have k2 : ((u : Int) ≤ 57) = False := eq_false (by omega)
        have hf := Lib.hid (run_stop _ i HR.out (fun c hc => by rw [HAT.out, Option.some.injEq] at hc; subst hc; unfold isD; rw [HU.out]; simp; omega))
        go_wp2
        go_quiet (fail)
        clear hpi hw
        go_wp2
        go_ret
        rw [hf.out]
        exact ⟨rfl, Q1.out, Fx.drewN Q2.out _⟩
      · have k1 : (48 ≤ (u : Int)) = True := eq_true (by omega)
        have k2 : ((u : Int) ≤ 57) = True := eq_true (by omega)
        have hm := Lib.hid (run_more _ i _ HR.out HAT.out (by unfold isD; rw [HU.out]; simp; omega))
        go_wp2
        go_quiet (fail)
        clear hpi hw
        go_wp2
        go_roundw
        case rel => exact ⟨i + 1, hm.out, by rw [Int.natCast_add]; rfl, Q1.out, Fx.drewN Q2.out _⟩
        case measure => simp [intOf]; omega
    · have g1 : ((p : Int) < (S.size : Int)) = False := eq_false (by omega)
      have g2 : (p < S.size) = False := eq_false (by omega)
      have hf := Lib.hid (run_stop _ i HR.out (fun c hc => by rw [at_none S a i (by rw [HP.out]; omega)] at hc; cases hc))
      go_wp2
      go_quiet (fail)
      clear hpi hw
      go_wp2
      go_ret
      rw [hf.out]
      exact ⟨rfl, Q1.out, Fx.drewN Q2.out _⟩
set_option maxHeartbeats 1600000 in
set_option maxRecDepth 100000 in
theorem frplain_few (S : ByteArray) (a : Nat) (b : Bool) (j : Nat) (g : Nat) (w0 w : World) (hx : w.heap[g]? = some (rdr S (a : Int) b)) (hB : Fx g w0 w) (h : (j : Int) < 1)
    (m1 : Calls Tryz.prog 103 #[.pointer (some ⟨g, 0, none⟩)] w fun e w' => e = .returned (.int .i64 (j : Int)) ∧ RF w0 w' g S (a : Int) b) :
    Calls Tryz.prog 84 #[.pointer (some ⟨g, 0, none⟩)] w fun e w' => e = .returned (.int .i64 0) ∧ RF w0 w' g S (a : Int) true := by
  have M1 := Lib.hid m1
  clear m1 hx hB
  go_enter Tryz.func84, Tryz.ntmps84
  go_wp2_with fail
  with_reducible refine M1.out.mono ?_
  rintro e w1 ⟨rfl, hx1, hB1⟩
  obtain ⟨c0, f0, c1, f1, c2, f2⟩ := Hand.hc3 hx1
  have HX := Lib.hid hx1
  have HB := Lib.hid hB1
  clear hx1 hB1
  have k1 : ((j : Int) < 1) = True := eq_true (by omega)
  go_wp2_with fail
  go_quiet (fail)
  go_wp2_with fail
  go_ret
  exact ⟨rfl, by rw [Hand.q1, Hand.q6, HX.out]; rfl, (Fx.drewN HB.out _).setCell _ _⟩
set_option maxHeartbeats 1600000 in
set_option maxRecDepth 100000 in
theorem frplain_many (S : ByteArray) (a : Nat) (b : Bool) (j : Nat) (g : Nat) (w0 w : World) (hx : w.heap[g]? = some (rdr S (a : Int) b)) (hB : Fx g w0 w) (h : 1 ≤ (j : Int)) (h2 : 9 < j)
    (m1 : Calls Tryz.prog 103 #[.pointer (some ⟨g, 0, none⟩)] w fun e w' => e = .returned (.int .i64 (j : Int)) ∧ RF w0 w' g S (a : Int) b) :
    Calls Tryz.prog 84 #[.pointer (some ⟨g, 0, none⟩)] w fun e w' => e = .returned (.int .i64 0) ∧ RF w0 w' g S (a : Int) true := by
  have M1 := Lib.hid m1
  clear m1 hx hB
  go_enter Tryz.func84, Tryz.ntmps84
  go_wp2_with fail
  with_reducible refine M1.out.mono ?_
  rintro e w1 ⟨rfl, hx1, hB1⟩
  obtain ⟨c0, f0, c1, f1, c2, f2⟩ := Hand.hc3 hx1
  have HX := Lib.hid hx1
  have HB := Lib.hid hB1
  clear hx1 hB1
  have k1 : ((j : Int) < 1) = False := eq_false (by omega)
  have k2 : (9 < (j : Int)) = True := eq_true (by omega)
  have k4 : (9 < j) = True := eq_true (by omega)
  go_wp2_with fail
  go_quiet (fail)
  go_wp2_with fail
  go_ret
  exact ⟨rfl, by rw [Hand.q1, Hand.q6, HX.out]; rfl, (Fx.drewN HB.out _).setCell _ _⟩
set_option maxHeartbeats 1600000 in
set_option maxRecDepth 100000 in
theorem frplain_nought (S : ByteArray) (a : Nat) (b : Bool) (j : Nat) (u : Nat) (g : Nat) (w0 w : World) (hx : w.heap[g]? = some (rdr S (a : Int) b)) (hB : Fx g w0 w) (h : 1 ≤ (j : Int)) (h2 : j ≤ 9) (h3 : 1 < (j : Int)) (hp : a < S.size) (hu : (S[a]'hp).toNat = u) (h48 : u = 48)
    (m1 : Calls Tryz.prog 103 #[.pointer (some ⟨g, 0, none⟩)] w fun e w' => e = .returned (.int .i64 (j : Int)) ∧ RF w0 w' g S (a : Int) b) :
    Calls Tryz.prog 84 #[.pointer (some ⟨g, 0, none⟩)] w fun e w' => e = .returned (.int .i64 0) ∧ RF w0 w' g S (a : Int) true := by
  have M1 := Lib.hid m1
  clear m1 hx hB
  go_enter Tryz.func84, Tryz.ntmps84
  go_wp2_with fail
  with_reducible refine M1.out.mono ?_
  rintro e w1 ⟨rfl, hx1, hB1⟩
  obtain ⟨c0, f0, c1, f1, c2, f2⟩ := Hand.hc3 hx1
  have HX := Lib.hid hx1
  have HB := Lib.hid hB1
  clear hx1 hB1
  have hap : a < S.size := hp
  have hu2 : ((S[a]'hp).toNat : Int) = (u : Int) := by rw [hu]
  subst h48
  have k1 : ((j : Int) < 1) = False := eq_false (by omega)
  have k2 : (9 < (j : Int)) = False := eq_false (by omega)
  have k4 : (9 < j) = False := eq_false (by omega)
  have k3 : (1 < (j : Int)) = True := eq_true (by omega)
  go_wp2_with fail
  go_quiet (fail)
  go_wp2_with fail
  go_ret
  exact ⟨rfl, by rw [Hand.q1, Hand.q6, HX.out]; rfl, (Fx.drewN HB.out _).setCell _ _⟩
set_option maxHeartbeats 1600000 in
set_option maxRecDepth 100000 in
theorem frplain_ok1 (S : ByteArray) (a : Nat) (b : Bool) (j : Nat) (v a' : Int) (b' : Bool) (g : Nat) (w0 w : World) (hx : w.heap[g]? = some (rdr S (a : Int) b)) (hB : Fx g w0 w) (h : 1 ≤ (j : Int)) (h2 : j ≤ 9) (h3 : (j : Int) ≤ 1)
    (m1 : Calls Tryz.prog 103 #[.pointer (some ⟨g, 0, none⟩)] w fun e w' => e = .returned (.int .i64 (j : Int)) ∧ RF w0 w' g S (a : Int) b)
    (m2 : ∀ w, w.heap[g]? = some (rdr S (a : Int) b) → Fx g w0 w → Calls Tryz.prog 82 #[.pointer (some ⟨g, 0, none⟩), .int .i64 (j : Int)] w fun e w' => e = .returned (.int .i64 v) ∧ RF w0 w' g S a' b') :
    Calls Tryz.prog 84 #[.pointer (some ⟨g, 0, none⟩)] w fun e w' => e = .returned (.int .i64 v) ∧ RF w0 w' g S a' b' := by
  have M2 := Lib.hid m2
  clear m2
  have M1 := Lib.hid m1
  clear m1 hx hB
  go_enter Tryz.func84, Tryz.ntmps84
  go_wp2_with fail
  with_reducible refine M1.out.mono ?_
  rintro e w1 ⟨rfl, hx1, hB1⟩
  obtain ⟨c0, f0, c1, f1, c2, f2⟩ := Hand.hc3 hx1
  have HX := Lib.hid hx1
  have HB := Lib.hid hB1
  clear hx1 hB1
  have k1 : ((j : Int) < 1) = False := eq_false (by omega)
  have k2 : (9 < (j : Int)) = False := eq_false (by omega)
  have k4 : (9 < j) = False := eq_false (by omega)
  have k3 : (1 < (j : Int)) = False := eq_false (by omega)
  go_wp2_with fail
  go_quiet (fail)
  go_wp2_with fail
  with_reducible refine (M2.out _ (bk HX.out) (Fx.drewN HB.out _)).mono ?_
  rintro e w2 ⟨rfl, hx2, hB2⟩
  go_wp2
  go_ret
  exact ⟨rfl, hx2, hB2⟩
set_option maxHeartbeats 1600000 in
set_option maxRecDepth 100000 in
theorem frplain_ok2 (S : ByteArray) (a : Nat) (b : Bool) (j : Nat) (v a' : Int) (b' : Bool) (u : Nat) (g : Nat) (w0 w : World) (hx : w.heap[g]? = some (rdr S (a : Int) b)) (hB : Fx g w0 w) (h : 1 ≤ (j : Int)) (h2 : j ≤ 9) (h3 : 1 < (j : Int)) (hp : a < S.size) (hu : (S[a]'hp).toNat = u) (h48 : ((u : Int) == 48) = false)
    (m1 : Calls Tryz.prog 103 #[.pointer (some ⟨g, 0, none⟩)] w fun e w' => e = .returned (.int .i64 (j : Int)) ∧ RF w0 w' g S (a : Int) b)
    (m2 : ∀ w, w.heap[g]? = some (rdr S (a : Int) b) → Fx g w0 w → Calls Tryz.prog 82 #[.pointer (some ⟨g, 0, none⟩), .int .i64 (j : Int)] w fun e w' => e = .returned (.int .i64 v) ∧ RF w0 w' g S a' b') :
    Calls Tryz.prog 84 #[.pointer (some ⟨g, 0, none⟩)] w fun e w' => e = .returned (.int .i64 v) ∧ RF w0 w' g S a' b' := by
  have M2 := Lib.hid m2
  clear m2
  have M1 := Lib.hid m1
  clear m1 hx hB
  go_enter Tryz.func84, Tryz.ntmps84
  go_wp2_with fail
  with_reducible refine M1.out.mono ?_
  rintro e w1 ⟨rfl, hx1, hB1⟩
  obtain ⟨c0, f0, c1, f1, c2, f2⟩ := Hand.hc3 hx1
  have HX := Lib.hid hx1
  have HB := Lib.hid hB1
  clear hx1 hB1
  have hap : a < S.size := hp
  have hu2 : ((S[a]'hp).toNat : Int) = (u : Int) := by rw [hu]
  have k1 : ((j : Int) < 1) = False := eq_false (by omega)
  have k2 : (9 < (j : Int)) = False := eq_false (by omega)
  have k4 : (9 < j) = False := eq_false (by omega)
  have k3 : (1 < (j : Int)) = True := eq_true (by omega)
  go_wp2_with fail
  go_quiet (fail)
  go_wp2_with fail
  with_reducible refine (M2.out _ (bk HX.out) (Fx.drewN HB.out _)).mono ?_
  rintro e w2 ⟨rfl, hx2, hB2⟩
  go_wp2
  go_ret
  exact ⟨rfl, hx2, hB2⟩
theorem frplain_any (S : ByteArray) (a : Nat) (b : Bool) (g : Nat) (w0 w : World) (hS : S.size ≤ 9223372036854775807) (hat : a ≤ S.size) (hx : w.heap[g]? = some (rdr S (a : Int) b)) (hB : Fx g w0 w) :
    Calls Tryz.prog 84 #[.pointer (some ⟨g, 0, none⟩)] w fun e w' => e = .returned (.int .i64 (rplnS S a b).1) ∧ RF w0 w' g S ((rplnS S a b).2.1 : Int) (rplnS S a b).2.2 := by
  have m1 := frrun_any S a b g w0 w hS hat hx hB
  have m2 : ∀ w, w.heap[g]? = some (rdr S (a : Int) b) → Fx g w0 w → runN (tl S a) ≤ 9 → _ := fun w hx hB h9 => frnumber_any S a (runN (tl S a)) b g w0 w (by omega) hat h9 hx hB
  have hrl := run_le (tl S a)
  rw [tl_len] at hrl
  have ej : runN (S.data.toList.drop a) = runN (tl S a) := rfl
  rw [ej] at m1
  unfold rplnS
  obtain ⟨j, hj⟩ : ∃ j, runN (tl S a) = j := ⟨_, rfl⟩
  rw [hj] at m1 m2 hrl ⊢
  by_cases h1 : j < 1
  · rw [if_pos (.inl h1)]
    exact frplain_few S a b j g w0 w hx hB (by omega) m1
  · by_cases h2 : j > 9
    · rw [if_pos (.inr (.inl h2))]
      exact frplain_many S a b j g w0 w hx hB (by omega) h2 m1
    · have hp : a < S.size := by omega
      have hh := head_drop S a hp
      have hh2 : (tl S a).head? = some (S[a]'hp) := hh
      by_cases h3 : j > 1
      · by_cases h4 : (S[a]'hp).toNat = 48
        · have h5 : (tl S a).head? = some 48 := by rw [hh2, Option.some.injEq]; exact UInt8.toNat_inj.mp (by rw [h4]; rfl)
          rw [if_pos (.inr (.inr ⟨h3, h5⟩))]
          exact frplain_nought S a b j _ g w0 w hx hB (by omega) (by omega) (by omega) hp rfl h4 m1
        · have h5 : (tl S a).head? ≠ some 48 := by rw [hh2]; intro e; rw [Option.some.injEq] at e; rw [e] at h4; exact h4 rfl
          rw [if_neg (by rintro (h | h | ⟨_, h⟩); omega; omega; exact h5 h)]
          exact frplain_ok2 S a b j _ _ _ _ g w0 w hx hB (by omega) (by omega) (by omega) hp rfl (by simp; omega) m1 (fun w hx hB => m2 w hx hB (by omega))
      · rw [if_neg (by rintro (h | h | ⟨h, _⟩) <;> omega)]
        exact frplain_ok1 S a b j _ _ _ g w0 w hx hB (by omega) (by omega) (by omega) m1 (fun w hx hB => m2 w hx hB (by omega))
end Go.Proofs.YtghiibdhibcbaaaGreatDoor.PA
namespace Go.Proofs.YtghiibdhibcbaaaGreatDoor.PA
open Go Go.RowKit Go.Proofs.YtghiibdhibcbaaaGreatDoorW.PrintWords Go.Proofs.YtghiibdhibcbaaaGreatDoorW.PrintLast Go.Proofs.YtghiibdhibcbaaaGreatDoorW.PrintMore Go.Proofs.YtghiibdhibcbaaaGreatDoor.CS
set_option linter.unusedSimpArgs false
set_option linter.unusedVariables false
set_option maxHeartbeats 1600000 in
set_option maxRecDepth 100000 in
theorem rrt_bad (n a1 : Int) (L : ByteArray) (w : World)
    (m1 : ∀ w0 w g, w.heap[g]? = some (rdr L 0 false) → Fx g w0 w → Calls Tryz.prog 84 #[.pointer (some ⟨g, 0, none⟩)] w fun e w' => e = .returned (.int .i64 n) ∧ RF w0 w' g L a1 true) :
    Calls Tryz.prog 59 #[.string L] w fun e w' => e = .returned (.tuple #[.agg #[.int .i64 0, .int .i64 0, .bool false], .int .i64 13]) ∧ Below w.heap.size w w' := by
  have M1 := Lib.hid m1
  clear m1
  go_enter Tryz.func59, Tryz.ntmps59
  go_wp2_with fail
  obtain ⟨W, hW⟩ : ∃ W_, W_ = (w.alloc (.cells #[.int .i64 0, .int .i64 0, .bool false] 23)).alloc (rdr L 0 false) := ⟨_, rfl⟩
  rw [← hW]
  have hT : W.heap[w.heap.size]? = some (.cells #[.int .i64 0, .int .i64 0, .bool false] 23 (0, 0)) := by rw [hW, Hand.q4 _ _ _ (by simp)]; exact Hand.q3 _ _ _ rfl
  have hX : W.heap[w.heap.size + 1]? = some (rdr L 0 false) := by rw [hW]; exact Hand.q3 _ _ _ (by simp)
  have hBW : Below w.heap.size w W := by rw [hW]; exact ((Below.refl _ _).alloc (Nat.le_refl _) _).alloc (by simp) _
  clear hW
  with_reducible refine (M1.out W _ _ hX (Fx.refl _ _)).mono ?_
  rintro e w1 ⟨rfl, hx1, hF1⟩
  have hT1 := hF1.kb hT (by omega)
  have hB1 := hF1.below hBW (by omega) hBW.size
  clear hT hX hBW hF1
  have hS1 : w.heap.size + 2 ≤ w1.heap.size := by have := (Hand.hz hx1).1; omega
  have g_T := hT1
  have g_X := hx1
  have hB := hB1
  clear hT1 hx1 hB1
  obtain ⟨z_T, z1_T, z2_T, y0_T, y1_T⟩ := Hand.hz g_T
  obtain ⟨c_T_0, f_T_0, c_T_1, f_T_1, c_T_2, f_T_2⟩ := Hand.hc3 g_T
  obtain ⟨z_X, z1_X, z2_X, y0_X, y1_X⟩ := Hand.hz g_X
  obtain ⟨c_X_0, f_X_0, c_X_1, f_X_1, c_X_2, f_X_2⟩ := Hand.hc3 g_X
  have zw : w.heap.size ≤ w1.heap.size := hB.size
  have HG := Lib.hid (And.intro g_T (And.intro g_X (hB)))
  clear g_T g_X hB
  go_wp2
  obtain ⟨g_T, g_X, hB⟩ := HG.out
  refine bodyPost_ret (results_ct rfl _ _ (w.heap.size) 23 #[.int .i64 0, .int .i64 0, .bool false] (0, 0) _ rfl ?_ Tryz.underlying23 rfl (by kernel_rfl)) rfl ⟨rfl, ?_⟩
  · simp (disch := (first | omega | (simp only [World.size_setCell, World.size_alloc, World.size_drew, Hand.size_drewN]; first | done | omega))) only [Hand.q1, Hand.q2, Hand.q4, Hand.q3, Hand.q5, Hand.q6, Option.map_some, Hand.putc_cells, List.setIfInBounds_toArray, List.set_cons_zero, List.set_cons_succ, g_T]; try rfl
  · repeat (with_reducible first | exact hB | exact HG.out.2.2 | exact HG.out.2.2.2 | apply Below.drew | apply pw_below_drewN | refine Below.setCell ?_ (by dsimp only; omega) _ | refine Below.alloc ?_ (by (first | omega | (simp only [World.size_setCell, World.size_alloc, World.size_drew, Hand.size_drewN]; first | done | omega))) _)
set_option maxHeartbeats 6000000 in
set_option maxRecDepth 100000 in
theorem rrt_one (rx ry re c n : Int) (rb : Bool) (a : Nat) (L : ByteArray) (hS : L.size ≤ 9223372036854775807) (hway : (∃ hv : a < L.size, ((((L[a]'hv).toNat : Int) == 47) = false) ∧ ((((L[a]'hv).toNat : Int) == 100) = false) ∧ (0 = rx) ∧ (0 = ry) ∧ (false = rb) ∧ (13 = re)) ∨ (∃ hv : a < L.size, ((L[a]'hv).toNat = 100) ∧ (a + 1 ≠ L.size) ∧ (0 = rx) ∧ (0 = ry) ∧ (false = rb) ∧ (13 = re)) ∨ (∃ hv : a < L.size, ((L[a]'hv).toNat = 100) ∧ (a + 1 = L.size) ∧ ((c == 0) = false) ∧ (0 = rx) ∧ (0 = ry) ∧ (false = rb) ∧ (14 = re) ∧ (∀ w, Calls Tryz.prog 16 #[.agg #[.int .i64 n, .int .i64 1, .bool true]] w fun e w' => e = .returned (.int .i64 c) ∧ Below w.heap.size w w')) ∨ (∃ hv : a < L.size, ((L[a]'hv).toNat = 100) ∧ (a + 1 = L.size) ∧ (n = rx) ∧ (1 = ry) ∧ (true = rb) ∧ (0 = re) ∧ (∀ w, Calls Tryz.prog 16 #[.agg #[.int .i64 n, .int .i64 1, .bool true]] w fun e w' => e = .returned (.int .i64 0) ∧ Below w.heap.size w w')) ∨ ((a = L.size) ∧ ((c == 0) = false) ∧ (0 = rx) ∧ (0 = ry) ∧ (false = rb) ∧ (14 = re) ∧ (∀ w, Calls Tryz.prog 16 #[.agg #[.int .i64 n, .int .i64 1, .bool false]] w fun e w' => e = .returned (.int .i64 c) ∧ Below w.heap.size w w')) ∨ ((a = L.size) ∧ (n = rx) ∧ (1 = ry) ∧ (false = rb) ∧ (0 = re) ∧ (∀ w, Calls Tryz.prog 16 #[.agg #[.int .i64 n, .int .i64 1, .bool false]] w fun e w' => e = .returned (.int .i64 0) ∧ Below w.heap.size w w'))) (w : World)
    (m1 : ∀ w0 w g, w.heap[g]? = some (rdr L 0 false) → Fx g w0 w → Calls Tryz.prog 84 #[.pointer (some ⟨g, 0, none⟩)] w fun e w' => e = .returned (.int .i64 n) ∧ RF w0 w' g L (a : Int) false) :
    Calls Tryz.prog 59 #[.string L] w fun e w' => e = .returned (.tuple #[.agg #[.int .i64 rx, .int .i64 ry, .bool rb], .int .i64 re]) ∧ Below w.heap.size w w' := by
  have M1 := Lib.hid m1
  have HWAY := Lib.hid hway
  clear m1 hway
  go_enter Tryz.func59, Tryz.ntmps59
  go_wp2_with fail
  obtain ⟨W, hW⟩ : ∃ W_, W_ = (w.alloc (.cells #[.int .i64 0, .int .i64 0, .bool false] 23)).alloc (rdr L 0 false) := ⟨_, rfl⟩
  rw [← hW]
  have hT : W.heap[w.heap.size]? = some (.cells #[.int .i64 0, .int .i64 0, .bool false] 23 (0, 0)) := by rw [hW, Hand.q4 _ _ _ (by simp)]; exact Hand.q3 _ _ _ rfl
  have hX : W.heap[w.heap.size + 1]? = some (rdr L 0 false) := by rw [hW]; exact Hand.q3 _ _ _ (by simp)
  have hBW : Below w.heap.size w W := by rw [hW]; exact ((Below.refl _ _).alloc (Nat.le_refl _) _).alloc (by simp) _
  clear hW
  with_reducible refine (M1.out W _ _ hX (Fx.refl _ _)).mono ?_
  rintro e w1 ⟨rfl, hx1, hF1⟩
  have hT1 := hF1.kb hT (by omega)
  have hB1 := hF1.below hBW (by omega) hBW.size
  clear hT hX hBW hF1
  have hS1 : w.heap.size + 2 ≤ w1.heap.size := by have := (Hand.hz hx1).1; omega
  have g_T := hT1
  have g_X := hx1
  have hB := hB1
  clear hT1 hx1 hB1
  obtain ⟨z_T, z1_T, z2_T, y0_T, y1_T⟩ := Hand.hz g_T
  obtain ⟨c_T_0, f_T_0, c_T_1, f_T_1, c_T_2, f_T_2⟩ := Hand.hc3 g_T
  obtain ⟨z_X, z1_X, z2_X, y0_X, y1_X⟩ := Hand.hz g_X
  obtain ⟨c_X_0, f_X_0, c_X_1, f_X_1, c_X_2, f_X_2⟩ := Hand.hc3 g_X
  have zw : w.heap.size ≤ w1.heap.size := hB.size
  have HG := Lib.hid (And.intro g_T (And.intro g_X (hB)))
  clear g_T g_X hB
  rcases HWAY.out with ⟨hv, h47, h100, rfl, rfl, rfl, rfl⟩ | ⟨hv, h100, hm, rfl, rfl, rfl, rfl⟩ | ⟨hv, h100, hm, hc, rfl, rfl, rfl, rfl, m5⟩ | ⟨hv, h100, hm, rfl, rfl, rfl, rfl, m5⟩ | ⟨hm, hc, rfl, rfl, rfl, rfl, m5⟩ | ⟨hm, rfl, rfl, rfl, rfl, m5⟩
  · have W_ := True.intro
    have g1 : ((a : Int) < (L.size : Int)) = True := eq_true (by omega)
    have g2 : (a < L.size) = True := eq_true (by omega)
    have hwq : IntKind.i64.wrap ((a : Int) + 1) = (a : Int) + 1 := by rw [IntKind.wrap_i64]; omega
    obtain ⟨v, hv2⟩ : ∃ v : Nat, (L[a]'hv).toNat = v := ⟨_, rfl⟩
    have hv3 : ((L[a]'hv).toNat : Int) = (v : Int) := by rw [hv2]
    rw [hv3] at h100 h47
    clear hv2
    have hne : ((a : Int) == (L.size : Int)) = false := by simp; omega
    have hne2 : ((a : Int) != (L.size : Int)) = true := by simp; omega
    have hne3 : ¬ a = L.size := by omega
    go_wp2
    obtain ⟨g_T, g_X, hB⟩ := HG.out
    refine bodyPost_ret (results_ct rfl _ _ (w.heap.size) 23 #[.int .i64 0, .int .i64 0, .bool false] (0, 0) _ rfl ?_ Tryz.underlying23 rfl (by kernel_rfl)) rfl ⟨rfl, ?_⟩
    · simp (disch := (first | omega | (simp only [World.size_setCell, World.size_alloc, World.size_drew, Hand.size_drewN]; first | done | omega))) only [Hand.q1, Hand.q2, Hand.q4, Hand.q3, Hand.q5, Hand.q6, Option.map_some, Hand.putc_cells, List.setIfInBounds_toArray, List.set_cons_zero, List.set_cons_succ, g_T]; try rfl
    · repeat (with_reducible first | exact hB | exact HG.out.2.2 | exact HG.out.2.2.2 | apply Below.drew | apply pw_below_drewN | refine Below.setCell ?_ (by dsimp only; omega) _ | refine Below.alloc ?_ (by (first | omega | (simp only [World.size_setCell, World.size_alloc, World.size_drew, Hand.size_drewN]; first | done | omega))) _)
  · have W_ := True.intro
    have g1 : ((a : Int) < (L.size : Int)) = True := eq_true (by omega)
    have g2 : (a < L.size) = True := eq_true (by omega)
    have hwq : IntKind.i64.wrap ((a : Int) + 1) = (a : Int) + 1 := by rw [IntKind.wrap_i64]; omega
    have hv2 : ((L[a]'hv).toNat : Int) = 100 := by omega
    have hne : ((a : Int) + 1 == (L.size : Int)) = false := by simp; omega
    have hne2 : ((a : Int) + 1 != (L.size : Int)) = true := by simp; omega
    have hne3 : ¬ (a : Int) + 1 = (L.size : Int) := by omega
    go_wp2
    obtain ⟨g_T, g_X, hB⟩ := HG.out
    refine bodyPost_ret (results_ct rfl _ _ (w.heap.size) 23 #[.int .i64 0, .int .i64 0, .bool false] (0, 0) _ rfl ?_ Tryz.underlying23 rfl (by kernel_rfl)) rfl ⟨rfl, ?_⟩
    · simp (disch := (first | omega | (simp only [World.size_setCell, World.size_alloc, World.size_drew, Hand.size_drewN]; first | done | omega))) only [Hand.q1, Hand.q2, Hand.q4, Hand.q3, Hand.q5, Hand.q6, Option.map_some, Hand.putc_cells, List.setIfInBounds_toArray, List.set_cons_zero, List.set_cons_succ, g_T]; try rfl
    · repeat (with_reducible first | exact hB | exact HG.out.2.2 | exact HG.out.2.2.2 | apply Below.drew | apply pw_below_drewN | refine Below.setCell ?_ (by dsimp only; omega) _ | refine Below.alloc ?_ (by (first | omega | (simp only [World.size_setCell, World.size_alloc, World.size_drew, Hand.size_drewN]; first | done | omega))) _)
  · have W_ := True.intro
    have M5 := Lib.hid m5
    clear m5
    have g1 : ((a : Int) < (L.size : Int)) = True := eq_true (by omega)
    have g2 : (a < L.size) = True := eq_true (by omega)
    have hwq : IntKind.i64.wrap ((a : Int) + 1) = (a : Int) + 1 := by rw [IntKind.wrap_i64]; omega
    have hv2 : ((L[a]'hv).toNat : Int) = 100 := by omega
    have heq : ((a : Int) + 1 == (L.size : Int)) = true := by simp; omega
    have heq2 : ((a : Int) + 1 != (L.size : Int)) = false := by simp; omega
    have heq3 : (a : Int) + 1 = (L.size : Int) := by omega
    have hc2 : (c == 0) = false := by simpa using hc
    have hc3 : (c != 0) = true := by simpa using hc
    have hc4 : ¬ c = 0 := by simpa using hc
    go_wp2_with fail
    with_reducible refine (M5.out _).mono ?_
    rintro e w5 ⟨rfl, hq⟩
    obtain ⟨g_T, g_X, hB⟩ := HG.out
    have h_T : w5.heap[w.heap.size]? = some (.cells #[.int .i64 0, .int .i64 0, .bool false] 23 (0, 0)) := by
      refine Hand.kb hq ?_; first | with_reducible exact g_T | (simp (disch := first | omega | (simp only [Hand.sa, Hand.ss, Hand.sd, Hand.sn]; first | done | omega)) only [Hand.q2, Hand.q1, Hand.q5, Hand.q6, Hand.q4, Hand.q3, g_T] <;> rfl)
    have h_X : w5.heap[w.heap.size + 1]? = some (.cells #[.string L, .int .i64 (L.size : Int), .bool false] 111 (0, 0)) := by
      refine Hand.kb hq ?_; simp (disch := first | omega | (simp only [Hand.sa, Hand.ss, Hand.sd, Hand.sn]; first | done | omega)) only [Hand.q2, Hand.q1, Hand.q5, Hand.q6, Hand.q4, Hand.q3, g_X] <;> rfl
    have h_R : w5.heap[w1.heap.size]? = some (.cells #[.int .i64 n, .int .i64 1, .bool true] 23 (0, 0)) := by
      refine Hand.kb hq ?_; simp (disch := first | omega | (simp only [Hand.sa, Hand.ss, Hand.sd, Hand.sn]; first | done | omega)) only [Hand.q2, Hand.q1, Hand.q5, Hand.q6, Hand.q4, Hand.q3] <;> rfl
    have hB' : Below w.heap.size w w5 := Hand.stepB hq (by repeat (with_reducible first | apply hB | apply Below.drew | apply pw_below_drewN | (apply Below.setCell; rotate_left; (dsimp only; omega)) | (apply Below.alloc; rotate_left; (first | omega | (simp only [Hand.sa, Hand.ss, Hand.sd, Hand.sn]; omega))))) (Nat.le_refl _)
    clear HG hB g_T g_X zw z_T z1_T z2_T y0_T y1_T c_T_0 f_T_0 c_T_1 f_T_1 c_T_2 f_T_2 z_X z1_X z2_X y0_X y1_X c_X_0 f_X_0 c_X_1 f_X_1 c_X_2 f_X_2
    clear hq
    have g_T := h_T
    have g_X := h_X
    have g_R := h_R
    have hB := hB'
    clear hB' h_T h_X h_R
    obtain ⟨z_T, z1_T, z2_T, y0_T, y1_T⟩ := Hand.hz g_T
    obtain ⟨c_T_0, f_T_0, c_T_1, f_T_1, c_T_2, f_T_2⟩ := Hand.hc3 g_T
    obtain ⟨z_X, z1_X, z2_X, y0_X, y1_X⟩ := Hand.hz g_X
    obtain ⟨c_X_0, f_X_0, c_X_1, f_X_1, c_X_2, f_X_2⟩ := Hand.hc3 g_X
    obtain ⟨z_R, z1_R, z2_R, y0_R, y1_R⟩ := Hand.hz g_R
    obtain ⟨c_R_0, f_R_0, c_R_1, f_R_1, c_R_2, f_R_2⟩ := Hand.hc3 g_R
    have zw : w.heap.size ≤ w5.heap.size := hB.size
    have HG := Lib.hid (And.intro g_T (And.intro g_X (And.intro g_R (hB))))
    clear g_T g_X g_R hB
    go_wp2
    obtain ⟨g_T, g_X, g_R, hB⟩ := HG.out
    refine bodyPost_ret (results_ct rfl _ _ (w.heap.size) 23 #[.int .i64 0, .int .i64 0, .bool false] (0, 0) _ rfl ?_ Tryz.underlying23 rfl (by kernel_rfl)) rfl ⟨rfl, ?_⟩
    · simp (disch := (first | omega | (simp only [World.size_setCell, World.size_alloc, World.size_drew, Hand.size_drewN]; first | done | omega))) only [Hand.q1, Hand.q2, Hand.q4, Hand.q3, Hand.q5, Hand.q6, Option.map_some, Hand.putc_cells, List.setIfInBounds_toArray, List.set_cons_zero, List.set_cons_succ, g_T]; try rfl
    · repeat (with_reducible first | exact hB | exact HG.out.2.2 | exact HG.out.2.2.2 | apply Below.drew | apply pw_below_drewN | refine Below.setCell ?_ (by dsimp only; omega) _ | refine Below.alloc ?_ (by (first | omega | (simp only [World.size_setCell, World.size_alloc, World.size_drew, Hand.size_drewN]; first | done | omega))) _)
  · have W_ := True.intro
    have M5 := Lib.hid m5
    clear m5
    have g1 : ((a : Int) < (L.size : Int)) = True := eq_true (by omega)
    have g2 : (a < L.size) = True := eq_true (by omega)
    have hwq : IntKind.i64.wrap ((a : Int) + 1) = (a : Int) + 1 := by rw [IntKind.wrap_i64]; omega
    have hv2 : ((L[a]'hv).toNat : Int) = 100 := by omega
    have heq : ((a : Int) + 1 == (L.size : Int)) = true := by simp; omega
    have heq2 : ((a : Int) + 1 != (L.size : Int)) = false := by simp; omega
    have heq3 : (a : Int) + 1 = (L.size : Int) := by omega
    go_wp2_with fail
    with_reducible refine (M5.out _).mono ?_
    rintro e w5 ⟨rfl, hq⟩
    obtain ⟨g_T, g_X, hB⟩ := HG.out
    have h_T : w5.heap[w.heap.size]? = some (.cells #[.int .i64 0, .int .i64 0, .bool false] 23 (0, 0)) := by
      refine Hand.kb hq ?_; first | with_reducible exact g_T | (simp (disch := first | omega | (simp only [Hand.sa, Hand.ss, Hand.sd, Hand.sn]; first | done | omega)) only [Hand.q2, Hand.q1, Hand.q5, Hand.q6, Hand.q4, Hand.q3, g_T] <;> rfl)
    have h_X : w5.heap[w.heap.size + 1]? = some (.cells #[.string L, .int .i64 (L.size : Int), .bool false] 111 (0, 0)) := by
      refine Hand.kb hq ?_; simp (disch := first | omega | (simp only [Hand.sa, Hand.ss, Hand.sd, Hand.sn]; first | done | omega)) only [Hand.q2, Hand.q1, Hand.q5, Hand.q6, Hand.q4, Hand.q3, g_X] <;> rfl
    have h_R : w5.heap[w1.heap.size]? = some (.cells #[.int .i64 n, .int .i64 1, .bool true] 23 (0, 0)) := by
      refine Hand.kb hq ?_; simp (disch := first | omega | (simp only [Hand.sa, Hand.ss, Hand.sd, Hand.sn]; first | done | omega)) only [Hand.q2, Hand.q1, Hand.q5, Hand.q6, Hand.q4, Hand.q3] <;> rfl
    have hB' : Below w.heap.size w w5 := Hand.stepB hq (by repeat (with_reducible first | apply hB | apply Below.drew | apply pw_below_drewN | (apply Below.setCell; rotate_left; (dsimp only; omega)) | (apply Below.alloc; rotate_left; (first | omega | (simp only [Hand.sa, Hand.ss, Hand.sd, Hand.sn]; omega))))) (Nat.le_refl _)
    clear HG hB g_T g_X zw z_T z1_T z2_T y0_T y1_T c_T_0 f_T_0 c_T_1 f_T_1 c_T_2 f_T_2 z_X z1_X z2_X y0_X y1_X c_X_0 f_X_0 c_X_1 f_X_1 c_X_2 f_X_2
    clear hq
    have g_T := h_T
    have g_X := h_X
    have g_R := h_R
    have hB := hB'
    clear hB' h_T h_X h_R
    obtain ⟨z_T, z1_T, z2_T, y0_T, y1_T⟩ := Hand.hz g_T
    obtain ⟨c_T_0, f_T_0, c_T_1, f_T_1, c_T_2, f_T_2⟩ := Hand.hc3 g_T
    obtain ⟨z_X, z1_X, z2_X, y0_X, y1_X⟩ := Hand.hz g_X
    obtain ⟨c_X_0, f_X_0, c_X_1, f_X_1, c_X_2, f_X_2⟩ := Hand.hc3 g_X
    obtain ⟨z_R, z1_R, z2_R, y0_R, y1_R⟩ := Hand.hz g_R
    obtain ⟨c_R_0, f_R_0, c_R_1, f_R_1, c_R_2, f_R_2⟩ := Hand.hc3 g_R
    have zw : w.heap.size ≤ w5.heap.size := hB.size
    have HG := Lib.hid (And.intro g_T (And.intro g_X (And.intro g_R (hB))))
    clear g_T g_X g_R hB
    go_wp2
    obtain ⟨g_T, g_X, g_R, hB⟩ := HG.out
    refine bodyPost_ret (results_ct rfl _ _ (w.heap.size) 23 #[.int .i64 n, .int .i64 1, .bool true] (0, 0) _ rfl ?_ Tryz.underlying23 rfl (by kernel_rfl)) rfl ⟨rfl, ?_⟩
    · simp (disch := (first | omega | (simp only [World.size_setCell, World.size_alloc, World.size_drew, Hand.size_drewN]; first | done | omega))) only [Hand.q1, Hand.q2, Hand.q4, Hand.q3, Hand.q5, Hand.q6, Option.map_some, Hand.putc_cells, List.setIfInBounds_toArray, List.set_cons_zero, List.set_cons_succ, g_T]; try rfl
    · repeat (with_reducible first | exact hB | exact HG.out.2.2 | exact HG.out.2.2.2 | apply Below.drew | apply pw_below_drewN | refine Below.setCell ?_ (by dsimp only; omega) _ | refine Below.alloc ?_ (by (first | omega | (simp only [World.size_setCell, World.size_alloc, World.size_drew, Hand.size_drewN]; first | done | omega))) _)
  · have W_ := True.intro
    have M5 := Lib.hid m5
    clear m5
    have g1 : ((a : Int) < (L.size : Int)) = False := eq_false (by omega)
    have g2 : (a < L.size) = False := eq_false (by omega)
    have heq : ((a : Int) == (L.size : Int)) = true := by simp; omega
    have heq2 : ((a : Int) != (L.size : Int)) = false := by simp; omega
    have hc2 : (c == 0) = false := by simpa using hc
    have hc3 : (c != 0) = true := by simpa using hc
    have hc4 : ¬ c = 0 := by simpa using hc
    go_wp2_with fail
    with_reducible refine (M5.out _).mono ?_
    rintro e w5 ⟨rfl, hq⟩
    obtain ⟨g_T, g_X, hB⟩ := HG.out
    have h_T : w5.heap[w.heap.size]? = some (.cells #[.int .i64 0, .int .i64 0, .bool false] 23 (0, 0)) := by
      refine Hand.kb hq ?_; first | with_reducible exact g_T | (simp (disch := first | omega | (simp only [Hand.sa, Hand.ss, Hand.sd, Hand.sn]; first | done | omega)) only [Hand.q2, Hand.q1, Hand.q5, Hand.q6, Hand.q4, Hand.q3, g_T] <;> rfl)
    have h_X : w5.heap[w.heap.size + 1]? = some (.cells #[.string L, .int .i64 (a : Int), .bool false] 111 (0, 0)) := by
      refine Hand.kb hq ?_; simp (disch := first | omega | (simp only [Hand.sa, Hand.ss, Hand.sd, Hand.sn]; first | done | omega)) only [Hand.q2, Hand.q1, Hand.q5, Hand.q6, Hand.q4, Hand.q3, g_X] <;> rfl
    have h_R : w5.heap[w1.heap.size]? = some (.cells #[.int .i64 n, .int .i64 1, .bool false] 23 (0, 0)) := by
      refine Hand.kb hq ?_; simp (disch := first | omega | (simp only [Hand.sa, Hand.ss, Hand.sd, Hand.sn]; first | done | omega)) only [Hand.q2, Hand.q1, Hand.q5, Hand.q6, Hand.q4, Hand.q3] <;> rfl
    have hB' : Below w.heap.size w w5 := Hand.stepB hq (by repeat (with_reducible first | apply hB | apply Below.drew | apply pw_below_drewN | (apply Below.setCell; rotate_left; (dsimp only; omega)) | (apply Below.alloc; rotate_left; (first | omega | (simp only [Hand.sa, Hand.ss, Hand.sd, Hand.sn]; omega))))) (Nat.le_refl _)
    clear HG hB g_T g_X zw z_T z1_T z2_T y0_T y1_T c_T_0 f_T_0 c_T_1 f_T_1 c_T_2 f_T_2 z_X z1_X z2_X y0_X y1_X c_X_0 f_X_0 c_X_1 f_X_1 c_X_2 f_X_2
    clear hq
    have g_T := h_T
    have g_X := h_X
    have g_R := h_R
    have hB := hB'
    clear hB' h_T h_X h_R
    obtain ⟨z_T, z1_T, z2_T, y0_T, y1_T⟩ := Hand.hz g_T
    obtain ⟨c_T_0, f_T_0, c_T_1, f_T_1, c_T_2, f_T_2⟩ := Hand.hc3 g_T
    obtain ⟨z_X, z1_X, z2_X, y0_X, y1_X⟩ := Hand.hz g_X
    obtain ⟨c_X_0, f_X_0, c_X_1, f_X_1, c_X_2, f_X_2⟩ := Hand.hc3 g_X
    obtain ⟨z_R, z1_R, z2_R, y0_R, y1_R⟩ := Hand.hz g_R
    obtain ⟨c_R_0, f_R_0, c_R_1, f_R_1, c_R_2, f_R_2⟩ := Hand.hc3 g_R
    have zw : w.heap.size ≤ w5.heap.size := hB.size
    have HG := Lib.hid (And.intro g_T (And.intro g_X (And.intro g_R (hB))))
    clear g_T g_X g_R hB
    go_wp2
    obtain ⟨g_T, g_X, g_R, hB⟩ := HG.out
    refine bodyPost_ret (results_ct rfl _ _ (w.heap.size) 23 #[.int .i64 0, .int .i64 0, .bool false] (0, 0) _ rfl ?_ Tryz.underlying23 rfl (by kernel_rfl)) rfl ⟨rfl, ?_⟩
    · simp (disch := (first | omega | (simp only [World.size_setCell, World.size_alloc, World.size_drew, Hand.size_drewN]; first | done | omega))) only [Hand.q1, Hand.q2, Hand.q4, Hand.q3, Hand.q5, Hand.q6, Option.map_some, Hand.putc_cells, List.setIfInBounds_toArray, List.set_cons_zero, List.set_cons_succ, g_T]; try rfl
    · repeat (with_reducible first | exact hB | exact HG.out.2.2 | exact HG.out.2.2.2 | apply Below.drew | apply pw_below_drewN | refine Below.setCell ?_ (by dsimp only; omega) _ | refine Below.alloc ?_ (by (first | omega | (simp only [World.size_setCell, World.size_alloc, World.size_drew, Hand.size_drewN]; first | done | omega))) _)
  · have W_ := True.intro
    have M5 := Lib.hid m5
    clear m5
    have g1 : ((a : Int) < (L.size : Int)) = False := eq_false (by omega)
    have g2 : (a < L.size) = False := eq_false (by omega)
    have heq : ((a : Int) == (L.size : Int)) = true := by simp; omega
    have heq2 : ((a : Int) != (L.size : Int)) = false := by simp; omega
    go_wp2_with fail
    with_reducible refine (M5.out _).mono ?_
    rintro e w5 ⟨rfl, hq⟩
    obtain ⟨g_T, g_X, hB⟩ := HG.out
    have h_T : w5.heap[w.heap.size]? = some (.cells #[.int .i64 0, .int .i64 0, .bool false] 23 (0, 0)) := by
      refine Hand.kb hq ?_; first | with_reducible exact g_T | (simp (disch := first | omega | (simp only [Hand.sa, Hand.ss, Hand.sd, Hand.sn]; first | done | omega)) only [Hand.q2, Hand.q1, Hand.q5, Hand.q6, Hand.q4, Hand.q3, g_T] <;> rfl)
    have h_X : w5.heap[w.heap.size + 1]? = some (.cells #[.string L, .int .i64 (a : Int), .bool false] 111 (0, 0)) := by
      refine Hand.kb hq ?_; simp (disch := first | omega | (simp only [Hand.sa, Hand.ss, Hand.sd, Hand.sn]; first | done | omega)) only [Hand.q2, Hand.q1, Hand.q5, Hand.q6, Hand.q4, Hand.q3, g_X] <;> rfl
    have h_R : w5.heap[w1.heap.size]? = some (.cells #[.int .i64 n, .int .i64 1, .bool false] 23 (0, 0)) := by
      refine Hand.kb hq ?_; simp (disch := first | omega | (simp only [Hand.sa, Hand.ss, Hand.sd, Hand.sn]; first | done | omega)) only [Hand.q2, Hand.q1, Hand.q5, Hand.q6, Hand.q4, Hand.q3] <;> rfl
    have hB' : Below w.heap.size w w5 := Hand.stepB hq (by repeat (with_reducible first | apply hB | apply Below.drew | apply pw_below_drewN | (apply Below.setCell; rotate_left; (dsimp only; omega)) | (apply Below.alloc; rotate_left; (first | omega | (simp only [Hand.sa, Hand.ss, Hand.sd, Hand.sn]; omega))))) (Nat.le_refl _)
    clear HG hB g_T g_X zw z_T z1_T z2_T y0_T y1_T c_T_0 f_T_0 c_T_1 f_T_1 c_T_2 f_T_2 z_X z1_X z2_X y0_X y1_X c_X_0 f_X_0 c_X_1 f_X_1 c_X_2 f_X_2
    clear hq
    have g_T := h_T
    have g_X := h_X
    have g_R := h_R
    have hB := hB'
    clear hB' h_T h_X h_R
    obtain ⟨z_T, z1_T, z2_T, y0_T, y1_T⟩ := Hand.hz g_T
    obtain ⟨c_T_0, f_T_0, c_T_1, f_T_1, c_T_2, f_T_2⟩ := Hand.hc3 g_T
    obtain ⟨z_X, z1_X, z2_X, y0_X, y1_X⟩ := Hand.hz g_X
    obtain ⟨c_X_0, f_X_0, c_X_1, f_X_1, c_X_2, f_X_2⟩ := Hand.hc3 g_X
    obtain ⟨z_R, z1_R, z2_R, y0_R, y1_R⟩ := Hand.hz g_R
    obtain ⟨c_R_0, f_R_0, c_R_1, f_R_1, c_R_2, f_R_2⟩ := Hand.hc3 g_R
    have zw : w.heap.size ≤ w5.heap.size := hB.size
    have HG := Lib.hid (And.intro g_T (And.intro g_X (And.intro g_R (hB))))
    clear g_T g_X g_R hB
    go_wp2
    obtain ⟨g_T, g_X, g_R, hB⟩ := HG.out
    refine bodyPost_ret (results_ct rfl _ _ (w.heap.size) 23 #[.int .i64 n, .int .i64 1, .bool false] (0, 0) _ rfl ?_ Tryz.underlying23 rfl (by kernel_rfl)) rfl ⟨rfl, ?_⟩
    · simp (disch := (first | omega | (simp only [World.size_setCell, World.size_alloc, World.size_drew, Hand.size_drewN]; first | done | omega))) only [Hand.q1, Hand.q2, Hand.q4, Hand.q3, Hand.q5, Hand.q6, Option.map_some, Hand.putc_cells, List.setIfInBounds_toArray, List.set_cons_zero, List.set_cons_succ, g_T]; try rfl
    · repeat (with_reducible first | exact hB | exact HG.out.2.2 | exact HG.out.2.2.2 | apply Below.drew | apply pw_below_drewN | refine Below.setCell ?_ (by dsimp only; omega) _ | refine Below.alloc ?_ (by (first | omega | (simp only [World.size_setCell, World.size_alloc, World.size_drew, Hand.size_drewN]; first | done | omega))) _)
set_option maxHeartbeats 6000000 in
set_option maxRecDepth 100000 in
theorem rrt_two (rx ry re c n d : Int) (rb b2 : Bool) (a : Nat) (L : ByteArray) (hS : L.size ≤ 9223372036854775807) (hp : a < L.size) (u : Nat) (hu : (L[a]'hp).toNat = u) (h47 : u = 47) (k : Nat) (hway : ((b2 = true) ∧ (0 = rx) ∧ (0 = ry) ∧ (false = rb) ∧ (13 = re)) ∨ ((b2 = false) ∧ ((d == 1) = true) ∧ (0 = rx) ∧ (0 = ry) ∧ (false = rb) ∧ (13 = re)) ∨ (∃ hv : k < L.size, ((((L[k]'hv).toNat : Int) == 100) = false) ∧ (0 = rx) ∧ (0 = ry) ∧ (false = rb) ∧ (13 = re) ∧ (b2 = false) ∧ ((d == 1) = false)) ∨ (∃ hv : k < L.size, ((L[k]'hv).toNat = 100) ∧ (k + 1 ≠ L.size) ∧ (0 = rx) ∧ (0 = ry) ∧ (false = rb) ∧ (13 = re) ∧ (b2 = false) ∧ ((d == 1) = false)) ∨ (∃ hv : k < L.size, ((L[k]'hv).toNat = 100) ∧ (k + 1 = L.size) ∧ ((c == 0) = false) ∧ (0 = rx) ∧ (0 = ry) ∧ (false = rb) ∧ (14 = re) ∧ (∀ w, Calls Tryz.prog 16 #[.agg #[.int .i64 n, .int .i64 d, .bool true]] w fun e w' => e = .returned (.int .i64 c) ∧ Below w.heap.size w w') ∧ (b2 = false) ∧ ((d == 1) = false)) ∨ (∃ hv : k < L.size, ((L[k]'hv).toNat = 100) ∧ (k + 1 = L.size) ∧ (n = rx) ∧ (d = ry) ∧ (true = rb) ∧ (0 = re) ∧ (∀ w, Calls Tryz.prog 16 #[.agg #[.int .i64 n, .int .i64 d, .bool true]] w fun e w' => e = .returned (.int .i64 0) ∧ Below w.heap.size w w') ∧ (b2 = false) ∧ ((d == 1) = false)) ∨ ((b2 = false) ∧ ((d == 1) = false) ∧ (k = L.size) ∧ ((c == 0) = false) ∧ (0 = rx) ∧ (0 = ry) ∧ (false = rb) ∧ (14 = re) ∧ (∀ w, Calls Tryz.prog 16 #[.agg #[.int .i64 n, .int .i64 d, .bool false]] w fun e w' => e = .returned (.int .i64 c) ∧ Below w.heap.size w w')) ∨ ((b2 = false) ∧ ((d == 1) = false) ∧ (k = L.size) ∧ (n = rx) ∧ (d = ry) ∧ (false = rb) ∧ (0 = re) ∧ (∀ w, Calls Tryz.prog 16 #[.agg #[.int .i64 n, .int .i64 d, .bool false]] w fun e w' => e = .returned (.int .i64 0) ∧ Below w.heap.size w w'))) (w : World)
    (m1 : ∀ w0 w g, w.heap[g]? = some (rdr L 0 false) → Fx g w0 w → Calls Tryz.prog 84 #[.pointer (some ⟨g, 0, none⟩)] w fun e w' => e = .returned (.int .i64 n) ∧ RF w0 w' g L (a : Int) false)
    (m2 : ∀ w0 w g, w.heap[g]? = some (rdr L ((a : Int) + 1) false) → Fx g w0 w → Calls Tryz.prog 84 #[.pointer (some ⟨g, 0, none⟩)] w fun e w' => e = .returned (.int .i64 d) ∧ RF w0 w' g L (k : Int) b2) :
    Calls Tryz.prog 59 #[.string L] w fun e w' => e = .returned (.tuple #[.agg #[.int .i64 rx, .int .i64 ry, .bool rb], .int .i64 re]) ∧ Below w.heap.size w w' := by
  have g1 : ((a : Int) < (L.size : Int)) = True := eq_true (by omega)
  have g2 : (a < L.size) = True := eq_true (by omega)
  have hw : IntKind.i64.wrap ((a : Int) + 1) = (a : Int) + 1 := by rw [IntKind.wrap_i64]; omega
  have hu2 : ((L[a]'hp).toNat : Int) = (u : Int) := by rw [hu]
  subst h47
  have M1 := Lib.hid m1
  have M2 := Lib.hid m2
  have HWAY := Lib.hid hway
  clear m1 m2 hway
  go_enter Tryz.func59, Tryz.ntmps59
  go_wp2_with fail
  obtain ⟨W, hW⟩ : ∃ W_, W_ = (w.alloc (.cells #[.int .i64 0, .int .i64 0, .bool false] 23)).alloc (rdr L 0 false) := ⟨_, rfl⟩
  rw [← hW]
  have hT : W.heap[w.heap.size]? = some (.cells #[.int .i64 0, .int .i64 0, .bool false] 23 (0, 0)) := by rw [hW, Hand.q4 _ _ _ (by simp)]; exact Hand.q3 _ _ _ rfl
  have hX : W.heap[w.heap.size + 1]? = some (rdr L 0 false) := by rw [hW]; exact Hand.q3 _ _ _ (by simp)
  have hBW : Below w.heap.size w W := by rw [hW]; exact ((Below.refl _ _).alloc (Nat.le_refl _) _).alloc (by simp) _
  clear hW
  with_reducible refine (M1.out W _ _ hX (Fx.refl _ _)).mono ?_
  rintro e w1 ⟨rfl, hx1, hF1⟩
  have hT1 := hF1.kb hT (by omega)
  have hB1 := hF1.below hBW (by omega) hBW.size
  clear hT hX hBW hF1
  have hS1 : w.heap.size + 2 ≤ w1.heap.size := by have := (Hand.hz hx1).1; omega
  have g_T := hT1
  have g_X := hx1
  have hB := hB1
  clear hT1 hx1 hB1
  obtain ⟨z_T, z1_T, z2_T, y0_T, y1_T⟩ := Hand.hz g_T
  obtain ⟨c_T_0, f_T_0, c_T_1, f_T_1, c_T_2, f_T_2⟩ := Hand.hc3 g_T
  obtain ⟨z_X, z1_X, z2_X, y0_X, y1_X⟩ := Hand.hz g_X
  obtain ⟨c_X_0, f_X_0, c_X_1, f_X_1, c_X_2, f_X_2⟩ := Hand.hc3 g_X
  have zw : w.heap.size ≤ w1.heap.size := hB.size
  have HG := Lib.hid (And.intro g_T (And.intro g_X (hB)))
  clear g_T g_X hB
  go_wp2_with fail
  with_reducible refine (M2.out _ _ _ (by simp (disch := (first | omega | (simp only [World.size_setCell, World.size_alloc, World.size_drew, Hand.size_drewN]; first | done | omega))) only [Hand.q1, Hand.q2, Hand.q4, Hand.q3, Hand.q5, Hand.q6, Option.map_some, Hand.putc_cells, List.setIfInBounds_toArray, List.set_cons_zero, List.set_cons_succ, HG.out.2.1]) (Fx.refl _ _)).mono ?_
  rintro e w2 ⟨rfl, hx2, hF2⟩
  have hT2 := hF2.kb (k := w.heap.size) (o := .cells #[.int .i64 0, .int .i64 0, .bool false] 23 (0, 0)) (by simp (disch := (first | omega | (simp only [World.size_setCell, World.size_alloc, World.size_drew, Hand.size_drewN]; first | done | omega))) only [Hand.q1, Hand.q2, Hand.q4, Hand.q3, Hand.q5, Hand.q6, Option.map_some, Hand.putc_cells, List.setIfInBounds_toArray, List.set_cons_zero, List.set_cons_succ, HG.out.1]) (by omega)
  have hR2 := hF2.kb (k := w1.heap.size) (o := .cells #[.int .i64 n, .int .i64 1, .bool false] 23 (0, 0)) (by simp (disch := (first | omega | (simp only [World.size_setCell, World.size_alloc, World.size_drew, Hand.size_drewN]; first | done | omega))) only [Hand.q1, Hand.q2, Hand.q4, Hand.q3, Hand.q5, Hand.q6, Option.map_some, Hand.putc_cells, List.setIfInBounds_toArray, List.set_cons_zero, List.set_cons_succ, World.size_setCell]) (by omega)
  have hB2 : Below w.heap.size w w2 := hF2.below (by repeat (with_reducible first | exact hB | exact HG.out.2.2 | exact HG.out.2.2.2 | apply Below.drew | apply pw_below_drewN | refine Below.setCell ?_ (by dsimp only; omega) _ | refine Below.alloc ?_ (by (first | omega | (simp only [World.size_setCell, World.size_alloc, World.size_drew, Hand.size_drewN]; first | done | omega))) _)) (by omega) (by first | omega | (simp only [World.size_setCell, World.size_alloc, World.size_drew, Hand.size_drewN]; omega))
  have hS2 : w1.heap.size + 1 ≤ w2.heap.size := by have := (Hand.hz hR2).1; omega
  clear HG hF2 zw z_T z1_T z2_T y0_T y1_T c_T_0 f_T_0 c_T_1 f_T_1 c_T_2 f_T_2 z_X z1_X z2_X y0_X y1_X c_X_0 f_X_0 c_X_1 f_X_1 c_X_2 f_X_2
  have g_T := hT2
  have g_X := hx2
  have g_R := hR2
  have hB := hB2
  clear hT2 hx2 hR2 hB2
  obtain ⟨z_T, z1_T, z2_T, y0_T, y1_T⟩ := Hand.hz g_T
  obtain ⟨c_T_0, f_T_0, c_T_1, f_T_1, c_T_2, f_T_2⟩ := Hand.hc3 g_T
  obtain ⟨z_X, z1_X, z2_X, y0_X, y1_X⟩ := Hand.hz g_X
  obtain ⟨c_X_0, f_X_0, c_X_1, f_X_1, c_X_2, f_X_2⟩ := Hand.hc3 g_X
  obtain ⟨z_R, z1_R, z2_R, y0_R, y1_R⟩ := Hand.hz g_R
  obtain ⟨c_R_0, f_R_0, c_R_1, f_R_1, c_R_2, f_R_2⟩ := Hand.hc3 g_R
  have zw : w.heap.size ≤ w2.heap.size := hB.size
  have HG := Lib.hid (And.intro g_T (And.intro g_X (And.intro g_R (hB))))
  clear g_T g_X g_R hB
  rcases HWAY.out with ⟨rfl, rfl, rfl, rfl, rfl⟩ | ⟨rfl, hd, rfl, rfl, rfl, rfl⟩ | ⟨hv, h100, rfl, rfl, rfl, rfl, rfl, hd⟩ | ⟨hv, h100, hm, rfl, rfl, rfl, rfl, rfl, hd⟩ | ⟨hv, h100, hm, hc, rfl, rfl, rfl, rfl, m5, rfl, hd⟩ | ⟨hv, h100, hm, rfl, rfl, rfl, rfl, m5, rfl, hd⟩ | ⟨rfl, hd, hm, hc, rfl, rfl, rfl, rfl, m5⟩ | ⟨rfl, hd, hm, rfl, rfl, rfl, rfl, m5⟩
  · have W_ := True.intro
    go_wp2
    obtain ⟨g_T, g_X, g_R, hB⟩ := HG.out
    refine bodyPost_ret (results_ct rfl _ _ (w.heap.size) 23 #[.int .i64 0, .int .i64 0, .bool false] (0, 0) _ rfl ?_ Tryz.underlying23 rfl (by kernel_rfl)) rfl ⟨rfl, ?_⟩
    · simp (disch := (first | omega | (simp only [World.size_setCell, World.size_alloc, World.size_drew, Hand.size_drewN]; first | done | omega))) only [Hand.q1, Hand.q2, Hand.q4, Hand.q3, Hand.q5, Hand.q6, Option.map_some, Hand.putc_cells, List.setIfInBounds_toArray, List.set_cons_zero, List.set_cons_succ, g_T]; try rfl
    · repeat (with_reducible first | exact hB | exact HG.out.2.2 | exact HG.out.2.2.2 | apply Below.drew | apply pw_below_drewN | refine Below.setCell ?_ (by dsimp only; omega) _ | refine Below.alloc ?_ (by (first | omega | (simp only [World.size_setCell, World.size_alloc, World.size_drew, Hand.size_drewN]; first | done | omega))) _)
  · have W_ := True.intro
    go_wp2
    obtain ⟨g_T, g_X, g_R, hB⟩ := HG.out
    refine bodyPost_ret (results_ct rfl _ _ (w.heap.size) 23 #[.int .i64 0, .int .i64 0, .bool false] (0, 0) _ rfl ?_ Tryz.underlying23 rfl (by kernel_rfl)) rfl ⟨rfl, ?_⟩
    · simp (disch := (first | omega | (simp only [World.size_setCell, World.size_alloc, World.size_drew, Hand.size_drewN]; first | done | omega))) only [Hand.q1, Hand.q2, Hand.q4, Hand.q3, Hand.q5, Hand.q6, Option.map_some, Hand.putc_cells, List.setIfInBounds_toArray, List.set_cons_zero, List.set_cons_succ, g_T]; try rfl
    · repeat (with_reducible first | exact hB | exact HG.out.2.2 | exact HG.out.2.2.2 | apply Below.drew | apply pw_below_drewN | refine Below.setCell ?_ (by dsimp only; omega) _ | refine Below.alloc ?_ (by (first | omega | (simp only [World.size_setCell, World.size_alloc, World.size_drew, Hand.size_drewN]; first | done | omega))) _)
  · have W_ := True.intro
    have hd2 : ¬ d = 1 := by simpa using hd
    have q1 : ((k : Int) < (L.size : Int)) = True := eq_true (by omega)
    have q2 : (k < L.size) = True := eq_true (by omega)
    have hwq : IntKind.i64.wrap ((k : Int) + 1) = (k : Int) + 1 := by rw [IntKind.wrap_i64]; omega
    obtain ⟨v, hv2⟩ : ∃ v : Nat, (L[k]'hv).toNat = v := ⟨_, rfl⟩
    have hv3 : ((L[k]'hv).toNat : Int) = (v : Int) := by rw [hv2]
    rw [hv3] at h100
    clear hv2
    have hne : ((k : Int) == (L.size : Int)) = false := by simp; omega
    have hne2 : ((k : Int) != (L.size : Int)) = true := by simp; omega
    have hne3 : ¬ k = L.size := by omega
    go_wp2
    obtain ⟨g_T, g_X, g_R, hB⟩ := HG.out
    refine bodyPost_ret (results_ct rfl _ _ (w.heap.size) 23 #[.int .i64 0, .int .i64 0, .bool false] (0, 0) _ rfl ?_ Tryz.underlying23 rfl (by kernel_rfl)) rfl ⟨rfl, ?_⟩
    · simp (disch := (first | omega | (simp only [World.size_setCell, World.size_alloc, World.size_drew, Hand.size_drewN]; first | done | omega))) only [Hand.q1, Hand.q2, Hand.q4, Hand.q3, Hand.q5, Hand.q6, Option.map_some, Hand.putc_cells, List.setIfInBounds_toArray, List.set_cons_zero, List.set_cons_succ, g_T]; try rfl
    · repeat (with_reducible first | exact hB | exact HG.out.2.2 | exact HG.out.2.2.2 | apply Below.drew | apply pw_below_drewN | refine Below.setCell ?_ (by dsimp only; omega) _ | refine Below.alloc ?_ (by (first | omega | (simp only [World.size_setCell, World.size_alloc, World.size_drew, Hand.size_drewN]; first | done | omega))) _)
  · have W_ := True.intro
    have hd2 : ¬ d = 1 := by simpa using hd
    have q1 : ((k : Int) < (L.size : Int)) = True := eq_true (by omega)
    have q2 : (k < L.size) = True := eq_true (by omega)
    have hwq : IntKind.i64.wrap ((k : Int) + 1) = (k : Int) + 1 := by rw [IntKind.wrap_i64]; omega
    have hv2 : ((L[k]'hv).toNat : Int) = 100 := by omega
    have hne : ((k : Int) + 1 == (L.size : Int)) = false := by simp; omega
    have hne2 : ((k : Int) + 1 != (L.size : Int)) = true := by simp; omega
    have hne3 : ¬ (k : Int) + 1 = (L.size : Int) := by omega
    go_wp2
    obtain ⟨g_T, g_X, g_R, hB⟩ := HG.out
    refine bodyPost_ret (results_ct rfl _ _ (w.heap.size) 23 #[.int .i64 0, .int .i64 0, .bool false] (0, 0) _ rfl ?_ Tryz.underlying23 rfl (by kernel_rfl)) rfl ⟨rfl, ?_⟩
    · simp (disch := (first | omega | (simp only [World.size_setCell, World.size_alloc, World.size_drew, Hand.size_drewN]; first | done | omega))) only [Hand.q1, Hand.q2, Hand.q4, Hand.q3, Hand.q5, Hand.q6, Option.map_some, Hand.putc_cells, List.setIfInBounds_toArray, List.set_cons_zero, List.set_cons_succ, g_T]; try rfl
    · repeat (with_reducible first | exact hB | exact HG.out.2.2 | exact HG.out.2.2.2 | apply Below.drew | apply pw_below_drewN | refine Below.setCell ?_ (by dsimp only; omega) _ | refine Below.alloc ?_ (by (first | omega | (simp only [World.size_setCell, World.size_alloc, World.size_drew, Hand.size_drewN]; first | done | omega))) _)
  · have W_ := True.intro
    have M5 := Lib.hid m5
    clear m5
    have hd2 : ¬ d = 1 := by simpa using hd
    have q1 : ((k : Int) < (L.size : Int)) = True := eq_true (by omega)
    have q2 : (k < L.size) = True := eq_true (by omega)
    have hwq : IntKind.i64.wrap ((k : Int) + 1) = (k : Int) + 1 := by rw [IntKind.wrap_i64]; omega
    have hv2 : ((L[k]'hv).toNat : Int) = 100 := by omega
    have heq : ((k : Int) + 1 == (L.size : Int)) = true := by simp; omega
    have heq2 : ((k : Int) + 1 != (L.size : Int)) = false := by simp; omega
    have heq3 : (k : Int) + 1 = (L.size : Int) := by omega
    have hc2 : (c == 0) = false := by simpa using hc
    have hc3 : (c != 0) = true := by simpa using hc
    have hc4 : ¬ c = 0 := by simpa using hc
    go_wp2_with fail
    with_reducible refine (M5.out _).mono ?_
    rintro e w5 ⟨rfl, hq⟩
    obtain ⟨g_T, g_X, g_R, hB⟩ := HG.out
    have h_T : w5.heap[w.heap.size]? = some (.cells #[.int .i64 0, .int .i64 0, .bool false] 23 (0, 0)) := by
      refine Hand.kb hq ?_; first | with_reducible exact g_T | (simp (disch := first | omega | (simp only [Hand.sa, Hand.ss, Hand.sd, Hand.sn]; first | done | omega)) only [Hand.q2, Hand.q1, Hand.q5, Hand.q6, Hand.q4, Hand.q3, g_T] <;> rfl)
    have h_X : w5.heap[w.heap.size + 1]? = some (.cells #[.string L, .int .i64 (L.size : Int), .bool false] 111 (0, 0)) := by
      refine Hand.kb hq ?_; simp (disch := first | omega | (simp only [Hand.sa, Hand.ss, Hand.sd, Hand.sn]; first | done | omega)) only [Hand.q2, Hand.q1, Hand.q5, Hand.q6, Hand.q4, Hand.q3, g_X] <;> rfl
    have h_R : w5.heap[w1.heap.size]? = some (.cells #[.int .i64 n, .int .i64 d, .bool true] 23 (0, 0)) := by
      refine Hand.kb hq ?_; simp (disch := first | omega | (simp only [Hand.sa, Hand.ss, Hand.sd, Hand.sn]; first | done | omega)) only [Hand.q2, Hand.q1, Hand.q5, Hand.q6, Hand.q4, Hand.q3, g_R] <;> rfl
    have hB' : Below w.heap.size w w5 := Hand.stepB hq (by repeat (with_reducible first | apply hB | apply Below.drew | apply pw_below_drewN | (apply Below.setCell; rotate_left; (dsimp only; omega)) | (apply Below.alloc; rotate_left; (first | omega | (simp only [Hand.sa, Hand.ss, Hand.sd, Hand.sn]; omega))))) (Nat.le_refl _)
    clear HG hB g_T g_X g_R zw z_T z1_T z2_T y0_T y1_T c_T_0 f_T_0 c_T_1 f_T_1 c_T_2 f_T_2 z_X z1_X z2_X y0_X y1_X c_X_0 f_X_0 c_X_1 f_X_1 c_X_2 f_X_2 z_R z1_R z2_R y0_R y1_R c_R_0 f_R_0 c_R_1 f_R_1 c_R_2 f_R_2
    clear hq
    have g_T := h_T
    have g_X := h_X
    have g_R := h_R
    have hB := hB'
    clear hB' h_T h_X h_R
    obtain ⟨z_T, z1_T, z2_T, y0_T, y1_T⟩ := Hand.hz g_T
    obtain ⟨c_T_0, f_T_0, c_T_1, f_T_1, c_T_2, f_T_2⟩ := Hand.hc3 g_T
    obtain ⟨z_X, z1_X, z2_X, y0_X, y1_X⟩ := Hand.hz g_X
    obtain ⟨c_X_0, f_X_0, c_X_1, f_X_1, c_X_2, f_X_2⟩ := Hand.hc3 g_X
    obtain ⟨z_R, z1_R, z2_R, y0_R, y1_R⟩ := Hand.hz g_R
    obtain ⟨c_R_0, f_R_0, c_R_1, f_R_1, c_R_2, f_R_2⟩ := Hand.hc3 g_R
    have zw : w.heap.size ≤ w5.heap.size := hB.size
    have HG := Lib.hid (And.intro g_T (And.intro g_X (And.intro g_R (hB))))
    clear g_T g_X g_R hB
    go_wp2
    obtain ⟨g_T, g_X, g_R, hB⟩ := HG.out
    refine bodyPost_ret (results_ct rfl _ _ (w.heap.size) 23 #[.int .i64 0, .int .i64 0, .bool false] (0, 0) _ rfl ?_ Tryz.underlying23 rfl (by kernel_rfl)) rfl ⟨rfl, ?_⟩
    · simp (disch := (first | omega | (simp only [World.size_setCell, World.size_alloc, World.size_drew, Hand.size_drewN]; first | done | omega))) only [Hand.q1, Hand.q2, Hand.q4, Hand.q3, Hand.q5, Hand.q6, Option.map_some, Hand.putc_cells, List.setIfInBounds_toArray, List.set_cons_zero, List.set_cons_succ, g_T]; try rfl
    · repeat (with_reducible first | exact hB | exact HG.out.2.2 | exact HG.out.2.2.2 | apply Below.drew | apply pw_below_drewN | refine Below.setCell ?_ (by dsimp only; omega) _ | refine Below.alloc ?_ (by (first | omega | (simp only [World.size_setCell, World.size_alloc, World.size_drew, Hand.size_drewN]; first | done | omega))) _)
  · have W_ := True.intro
    have M5 := Lib.hid m5
    clear m5
    have hd2 : ¬ d = 1 := by simpa using hd
    have q1 : ((k : Int) < (L.size : Int)) = True := eq_true (by omega)
    have q2 : (k < L.size) = True := eq_true (by omega)
    have hwq : IntKind.i64.wrap ((k : Int) + 1) = (k : Int) + 1 := by rw [IntKind.wrap_i64]; omega
    have hv2 : ((L[k]'hv).toNat : Int) = 100 := by omega
    have heq : ((k : Int) + 1 == (L.size : Int)) = true := by simp; omega
    have heq2 : ((k : Int) + 1 != (L.size : Int)) = false := by simp; omega
    have heq3 : (k : Int) + 1 = (L.size : Int) := by omega
    go_wp2_with fail
    with_reducible refine (M5.out _).mono ?_
    rintro e w5 ⟨rfl, hq⟩
    obtain ⟨g_T, g_X, g_R, hB⟩ := HG.out
    have h_T : w5.heap[w.heap.size]? = some (.cells #[.int .i64 0, .int .i64 0, .bool false] 23 (0, 0)) := by
      refine Hand.kb hq ?_; first | with_reducible exact g_T | (simp (disch := first | omega | (simp only [Hand.sa, Hand.ss, Hand.sd, Hand.sn]; first | done | omega)) only [Hand.q2, Hand.q1, Hand.q5, Hand.q6, Hand.q4, Hand.q3, g_T] <;> rfl)
    have h_X : w5.heap[w.heap.size + 1]? = some (.cells #[.string L, .int .i64 (L.size : Int), .bool false] 111 (0, 0)) := by
      refine Hand.kb hq ?_; simp (disch := first | omega | (simp only [Hand.sa, Hand.ss, Hand.sd, Hand.sn]; first | done | omega)) only [Hand.q2, Hand.q1, Hand.q5, Hand.q6, Hand.q4, Hand.q3, g_X] <;> rfl
    have h_R : w5.heap[w1.heap.size]? = some (.cells #[.int .i64 n, .int .i64 d, .bool true] 23 (0, 0)) := by
      refine Hand.kb hq ?_; simp (disch := first | omega | (simp only [Hand.sa, Hand.ss, Hand.sd, Hand.sn]; first | done | omega)) only [Hand.q2, Hand.q1, Hand.q5, Hand.q6, Hand.q4, Hand.q3, g_R] <;> rfl
    have hB' : Below w.heap.size w w5 := Hand.stepB hq (by repeat (with_reducible first | apply hB | apply Below.drew | apply pw_below_drewN | (apply Below.setCell; rotate_left; (dsimp only; omega)) | (apply Below.alloc; rotate_left; (first | omega | (simp only [Hand.sa, Hand.ss, Hand.sd, Hand.sn]; omega))))) (Nat.le_refl _)
    clear HG hB g_T g_X g_R zw z_T z1_T z2_T y0_T y1_T c_T_0 f_T_0 c_T_1 f_T_1 c_T_2 f_T_2 z_X z1_X z2_X y0_X y1_X c_X_0 f_X_0 c_X_1 f_X_1 c_X_2 f_X_2 z_R z1_R z2_R y0_R y1_R c_R_0 f_R_0 c_R_1 f_R_1 c_R_2 f_R_2
    clear hq
    have g_T := h_T
    have g_X := h_X
    have g_R := h_R
    have hB := hB'
    clear hB' h_T h_X h_R
    obtain ⟨z_T, z1_T, z2_T, y0_T, y1_T⟩ := Hand.hz g_T
    obtain ⟨c_T_0, f_T_0, c_T_1, f_T_1, c_T_2, f_T_2⟩ := Hand.hc3 g_T
    obtain ⟨z_X, z1_X, z2_X, y0_X, y1_X⟩ := Hand.hz g_X
    obtain ⟨c_X_0, f_X_0, c_X_1, f_X_1, c_X_2, f_X_2⟩ := Hand.hc3 g_X
    obtain ⟨z_R, z1_R, z2_R, y0_R, y1_R⟩ := Hand.hz g_R
    obtain ⟨c_R_0, f_R_0, c_R_1, f_R_1, c_R_2, f_R_2⟩ := Hand.hc3 g_R
    have zw : w.heap.size ≤ w5.heap.size := hB.size
    have HG := Lib.hid (And.intro g_T (And.intro g_X (And.intro g_R (hB))))
    clear g_T g_X g_R hB
    go_wp2
    obtain ⟨g_T, g_X, g_R, hB⟩ := HG.out
    refine bodyPost_ret (results_ct rfl _ _ (w.heap.size) 23 #[.int .i64 n, .int .i64 d, .bool true] (0, 0) _ rfl ?_ Tryz.underlying23 rfl (by kernel_rfl)) rfl ⟨rfl, ?_⟩
    · simp (disch := (first | omega | (simp only [World.size_setCell, World.size_alloc, World.size_drew, Hand.size_drewN]; first | done | omega))) only [Hand.q1, Hand.q2, Hand.q4, Hand.q3, Hand.q5, Hand.q6, Option.map_some, Hand.putc_cells, List.setIfInBounds_toArray, List.set_cons_zero, List.set_cons_succ, g_T]; try rfl
    · repeat (with_reducible first | exact hB | exact HG.out.2.2 | exact HG.out.2.2.2 | apply Below.drew | apply pw_below_drewN | refine Below.setCell ?_ (by dsimp only; omega) _ | refine Below.alloc ?_ (by (first | omega | (simp only [World.size_setCell, World.size_alloc, World.size_drew, Hand.size_drewN]; first | done | omega))) _)
  · have W_ := True.intro
    have M5 := Lib.hid m5
    clear m5
    have hd2 : ¬ d = 1 := by simpa using hd
    have q1 : ((k : Int) < (L.size : Int)) = False := eq_false (by omega)
    have q2 : (k < L.size) = False := eq_false (by omega)
    have heq : ((k : Int) == (L.size : Int)) = true := by simp; omega
    have heq2 : ((k : Int) != (L.size : Int)) = false := by simp; omega
    have hc2 : (c == 0) = false := by simpa using hc
    have hc3 : (c != 0) = true := by simpa using hc
    have hc4 : ¬ c = 0 := by simpa using hc
    go_wp2_with fail
    with_reducible refine (M5.out _).mono ?_
    rintro e w5 ⟨rfl, hq⟩
    obtain ⟨g_T, g_X, g_R, hB⟩ := HG.out
    have h_T : w5.heap[w.heap.size]? = some (.cells #[.int .i64 0, .int .i64 0, .bool false] 23 (0, 0)) := by
      refine Hand.kb hq ?_; first | with_reducible exact g_T | (simp (disch := first | omega | (simp only [Hand.sa, Hand.ss, Hand.sd, Hand.sn]; first | done | omega)) only [Hand.q2, Hand.q1, Hand.q5, Hand.q6, Hand.q4, Hand.q3, g_T] <;> rfl)
    have h_X : w5.heap[w.heap.size + 1]? = some (.cells #[.string L, .int .i64 (k : Int), .bool false] 111 (0, 0)) := by
      refine Hand.kb hq ?_; simp (disch := first | omega | (simp only [Hand.sa, Hand.ss, Hand.sd, Hand.sn]; first | done | omega)) only [Hand.q2, Hand.q1, Hand.q5, Hand.q6, Hand.q4, Hand.q3, g_X] <;> rfl
    have h_R : w5.heap[w1.heap.size]? = some (.cells #[.int .i64 n, .int .i64 d, .bool false] 23 (0, 0)) := by
      refine Hand.kb hq ?_; simp (disch := first | omega | (simp only [Hand.sa, Hand.ss, Hand.sd, Hand.sn]; first | done | omega)) only [Hand.q2, Hand.q1, Hand.q5, Hand.q6, Hand.q4, Hand.q3, g_R] <;> rfl
    have hB' : Below w.heap.size w w5 := Hand.stepB hq (by repeat (with_reducible first | apply hB | apply Below.drew | apply pw_below_drewN | (apply Below.setCell; rotate_left; (dsimp only; omega)) | (apply Below.alloc; rotate_left; (first | omega | (simp only [Hand.sa, Hand.ss, Hand.sd, Hand.sn]; omega))))) (Nat.le_refl _)
    clear HG hB g_T g_X g_R zw z_T z1_T z2_T y0_T y1_T c_T_0 f_T_0 c_T_1 f_T_1 c_T_2 f_T_2 z_X z1_X z2_X y0_X y1_X c_X_0 f_X_0 c_X_1 f_X_1 c_X_2 f_X_2 z_R z1_R z2_R y0_R y1_R c_R_0 f_R_0 c_R_1 f_R_1 c_R_2 f_R_2
    clear hq
    have g_T := h_T
    have g_X := h_X
    have g_R := h_R
    have hB := hB'
    clear hB' h_T h_X h_R
    obtain ⟨z_T, z1_T, z2_T, y0_T, y1_T⟩ := Hand.hz g_T
    obtain ⟨c_T_0, f_T_0, c_T_1, f_T_1, c_T_2, f_T_2⟩ := Hand.hc3 g_T
    obtain ⟨z_X, z1_X, z2_X, y0_X, y1_X⟩ := Hand.hz g_X
    obtain ⟨c_X_0, f_X_0, c_X_1, f_X_1, c_X_2, f_X_2⟩ := Hand.hc3 g_X
    obtain ⟨z_R, z1_R, z2_R, y0_R, y1_R⟩ := Hand.hz g_R
    obtain ⟨c_R_0, f_R_0, c_R_1, f_R_1, c_R_2, f_R_2⟩ := Hand.hc3 g_R
    have zw : w.heap.size ≤ w5.heap.size := hB.size
    have HG := Lib.hid (And.intro g_T (And.intro g_X (And.intro g_R (hB))))
    clear g_T g_X g_R hB
    go_wp2
    obtain ⟨g_T, g_X, g_R, hB⟩ := HG.out
    refine bodyPost_ret (results_ct rfl _ _ (w.heap.size) 23 #[.int .i64 0, .int .i64 0, .bool false] (0, 0) _ rfl ?_ Tryz.underlying23 rfl (by kernel_rfl)) rfl ⟨rfl, ?_⟩
    · simp (disch := (first | omega | (simp only [World.size_setCell, World.size_alloc, World.size_drew, Hand.size_drewN]; first | done | omega))) only [Hand.q1, Hand.q2, Hand.q4, Hand.q3, Hand.q5, Hand.q6, Option.map_some, Hand.putc_cells, List.setIfInBounds_toArray, List.set_cons_zero, List.set_cons_succ, g_T]; try rfl
    · repeat (with_reducible first | exact hB | exact HG.out.2.2 | exact HG.out.2.2.2 | apply Below.drew | apply pw_below_drewN | refine Below.setCell ?_ (by dsimp only; omega) _ | refine Below.alloc ?_ (by (first | omega | (simp only [World.size_setCell, World.size_alloc, World.size_drew, Hand.size_drewN]; first | done | omega))) _)
  · have W_ := True.intro
    have M5 := Lib.hid m5
    clear m5
    have hd2 : ¬ d = 1 := by simpa using hd
    have q1 : ((k : Int) < (L.size : Int)) = False := eq_false (by omega)
    have q2 : (k < L.size) = False := eq_false (by omega)
    have heq : ((k : Int) == (L.size : Int)) = true := by simp; omega
    have heq2 : ((k : Int) != (L.size : Int)) = false := by simp; omega
    go_wp2_with fail
    with_reducible refine (M5.out _).mono ?_
    rintro e w5 ⟨rfl, hq⟩
    obtain ⟨g_T, g_X, g_R, hB⟩ := HG.out
    have h_T : w5.heap[w.heap.size]? = some (.cells #[.int .i64 0, .int .i64 0, .bool false] 23 (0, 0)) := by
      refine Hand.kb hq ?_; first | with_reducible exact g_T | (simp (disch := first | omega | (simp only [Hand.sa, Hand.ss, Hand.sd, Hand.sn]; first | done | omega)) only [Hand.q2, Hand.q1, Hand.q5, Hand.q6, Hand.q4, Hand.q3, g_T] <;> rfl)
    have h_X : w5.heap[w.heap.size + 1]? = some (.cells #[.string L, .int .i64 (k : Int), .bool false] 111 (0, 0)) := by
      refine Hand.kb hq ?_; simp (disch := first | omega | (simp only [Hand.sa, Hand.ss, Hand.sd, Hand.sn]; first | done | omega)) only [Hand.q2, Hand.q1, Hand.q5, Hand.q6, Hand.q4, Hand.q3, g_X] <;> rfl
    have h_R : w5.heap[w1.heap.size]? = some (.cells #[.int .i64 n, .int .i64 d, .bool false] 23 (0, 0)) := by
      refine Hand.kb hq ?_; simp (disch := first | omega | (simp only [Hand.sa, Hand.ss, Hand.sd, Hand.sn]; first | done | omega)) only [Hand.q2, Hand.q1, Hand.q5, Hand.q6, Hand.q4, Hand.q3, g_R] <;> rfl
    have hB' : Below w.heap.size w w5 := Hand.stepB hq (by repeat (with_reducible first | apply hB | apply Below.drew | apply pw_below_drewN | (apply Below.setCell; rotate_left; (dsimp only; omega)) | (apply Below.alloc; rotate_left; (first | omega | (simp only [Hand.sa, Hand.ss, Hand.sd, Hand.sn]; omega))))) (Nat.le_refl _)
    clear HG hB g_T g_X g_R zw z_T z1_T z2_T y0_T y1_T c_T_0 f_T_0 c_T_1 f_T_1 c_T_2 f_T_2 z_X z1_X z2_X y0_X y1_X c_X_0 f_X_0 c_X_1 f_X_1 c_X_2 f_X_2 z_R z1_R z2_R y0_R y1_R c_R_0 f_R_0 c_R_1 f_R_1 c_R_2 f_R_2
    clear hq
    have g_T := h_T
    have g_X := h_X
    have g_R := h_R
    have hB := hB'
    clear hB' h_T h_X h_R
    obtain ⟨z_T, z1_T, z2_T, y0_T, y1_T⟩ := Hand.hz g_T
    obtain ⟨c_T_0, f_T_0, c_T_1, f_T_1, c_T_2, f_T_2⟩ := Hand.hc3 g_T
    obtain ⟨z_X, z1_X, z2_X, y0_X, y1_X⟩ := Hand.hz g_X
    obtain ⟨c_X_0, f_X_0, c_X_1, f_X_1, c_X_2, f_X_2⟩ := Hand.hc3 g_X
    obtain ⟨z_R, z1_R, z2_R, y0_R, y1_R⟩ := Hand.hz g_R
    obtain ⟨c_R_0, f_R_0, c_R_1, f_R_1, c_R_2, f_R_2⟩ := Hand.hc3 g_R
    have zw : w.heap.size ≤ w5.heap.size := hB.size
    have HG := Lib.hid (And.intro g_T (And.intro g_X (And.intro g_R (hB))))
    clear g_T g_X g_R hB
    go_wp2
    obtain ⟨g_T, g_X, g_R, hB⟩ := HG.out
    refine bodyPost_ret (results_ct rfl _ _ (w.heap.size) 23 #[.int .i64 n, .int .i64 d, .bool false] (0, 0) _ rfl ?_ Tryz.underlying23 rfl (by kernel_rfl)) rfl ⟨rfl, ?_⟩
    · simp (disch := (first | omega | (simp only [World.size_setCell, World.size_alloc, World.size_drew, Hand.size_drewN]; first | done | omega))) only [Hand.q1, Hand.q2, Hand.q4, Hand.q3, Hand.q5, Hand.q6, Option.map_some, Hand.putc_cells, List.setIfInBounds_toArray, List.set_cons_zero, List.set_cons_succ, g_T]; try rfl
    · repeat (with_reducible first | exact hB | exact HG.out.2.2 | exact HG.out.2.2.2 | apply Below.drew | apply pw_below_drewN | refine Below.setCell ?_ (by dsimp only; omega) _ | refine Below.alloc ?_ (by (first | omega | (simp only [World.size_setCell, World.size_alloc, World.size_drew, Hand.size_drewN]; first | done | omega))) _)
end Go.Proofs.YtghiibdhibcbaaaGreatDoor.PA
namespace Go.Proofs.YtghiibdhibcbaaaGreatDoor.PA
open Go Go.RowKit Go.Proofs.YtghiibdhibcbaaaGreatDoor.CS
set_option linter.unusedSimpArgs false
set_option linter.unusedVariables false
theorem tl_head (S : ByteArray) (k : Nat) (h : k < S.size) : (tl S k).head? = some (S[k]'h) := head_drop S k h
theorem tl_tail (S : ByteArray) (k : Nat) : (tl S k).tail = tl S (k + 1) := by unfold tl; rw [List.tail_drop]
theorem byte_nat {c d : UInt8} (h : c.toNat = d.toNat) : c = d := UInt8.toNat_inj.mp h
/-- what may stand at the end -/
theorem fin_cases (S : ByteArray) (k : Nat) (n d : Int) (hk : k ≤ S.size) :
    (k = S.size ∧ finO n d (tl S k) = some (n, d, false)) ∨ (∃ h : k < S.size, ((S[k]'h).toNat = 100 ∧ k + 1 = S.size ∧ finO n d (tl S k) = some (n, d, true)) ∨ ((S[k]'h).toNat = 100 ∧ k + 1 ≠ S.size ∧ finO n d (tl S k) = none) ∨ ((((S[k]'h).toNat : Int) == 100) = false ∧ finO n d (tl S k) = none)) := by
  by_cases he : k = S.size
  · left
    have e0 : tl S k = [] := (tl_nil hk).mpr he
    refine ⟨he, ?_⟩
    unfold finO
    rw [if_pos e0]
  · right
    have h : k < S.size := by omega
    refine ⟨h, ?_⟩
    have hh := tl_head S k h
    have hne : tl S k ≠ [] := fun e => by rw [e] at hh; cases hh
    have hl := tl_len S k
    by_cases h1 : (S[k]'h).toNat = 100
    · have e1 : S[k]'h = 100 := byte_nat (d := 100) h1
      rw [e1] at hh
      by_cases h2 : k + 1 = S.size
      · refine .inl ⟨h1, h2, ?_⟩
        have e2 : tl S k = [100] := by
          cases ht : tl S k with
          | nil => exact absurd ht hne
          | cons a l =>
            rw [ht] at hh hl
            simp only [List.head?_cons, Option.some.injEq] at hh
            simp only [List.length_cons] at hl
            have : l = [] := List.length_eq_zero_iff.mp (by omega)
            rw [hh, this]
        unfold finO
        rw [if_neg hne, if_pos e2]
      · refine .inr (.inl ⟨h1, h2, ?_⟩)
        unfold finO
        rw [if_neg hne, if_neg]
        intro e
        rw [e] at hl
        simp only [List.length_cons, List.length_nil] at hl
        omega
    · refine .inr (.inr ⟨by simp; omega, ?_⟩)
      unfold finO
      rw [if_neg hne, if_neg]
      intro e
      rw [e] at hh
      simp only [List.head?_cons, Option.some.injEq] at hh
      exact h1 (by rw [← hh]; rfl)
theorem rrate_any (S : ByteArray) (hS : S.size ≤ 9223372036854775807) (w : World) :
    Calls Tryz.prog 59 #[.string S] w fun e w' => e = .returned (.tuple #[.agg #[.int .i64 (rateS (rtO S.data.toList)).1.1, .int .i64 (rateS (rtO S.data.toList)).1.2.1, .bool (rateS (rtO S.data.toList)).1.2.2], .int .i64 (rateS (rtO S.data.toList)).2]) ∧ Below w.heap.size w w' := by
  have et : S.data.toList = tl S 0 := rfl
  rw [et, rt_eq]
  unfold rrO
  have m1 := fun (w0 w : World) (g : Nat) hx hF => frplain_any S 0 false g w0 w hS (Nat.zero_le _) hx hF
  have r1 := rpl_rel S 0 (Nat.zero_le _)
  have ck : ∀ (n d : Int) (dr : Bool) (w : World), Calls Tryz.prog 16 #[.agg #[.int .i64 n, .int .i64 d, .bool dr]] w fun e w' => e = .returned (.int .i64 (checkS n d dr)) ∧ Below w.heap.size w w' := fun n d dr w => rcheck_any n d dr w
  unfold checkS at ck
  obtain ⟨⟨n, a, b⟩, hy⟩ : ∃ y, rplnS S 0 false = y := ⟨_, rfl⟩
  rw [hy] at m1 r1
  dsimp only at m1
  cases hp : plO (tl S 0) with
  | none =>
    rw [hp] at r1
    have hb : b = true := r1.2
    subst hb
    exact rrt_bad n a S w m1
  | some p =>
    obtain ⟨v, t⟩ := p
    rw [hp] at r1
    obtain ⟨h1, h2, h3, h4⟩ := r1
    dsimp only at h1 h2 h3 h4
    subst h4 h3 h2
    simp only [Option.bind_some]
    by_cases h47 : (tl S a).head? = some 47
    · rw [if_pos h47, tl_tail]
      have ha : a < S.size := by
        rcases Nat.lt_or_ge a S.size with h | h
        · exact h
        · rw [(tl_nil h1).mpr (by omega)] at h47; cases h47
      have hh := tl_head S a ha
      rw [h47, Option.some.injEq] at hh
      have hu : (S[a]'ha).toNat = 47 := by rw [← hh]; rfl
      have m2 := fun (w0 w : World) (g : Nat) hx hF => frplain_any S (a + 1) false g w0 w hS (by omega) hx hF
      have r2 := rpl_rel S (a + 1) (by omega)
      obtain ⟨⟨d, k, b2⟩, hy2⟩ : ∃ y, rplnS S (a + 1) false = y := ⟨_, rfl⟩
      rw [hy2] at m2 r2
      dsimp only at m2
      cases hq : plO (tl S (a + 1)) with
      | none =>
        rw [hq] at r2
        have hb : b2 = true := r2.2
        subst hb
        exact rrt_two _ _ _ 0 n d _ _ a S hS ha 47 hu rfl k (.inl ⟨rfl, rfl, rfl, rfl, rfl⟩) w m1 m2
      | some q =>
        obtain ⟨v2, t2⟩ := q
        rw [hq] at r2
        obtain ⟨g1, g2, g3, g4⟩ := r2
        dsimp only at g1 g2 g3 g4
        subst g4 g3 g2
        simp only [Option.bind_some]
        by_cases hd : d = 1
        · rw [if_pos hd]
          exact rrt_two _ _ _ 0 n d _ _ a S hS ha 47 hu rfl k (.inr (.inl ⟨rfl, by simpa using hd, rfl, rfl, rfl, rfl⟩)) w m1 m2
        · rw [if_neg hd]
          have hd1 : (d == 1) = false := by simpa using hd
          rcases fin_cases S k n d g1 with ⟨e1, e2⟩ | ⟨hk, ⟨e1, e3, e2⟩ | ⟨e1, e3, e2⟩ | ⟨e1, e2⟩⟩
          · rw [e2]
            have m5 := ck n d false
            unfold rateS
            dsimp only
            by_cases hr : okR n d false = true
            · rw [if_pos hr] at m5 ⊢
              exact rrt_two _ _ _ 0 n d _ _ a S hS ha 47 hu rfl k (.inr (.inr (.inr (.inr (.inr (.inr (.inr (⟨rfl, hd1, e1, rfl, rfl, rfl, rfl, m5⟩)))))))) w m1 m2
            · rw [if_neg hr] at m5 ⊢
              exact rrt_two _ _ _ 14 n d _ _ a S hS ha 47 hu rfl k (.inr (.inr (.inr (.inr (.inr (.inr (.inl ⟨rfl, hd1, e1, by decide, rfl, rfl, rfl, rfl, m5⟩))))))) w m1 m2
          · rw [e2]
            have m5 := ck n d true
            unfold rateS
            dsimp only
            by_cases hr : okR n d true = true
            · rw [if_pos hr] at m5 ⊢
              exact rrt_two _ _ _ 0 n d _ _ a S hS ha 47 hu rfl k (.inr (.inr (.inr (.inr (.inr (.inl ⟨hk, e1, e3, rfl, rfl, rfl, rfl, m5, rfl, hd1⟩)))))) w m1 m2
            · rw [if_neg hr] at m5 ⊢
              exact rrt_two _ _ _ 14 n d _ _ a S hS ha 47 hu rfl k (.inr (.inr (.inr (.inr (.inl ⟨hk, e1, e3, by decide, rfl, rfl, rfl, rfl, m5, rfl, hd1⟩))))) w m1 m2
          · rw [e2]
            exact rrt_two _ _ _ 0 n d _ _ a S hS ha 47 hu rfl k (.inr (.inr (.inr (.inl ⟨hk, e1, e3, rfl, rfl, rfl, rfl, rfl, hd1⟩)))) w m1 m2
          · rw [e2]
            exact rrt_two _ _ _ 0 n d _ _ a S hS ha 47 hu rfl k (.inr (.inr (.inl ⟨hk, e1, rfl, rfl, rfl, rfl, rfl, hd1⟩))) w m1 m2
    · rw [if_neg h47]
      rcases fin_cases S a n 1 h1 with ⟨e1, e2⟩ | ⟨hk, ⟨e1, e3, e2⟩ | ⟨e1, e3, e2⟩ | ⟨e1, e2⟩⟩
      · rw [e2]
        have m5 := ck n 1 false
        unfold rateS
        dsimp only
        by_cases hr : okR n 1 false = true
        · rw [if_pos hr] at m5 ⊢
          exact rrt_one _ _ _ 0 n _ a S hS (.inr (.inr (.inr (.inr (.inr (⟨e1, rfl, rfl, rfl, rfl, m5⟩)))))) w m1
        · rw [if_neg hr] at m5 ⊢
          exact rrt_one _ _ _ 14 n _ a S hS (.inr (.inr (.inr (.inr (.inl ⟨e1, by decide, rfl, rfl, rfl, rfl, m5⟩))))) w m1
      · rw [e2]
        have m5 := ck n 1 true
        unfold rateS
        dsimp only
        by_cases hr : okR n 1 true = true
        · rw [if_pos hr] at m5 ⊢
          exact rrt_one _ _ _ 0 n _ a S hS (.inr (.inr (.inr (.inl ⟨hk, e1, e3, rfl, rfl, rfl, rfl, m5⟩)))) w m1
        · rw [if_neg hr] at m5 ⊢
          exact rrt_one _ _ _ 14 n _ a S hS (.inr (.inr (.inl ⟨hk, e1, e3, by decide, rfl, rfl, rfl, rfl, m5⟩))) w m1
      · rw [e2]
        exact rrt_one _ _ _ 0 n _ a S hS (.inr (.inl ⟨hk, e1, e3, rfl, rfl, rfl, rfl⟩)) w m1
      · rw [e2]
        have h47' : (((S[a]'hk).toNat : Int) == 47) = false := by
          have hh := tl_head S a hk
          rw [hh, Option.some.injEq] at h47
          have : (S[a]'hk).toNat ≠ 47 := fun e => h47 (byte_nat (d := 47) e)
          simp; omega
        exact rrt_one _ _ _ 0 n _ a S hS (.inl ⟨hk, h47', e1, rfl, rfl, rfl, rfl⟩) w m1
end Go.Proofs.YtghiibdhibcbaaaGreatDoor.PA
namespace Go.Proofs.YtghiibdhibcbaaaGreatDoor.PA
open Go Go.RowKit Go.Proofs.YtghiibdhibcbaaaGreatDoorW.PrintWords Go.Proofs.YtghiibdhibcbaaaGreatDoorW.PrintLast Go.Proofs.YtghiibdhibcbaaaGreatDoorW.PrintMore
set_option linter.unusedSimpArgs false
set_option linter.unusedVariables false
theorem eqA23 (d : Nat) (w : World) (x0 y0 : Int) (x1 y1 : Int) (x2 y2 : Bool) :
    (Op.equalIn (d + 2) 23 (.agg #[.int .i64 x0, .int .i64 x1, .bool x2]) (.agg #[.int .i64 y0, .int .i64 y1, .bool y2])).run Tryz.prog w = .ok (x0 == y0 && (x1 == y1 && (x2 == y2))) w := by
  refine eqA_of Tryz.underlying23 (by kernel_rfl) ?_
  refine eqf_cons (by rfl) (by go_simp; rfl) (by go_simp; rfl) (by go_simp) ?_
  refine eqf_cons (by rfl) (by go_simp; rfl) (by go_simp; rfl) (by go_simp) ?_
  exact eqf_last (by rfl) (by go_simp; rfl) (by go_simp; rfl) (by go_simp)
end Go.Proofs.YtghiibdhibcbaaaGreatDoor.PA
