/- The reference's reader: plain. A rate's text in plain lists: cut at its signs, or read from the left: the same. The reference's plain: all blocks but the reader's are kept. The reference: Rate. The reference: Rate told. Two rates are alike. -/
import Derived.Test.YtghiibdhibcbaaaGreatDoorMJ
import Derived.Test.YtghiibdhibcbaaaGreatDoorM1
import Derived.Lib.IndexBytes
import Derived.Test.YtghiibdhibcbaaaGreatDoorMB
import Derived.Test.YtghiibdhibcbaaaGreatDoorMM
namespace Go.Proofs.YtghiibdhibcbaaaGreatDoor.PA
open Go Go.RowKit Go.Proofs.YtghiibdhibcbaaaGreatDoorW.PrintWords Go.Proofs.YtghiibdhibcbaaaGreatDoorW.PrintLast Go.Proofs.YtghiibdhibcbaaaGreatDoorW.PrintMore Go.Proofs.YtghiibdhibcbaaaGreatDoor.CS
set_option linter.unusedSimpArgs false
set_option linter.unusedVariables false
def rplnS (S : ByteArray) (a : Nat) (b : Bool) : Int × Nat × Bool :=
  if runN (tl S a) < 1 ∨ runN (tl S a) > 9 ∨ (runN (tl S a) > 1 ∧ (tl S a).head? = some 48) then (0, a, true) else rnumS S a b (runN (tl S a))
end Go.Proofs.YtghiibdhibcbaaaGreatDoor.PA
namespace Go.Proofs.YtghiibdhibcbaaaGreatDoor.PA
open Go
set_option linter.unusedSimpArgs false
set_option linter.unusedVariables false
/-- a whole number, read from the left, and what is behind it -/
def plO (l : List UInt8) : Option (Int × List UInt8) :=
  if runN l < 1 ∨ runN l > 9 ∨ (runN l > 1 ∧ l.head? = some 48) then none else some (vg (l.take (runN l)), l.drop (runN l))
def finO (n d : Int) (t : List UInt8) : Option (Int × Int × Bool) := if t = [] then some (n, d, false) else if t = [100] then some (n, d, true) else none
/-- a rate's text, read from the left -/
def rrO (l : List UInt8) : Option (Int × Int × Bool) :=
  (plO l).bind fun p => if p.2.head? = some 47 then (plO p.2.tail).bind fun q => if q.1 = 1 then none else finO p.1 q.1 q.2 else finO p.1 1 p.2
theorem runN_at (N t : List UInt8) (hN : noD N = false) (ht : ∀ c, t.head? = some c → isD c = false) : runN (N ++ t) = N.length := by
  refine run_stop _ _ ((run_iff _ _).mpr ⟨by rw [List.length_append]; omega, ?_⟩) (fun c hc => ?_)
  · rw [List.take_left]; exact hN
  · rw [List.getElem?_append_right (Nat.le_refl _), Nat.sub_self] at hc
    exact ht c (by rw [List.head?_eq_getElem?]; exact hc)
theorem pl_at (N t : List UInt8) (hN : noD N = false) (ht : ∀ c, t.head? = some c → isD c = false) : plO (N ++ t) = (whoO N).map fun v => (v, t) := by
  have hr := runN_at N t hN ht
  unfold plO whoO
  rw [hr, List.take_left, List.drop_left]
  have hh : N.length > 1 → (N ++ t).head? = N.head? := by intro h; cases N with | nil => simp at h | cons a N => rfl
  by_cases h : 1 ≤ N.length ∧ N.length ≤ 9 ∧ ¬ (N.length > 1 ∧ N.head? = some 48) ∧ noD N = false
  · rw [if_pos h, if_neg]
    · rfl
    · rintro (h1 | h1 | ⟨h1, h2⟩)
      · omega
      · omega
      · exact h.2.2.1 ⟨h1, by rw [← hh h1]; exact h2⟩
  · rw [if_neg h, if_pos]
    · rfl
    · by_cases h1 : N.length < 1
      · exact .inl h1
      · by_cases h2 : N.length > 9
        · exact .inr (.inl h2)
        · by_cases h3 : N.length > 1 ∧ N.head? = some 48
          · exact .inr (.inr ⟨h3.1, by rw [hh h3.1]; exact h3.2⟩)
          · exact absurd ⟨by omega, by omega, h3, hN⟩ h
theorem who_no {N : List UInt8} {v : Int} (h : whoO N = some v) : noD N = false ∧ N ≠ [] := by
  unfold whoO at h
  split at h
  · rename_i hc; exact ⟨hc.2.2.2, fun e => by have := hc.1; rw [e] at this; simp at this⟩
  · cases h
theorem vg_pos (l : List UInt8) : noD l = false → l ≠ [] → l.head? ≠ some 48 → 1 ≤ vg l := by
  refine snoc_ind (P := fun l => noD l = false → l ≠ [] → l.head? ≠ some 48 → 1 ≤ vg l) (fun _ h => absurd rfl h) (fun l c ih h _ h48 => ?_) l
  rw [noD_snoc, Bool.or_eq_false_iff] at h
  rw [vg_snoc]
  have hc := h.2
  unfold isD at hc
  simp only [Bool.not_eq_false', Bool.and_eq_true, decide_eq_true_eq] at hc
  by_cases hl : l = []
  · subst hl
    have h5 : c.toNat ≠ 48 := fun e5 => h48 (by simp only [List.nil_append, List.head?_cons, Option.some.injEq]; exact UInt8.toNat_inj.mp (by rw [e5]; rfl))
    have hz : vg [] = 0 := rfl
    rw [hz]
    omega
  · have := ih h.1 hl (by cases l with | nil => exact absurd rfl hl | cons a l => exact h48)
    omega
theorem who_one_iff {D : List UInt8} {v : Int} (h : whoO D = some v) : v = 1 ↔ D = [49] := by
  constructor
  · intro h1
    subst h1
    unfold whoO at h
    split at h
    · rename_i hc
      obtain ⟨c1, c2, c3, c4⟩ := hc
      have hv := Option.some.inj h
      revert hv c1 c3 c4
      refine snoc_ind (P := fun D => 1 ≤ D.length → ¬ (D.length > 1 ∧ D.head? = some 48) → noD D = false → vg D = 1 → D = [49]) (fun h => by simp at h) (fun l c _ c1 c3 c4 hv => ?_) D
      rw [noD_snoc, Bool.or_eq_false_iff] at c4
      rw [vg_snoc] at hv
      have hc := c4.2
      unfold isD at hc
      simp only [Bool.not_eq_false', Bool.and_eq_true, decide_eq_true_eq] at hc
      by_cases hl : l = []
      · subst hl
        have hz : vg [] = 0 := rfl
        rw [hz] at hv
        have : c = 49 := UInt8.toNat_inj.mp (by show c.toNat = 49; omega)
        rw [this]; rfl
      · have := vg_pos l c4.1 hl (by
          intro h48
          refine c3 ⟨?_, ?_⟩
          · rw [List.length_append]; have : l.length ≠ 0 := fun e => hl (List.length_eq_zero_iff.mp e); simp; omega
          · cases l with
            | nil => exact absurd rfl hl
            | cons a l => exact h48)
        omega
    · cases h
  · intro h1
    subst h1
    have : whoO [49] = some 1 := by decide
    rw [this] at h
    exact (Option.some.inj h).symm
theorem idx_no (l : List UInt8) (c : UInt8) (h : c ∉ l) : Lib.indexByte l c = -1 := by
  induction l with
  | nil => rfl
  | cons b l ih =>
    have hb : (b == c) = false := by simp; rintro rfl; exact h List.mem_cons_self
    have := ih (fun hm => h (List.mem_cons_of_mem _ hm))
    simp [Lib.indexByte, hb, this]
theorem cut_at (N D : List UInt8) (c : UInt8) (h : c ∉ N) : Lib.cut (N ++ c :: D) [c] = (N, D, true) := by
  unfold Lib.cut
  rw [Lib.index_one, ParD.index_at N D c h]
  simp
theorem cut_no (l : List UInt8) (c : UInt8) (h : c ∉ l) : Lib.cut l [c] = (l, [], false) := by
  unfold Lib.cut
  rw [Lib.index_one, idx_no l c h]
  simp
theorem no_sign {N : List UInt8} (c : UInt8) (hc : isD c = false) (h : noD N = false) : c ∉ N := by
  intro hm
  unfold noD at h
  rw [List.any_eq_false] at h
  exact h c hm (by rw [hc]; rfl)
theorem suf_yes (M : List UInt8) : Lib.trimSuffix (M ++ [100]) [100] = M ∧ Lib.hasSuffix (M ++ [100]) [100] = true := by
  have h : Lib.hasSuffix (M ++ [100]) [100] = true := by unfold Lib.hasSuffix; rw [List.isSuffixOf_iff_suffix]; exact List.suffix_append _ _
  refine ⟨?_, h⟩
  unfold Lib.trimSuffix
  rw [h, if_pos rfl]
  simp
theorem suf_no (M N : List UInt8) (hN : noD N = false) (h0 : N ≠ []) : Lib.trimSuffix (M ++ N) [100] = M ++ N ∧ Lib.hasSuffix (M ++ N) [100] = false := by
  have h : Lib.hasSuffix (M ++ N) [100] = false := by
    cases h : Lib.hasSuffix (M ++ N) [100]
    · rfl
    · exfalso
      unfold Lib.hasSuffix at h
      rw [List.isSuffixOf_iff_suffix] at h
      obtain ⟨p, hp⟩ := h
      have h1 : (M ++ N).getLast? = some 100 := by rw [← hp]; simp
      rw [List.getLast?_append] at h1
      cases hg : N.getLast? with
      | none => exact h0 (List.getLast?_eq_none_iff.mp hg)
      | some c =>
        rw [hg, Option.some_or, Option.some.injEq] at h1
        rw [h1] at hg
        exact no_sign 100 (by decide) hN (List.mem_of_getLast? hg)
  refine ⟨?_, h⟩
  unfold Lib.trimSuffix
  rw [h, if_neg (by decide)]
/-- the end of it -/
def endO (b : Bool) : List UInt8 := if b = true then [100] else []
theorem fin_at (n d : Int) (b : Bool) : finO n d (endO b) = some (n, d, b) := by cases b <;> rfl
theorem endO_head (b : Bool) : ∀ c, (endO b).head? = some c → isD c = false := by cases b <;> intro c h <;> simp [endO] at h; subst h; decide
theorem suf_any (M N : List UInt8) (hN : noD N = false) (h0 : N ≠ []) (b : Bool) : Lib.trimSuffix (M ++ N ++ endO b) [100] = M ++ N ∧ Lib.hasSuffix (M ++ N ++ endO b) [100] = b := by
  cases b
  · have := suf_no M N hN h0
    simpa [endO] using this
  · exact suf_yes (M ++ N)
theorem rt_one (N : List UInt8) (v : Int) (b : Bool) (h : whoO N = some v) : rtO (N ++ endO b) = some (v, 1, b) ∧ rrO (N ++ endO b) = some (v, 1, b) := by
  obtain ⟨n1, n2⟩ := who_no h
  constructor
  · have hs := suf_any [] N n1 n2 b
    rw [List.nil_append] at hs
    unfold rtO
    rw [hs.1, hs.2, cut_no N 47 (no_sign 47 (by decide) n1)]
    simp [h]
  · unfold rrO
    rw [pl_at N _ n1 (endO_head b), h]
    have : ¬ (endO b).head? = some 47 := by cases b <;> decide
    simp only [Option.map_some, Option.bind_some]
    rw [if_neg this, fin_at]
theorem rt_two (N D : List UInt8) (v u : Int) (b : Bool) (h : whoO N = some v) (h2 : whoO D = some u) (h1 : u ≠ 1) : rtO (N ++ 47 :: D ++ endO b) = some (v, u, b) ∧ rrO (N ++ 47 :: D ++ endO b) = some (v, u, b) := by
  obtain ⟨n1, n2⟩ := who_no h
  obtain ⟨d1, d2⟩ := who_no h2
  have hD : D ≠ [49] := fun e => h1 ((who_one_iff h2).mpr e)
  constructor
  · have hs := suf_any (N ++ [47]) D d1 d2 b
    rw [List.append_assoc N, List.singleton_append] at hs
    unfold rtO
    rw [hs.1, hs.2, cut_at N D 47 (no_sign 47 (by decide) n1)]
    simp [h, h2, hD]
  · unfold rrO
    rw [List.append_assoc, pl_at N _ n1 (by intro c hc; simp at hc; subst hc; decide), h]
    simp only [Option.map_some, Option.bind_some, List.cons_append, List.head?_cons, List.tail_cons, if_true]
    rw [pl_at D _ d1 (endO_head b), h2]
    simp only [Option.map_some, Option.bind_some]
    rw [if_neg h1, fin_at]
end Go.Proofs.YtghiibdhibcbaaaGreatDoor.PA
namespace Go.Proofs.YtghiibdhibcbaaaGreatDoor.PA
open Go Go.RowKit Go.Proofs.YtghiibdhibcbaaaGreatDoorW.PrintWords Go.Proofs.YtghiibdhibcbaaaGreatDoorW.PrintLast Go.Proofs.YtghiibdhibcbaaaGreatDoorW.PrintMore Go.Proofs.YtghiibdhibcbaaaGreatDoor.CS
set_option linter.unusedSimpArgs false
set_option linter.unusedVariables false
/-- all but one block lies as it lay -/
structure Fx (g : Nat) (w w' : World) : Prop where
  os : w'.os = w.os
  tape : w'.tape = w.tape
  output : w'.output = w.output
  size : w.heap.size ≤ w'.heap.size
  block : ∀ k, k < w.heap.size → k ≠ g → w'.heap[k]? = w.heap[k]?
theorem Fx.refl (g : Nat) (w : World) : Fx g w w := ⟨rfl, rfl, rfl, Nat.le_refl _, fun _ _ _ => rfl⟩
theorem Fx.drewN {g : Nat} {w W : World} (h : Fx g w W) (n : Nat) : Fx g w (W.drewN n) := ⟨h.os, h.tape, h.output, h.size, h.block⟩
theorem Fx.setCell {g : Nat} {w W : World} (h : Fx g w W) (j : Nat) (u : Value) : Fx g w (W.setCell ⟨g, j, none⟩ u) := by
  have b := (Below.refl 0 W).setCell (p := ⟨g, j, none⟩) (Nat.zero_le _) u
  refine ⟨b.os.trans h.os, b.tape.trans h.tape, b.output.trans h.output, Nat.le_trans h.size b.size, fun k hk hne => ?_⟩
  rw [← h.block k hk hne]
  rcases Nat.lt_or_ge k g with hl | hl
  · exact ((Below.refl g W).setCell (p := ⟨g, j, none⟩) (Nat.le_refl _) u).block k hl
  · exact Below.heap_setCell _ _ _ _ hne
theorem Fx.below {g B : Nat} {a w w' : World} (h : Fx g w w') (hB : Below B a w) (hg : B ≤ g) (hs : B ≤ w.heap.size) : Below B a w' :=
  hB.trans ⟨h.os, h.tape, h.output, h.size, fun k hk => h.block k (by omega) (by omega)⟩
theorem Fx.kb {g k : Nat} {w w' : World} (h : Fx g w w') {o : Obj} (hk : w.heap[k]? = some o) (hne : k ≠ g) : w'.heap[k]? = some o := by
  have hl : k < w.heap.size := by
    rcases Nat.lt_or_ge k w.heap.size with hl | hl
    · exact hl
    · rw [Array.getElem?_eq_none hl] at hk; cases hk
  rw [h.block k hl hne]; exact hk
abbrev RF (w0 w' : World) (g : Nat) (s : ByteArray) (a : Int) (b : Bool) : Prop := w'.heap[g]? = some (rdr s a b) ∧ Fx g w0 w'
def floopR (w0 wr : World) (g : Nat) (S : ByteArray) (at_ k : Nat) (b : Bool) (v x : Value) : Prop :=
  ∃ i : Nat, i ≤ k ∧ i ≤ runN (S.data.toList.drop at_) ∧ v = .int .i64 (vg ((S.data.toList.drop at_).take i)) ∧ x = .int .i64 i ∧ wr.heap[g]? = some (rdr S ((at_ + i : Nat) : Int) b) ∧ Fx g w0 wr
def floopU (w0 wr : World) (g : Nat) (S : ByteArray) (a : Nat) (b : Bool) (x : Value) : Prop :=
  ∃ i : Nat, i ≤ runN (S.data.toList.drop a) ∧ x = .int .i64 i ∧ wr.heap[g]? = some (rdr S (a : Int) b) ∧ Fx g w0 wr
end Go.Proofs.YtghiibdhibcbaaaGreatDoor.PA
namespace Go.Proofs.YtghiibdhibcbaaaGreatDoor.PA
open Go Go.RowKit Go.Proofs.YtghiibdhibcbaaaGreatDoorW.PrintWords Go.Proofs.YtghiibdhibcbaaaGreatDoorW.PrintLast Go.Proofs.YtghiibdhibcbaaaGreatDoorW.PrintMore Go.Proofs.YtghiibdhibcbaaaGreatDoor.CS
set_option linter.unusedSimpArgs false
set_option linter.unusedVariables false
end Go.Proofs.YtghiibdhibcbaaaGreatDoor.PA
namespace Go.Proofs.YtghiibdhibcbaaaGreatDoor.PA
open Go Go.RowKit Go.Proofs.YtghiibdhibcbaaaGreatDoor.CS
set_option linter.unusedSimpArgs false
set_option linter.unusedVariables false
end Go.Proofs.YtghiibdhibcbaaaGreatDoor.PA
namespace Go.Proofs.YtghiibdhibcbaaaGreatDoor.PA
open Go Go.RowKit Go.Proofs.YtghiibdhibcbaaaGreatDoorW.PrintWords Go.Proofs.YtghiibdhibcbaaaGreatDoorW.PrintLast Go.Proofs.YtghiibdhibcbaaaGreatDoorW.PrintMore
set_option linter.unusedSimpArgs false
set_option linter.unusedVariables false
theorem eqA23 (d : Nat) (w : World) (x0 y0 : Int) (x1 y1 : Int) (x2 y2 : Bool) :
    (Op.equalIn (d + 2) 23 (.agg #[.int .i64 x0, .int .i64 x1, .bool x2]) (.agg #[.int .i64 y0, .int .i64 y1, .bool y2])).run Tryz.prog w = .ok (x0 == y0 && (x1 == y1 && (x2 == y2))) w := by
  refine eqA_of Tryz.underlying23 (by kernel_rfl) ?_
  refine eqf_cons (by rfl) (by go_simp; rfl) (by go_simp; rfl) (by go_simp) ?_
  refine eqf_cons (by rfl) (by go_simp; rfl) (by go_simp; rfl) (by go_simp) ?_
  exact eqf_last (by rfl) (by go_simp; rfl) (by go_simp; rfl) (by go_simp)
end Go.Proofs.YtghiibdhibcbaaaGreatDoor.PA
