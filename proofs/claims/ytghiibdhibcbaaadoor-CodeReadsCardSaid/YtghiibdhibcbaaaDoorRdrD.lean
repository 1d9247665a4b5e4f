/- The reference's reader told; what it comes to, in plain lists. -/
import Derived.Test.YtghiibdhibcbaaaDoorRdrC
import Derived.Test.YtghiibdhibcbaaaDoorCodQ
namespace Go.Proofs.YtghiibdhibcbaaaDoor.PA
open Go Go.RowKit Go.Proofs.YtghiibdhibcbaaaDoor.CS
set_option linter.unusedSimpArgs false
set_option linter.unusedVariables false
/-- what stands there -/
def tl (S : ByteArray) (a : Nat) : List UInt8 := S.data.toList.drop a
theorem tl_len (S : ByteArray) (a : Nat) : (tl S a).length = S.size - a := by unfold tl; rw [List.length_drop, Array.length_toList]; rfl
def rhrsS (S : ByteArray) (a : Nat) (b : Bool) (least : Nat) : Int × Nat × Bool :=
  if runN (tl S a) < least ∨ runN (tl S a) > 3 ∨ (runN (tl S a) > least ∧ (tl S a).head? = some 48) then (0, a, true) else rnumS S a b (runN (tl S a))
theorem rhours_any (S : ByteArray) (a : Nat) (b : Bool) (least : Nat) (g : Nat) (w0 w : World) (hS : S.size ≤ 9223372036854775807) (hat : a ≤ S.size) (l1 : 1 ≤ least) (hg : w0.heap.size ≤ g) (hx : w.heap[g]? = some (rdr S (a : Int) b)) (hB : Below w0.heap.size w0 w) :
    Calls Tryd.prog 60 #[.pointer (some ⟨g, 0, none⟩), .int .i64 (least : Int)] w fun e w' => e = .returned (.int .i64 (rhrsS S a b least).1) ∧ RL w0 w' g S ((rhrsS S a b least).2.1 : Int) (rhrsS S a b least).2.2 := by
  have m1 := rrun_any S a b g w0 w hS hat hg hx hB
  have m2 : ∀ w, w.heap[g]? = some (rdr S (a : Int) b) → Below w0.heap.size w0 w → runN (tl S a) ≤ 9 → _ := fun w hx hB h9 => rnumber_any S a (runN (tl S a)) b g w0 w (by omega) hat h9 hg hx hB
  have hrl := run_le (tl S a)
  rw [tl_len] at hrl
  have ej : runN (S.data.toList.drop a) = runN (tl S a) := rfl
  rw [ej] at m1
  unfold rhrsS
  obtain ⟨j, hj⟩ : ∃ j, runN (tl S a) = j := ⟨_, rfl⟩
  rw [hj] at m1 m2 hrl ⊢
  by_cases h1 : j < least
  · rw [if_pos (.inl h1)]
    exact rhours_few S a b least j g w0 w hg hx hB (by omega) m1
  · by_cases h2 : j > 3
    · rw [if_pos (.inr (.inl h2))]
      exact rhours_many S a b least j g w0 w hg hx hB (by omega) h2 m1
    · have hp : a < S.size := by omega
      have hh := head_drop S a hp
      have hh2 : (tl S a).head? = some (S[a]'hp) := hh
      by_cases h3 : j > least
      · by_cases h4 : (S[a]'hp).toNat = 48
        · have h5 : (tl S a).head? = some 48 := by rw [hh2, Option.some.injEq]; exact UInt8.toNat_inj.mp (by rw [h4]; rfl)
          rw [if_pos (.inr (.inr ⟨h3, h5⟩))]
          exact rhours_nought S a b least j _ g w0 w hg hx hB (by omega) (by omega) (by omega) hp rfl h4 m1
        · have h5 : (tl S a).head? ≠ some 48 := by rw [hh2]; intro e; rw [Option.some.injEq] at e; rw [e] at h4; exact h4 rfl
          rw [if_neg (by rintro (h | h | ⟨_, h⟩); omega; omega; exact h5 h)]
          exact rhours_ok2 S a b least j _ _ _ _ g w0 w hg hx hB (by omega) (by omega) (by omega) hp rfl (by simp; omega) m1 (fun w hx hB => m2 w hx hB (by omega))
      · rw [if_neg (by rintro (h | h | ⟨h, _⟩) <;> omega)]
        exact rhours_ok1 S a b least j _ _ _ g w0 w hg hx hB (by omega) (by omega) (by omega) m1 (fun w hx hB => m2 w hx hB (by omega))
def rsixS (S : ByteArray) (a : Nat) (b : Bool) : Int × Nat × Bool := ((rnumS S a b 2).1, (rnumS S a b 2).2.1, (rnumS S a b 2).2.2 || decide (60 ≤ (rnumS S a b 2).1))
theorem rsixty_any (S : ByteArray) (a : Nat) (b : Bool) (g : Nat) (w0 w : World) (hS : S.size ≤ 9223372036854775807) (hat : a ≤ S.size) (hg : w0.heap.size ≤ g) (hx : w.heap[g]? = some (rdr S (a : Int) b)) (hB : Below w0.heap.size w0 w) :
    Calls Tryd.prog 62 #[.pointer (some ⟨g, 0, none⟩)] w fun e w' => e = .returned (.int .i64 (rsixS S a b).1) ∧ RL w0 w' g S ((rsixS S a b).2.1 : Int) (rsixS S a b).2.2 := by
  have m1 := rnumber_any S a 2 b g w0 w (by omega) hat (by decide) hg hx hB
  unfold rsixS
  by_cases h : 60 ≤ (rnumS S a b 2).1
  · rw [decide_eq_true h, Bool.or_true]; exact rsixty_no S a b _ _ _ g w0 w hg hx hB h m1
  · rw [decide_eq_false h, Bool.or_false]; exact rsixty_ok S a b _ _ _ g w0 w hg hx hB (by omega) m1
/-- a reader's state against what is read -/
def relR (S : ByteArray) (y : Nat × Bool) (o : Option (List UInt8)) : Prop := y.1 ≤ S.size ∧ (match o with | some l => tl S y.1 = l ∧ y.2 = false | none => y.2 = true)
def relRV (S : ByteArray) (y : Int × Nat × Bool) (o : Option (Int × List UInt8)) : Prop := y.2.1 ≤ S.size ∧ (match o with | some p => y.1 = p.1 ∧ tl S y.2.1 = p.2 ∧ y.2.2 = false | none => y.2.2 = true)
theorem relRV.st {S : ByteArray} {y : Int × Nat × Bool} {o : Option (Int × List UInt8)} (h : relRV S y o) : relR S y.2 (o.map (·.2)) := by
  cases o with
  | none => exact h
  | some p => exact ⟨h.1, h.2.2⟩
theorem run_iff : ∀ (l : List UInt8) (k : Nat), k ≤ runN l ↔ k ≤ l.length ∧ noD (l.take k) = false := by
  intro l
  induction l with
  | nil => intro k; unfold runN; cases k <;> simp [noD]
  | cons a l ih =>
    intro k
    cases k with
    | zero => simp [noD]
    | succ k =>
      have h := ih k
      unfold runN at h ⊢
      by_cases ha : isD a = true
      · rw [List.takeWhile_cons_of_pos ha, List.length_cons, List.length_cons, List.take_succ_cons]
        unfold noD at h ⊢
        rw [List.any_cons, ha]
        simp only [Bool.not_true, Bool.false_or, Nat.add_le_add_iff_right]
        exact h
      · rw [List.takeWhile_cons_of_neg ha, List.take_succ_cons]
        unfold noD
        rw [List.any_cons]
        simp [ha]
theorem rnum_rel {S : ByteArray} {y : Nat × Bool} {o : Option (List UInt8)} (k : Nat) (h : relR S y o) : relRV S (rnumS S y.1 y.2 k) (o.bind (digO k)) := by
  obtain ⟨h0, h1⟩ := h
  have hl := run_le (tl S y.1)
  rw [tl_len] at hl
  have hi := run_iff (tl S y.1) k
  have et : S.data.toList.drop y.1 = tl S y.1 := rfl
  unfold rnumS
  rw [et]
  cases o with
  | none =>
    dsimp only at h1
    by_cases hk : k ≤ runN (tl S y.1)
    · rw [if_pos hk]; exact ⟨by dsimp only; omega, h1⟩
    · rw [if_neg hk]; exact ⟨by dsimp only; omega, rfl⟩
  | some l =>
    dsimp only at h1
    obtain ⟨h1, h2⟩ := h1
    rw [h1] at hi ⊢
    simp only [Option.bind_some]
    unfold digO
    by_cases hk : k ≤ runN l
    · rw [if_pos hk, if_pos (hi.mp hk)]
      refine ⟨?_, rfl, ?_, h2⟩
      · rw [h1] at hl; dsimp only; omega
      · unfold tl at h1 ⊢
        dsimp only
        rw [← h1, List.drop_drop]
    · rw [if_neg hk, if_neg (fun x => hk (hi.mpr x))]
      exact ⟨by rw [h1] at hl; dsimp only; omega, rfl⟩
theorem rmark_rel {S : ByteArray} {y : Nat × Bool} {o : Option (List UInt8)} (c : UInt8) (h : relR S y o) : relR S (rmarkS S y.1 y.2 c) (o.bind (byteO c)) := by
  obtain ⟨h0, h1⟩ := h
  have et : S.data.toList.drop y.1 = tl S y.1 := rfl
  unfold rmarkS
  rw [et]
  have hpos : (tl S y.1).head? = some c → y.1 + 1 ≤ S.size := by
    intro e
    have : (tl S y.1).length ≠ 0 := by intro h; rw [List.length_eq_zero_iff] at h; rw [h] at e; cases e
    rw [tl_len] at this; omega
  cases o with
  | none =>
    by_cases hc : (tl S y.1).head? = some c
    · rw [if_pos hc]; exact ⟨hpos hc, h1⟩
    · rw [if_neg hc]; exact ⟨h0, rfl⟩
  | some l =>
    dsimp only at h1
    obtain ⟨h1, h2⟩ := h1
    simp only [Option.bind_some]
    unfold byteO
    by_cases hc : (tl S y.1).head? = some c
    · rw [if_pos hc, ← h1, if_pos hc]
      refine ⟨hpos hc, ?_, h2⟩
      unfold tl
      rw [List.tail_drop]
    · rw [if_neg hc, ← h1, if_neg hc]; exact ⟨h0, rfl⟩
theorem rsix_rel {S : ByteArray} {y : Nat × Bool} {o : Option (List UInt8)} (h : relR S y o) : relRV S (rsixS S y.1 y.2) (o.bind (belO 2 60)) := by
  have h1 := rnum_rel 2 h
  unfold rsixS
  have e : o.bind (belO 2 60) = (o.bind (digO 2)).bind fun p => if p.1 < 60 then some p else none := by cases o <;> rfl
  rw [e]
  cases hd : o.bind (digO 2) with
  | none => rw [hd] at h1; exact ⟨h1.1, by have := h1.2; dsimp only at this ⊢; rw [this]; rfl⟩
  | some p =>
    rw [hd] at h1
    obtain ⟨a0, a1, a2, a3⟩ := h1
    simp only [Option.bind_some]
    by_cases hm : p.1 < 60
    · rw [if_pos hm]; exact ⟨a0, a1, a2, by dsimp only; rw [a1, a3, decide_eq_false (by omega)]; rfl⟩
    · rw [if_neg hm]; exact ⟨a0, by dsimp only; rw [a1, decide_eq_true (by omega)]; simp⟩
/-- hours and a colon, as the reference reads them -/
theorem rhrs_rel (S : ByteArray) (least : Nat) (l1 : 1 ≤ least) : relRV S ((rhrsS S 0 false least).1, rmarkS S (rhrsS S 0 false least).2.1 (rhrsS S 0 false least).2.2 58) (hcO least (tl S 0)) := by
  have hl := run_le (tl S 0)
  have hlen := tl_len S 0
  have hidx := idx_lt (tl S 0) 58
  have key : ∀ i : Nat, Lib.indexByte (tl S 0) 58 = i → noD ((tl S 0).take i) = false → runN (tl S 0) = i := by
    intro i hi hn
    obtain ⟨d1, d2⟩ := idx_split (tl S 0) 58 (by omega)
    rw [hi, Int.toNat_natCast] at d1 d2
    refine run_stop _ i ((run_iff _ _).mpr ⟨by omega, hn⟩) (fun c hc => ?_)
    rw [← List.head?_drop, d1] at hc
    simp only [List.head?_cons, Option.some.injEq] at hc
    rw [← hc]; decide
  have key2 : ((tl S 0).drop (runN (tl S 0))).head? = some 58 → Lib.indexByte (tl S 0) 58 = (runN (tl S 0) : Int) := by
    intro hh
    have hn := ((run_iff (tl S 0) (runN (tl S 0))).mp (Nat.le_refl _))
    have hd : ∃ r, (tl S 0).drop (runN (tl S 0)) = 58 :: r := by
      cases hc : (tl S 0).drop (runN (tl S 0)) with
      | nil => rw [hc] at hh; cases hh
      | cons a r => rw [hc] at hh; simp only [List.head?_cons, Option.some.injEq] at hh; exact ⟨r, by rw [hh]⟩
    obtain ⟨r, hr⟩ := hd
    have hsp := List.take_append_drop (runN (tl S 0)) (tl S 0)
    rw [hr] at hsp
    have := ParD.index_at ((tl S 0).take (runN (tl S 0))) r 58 (by
      intro hm
      have h2 := hn.2
      unfold noD at h2
      rw [List.any_eq_false] at h2
      have h3 := h2 58 hm
      exact h3 (by decide))
    rw [hsp] at this
    rw [this, List.length_take, Nat.min_eq_left hl]
  unfold rhrsS
  by_cases h : runN (tl S 0) < least ∨ runN (tl S 0) > 3 ∨ (runN (tl S 0) > least ∧ (tl S 0).head? = some 48)
  · rw [if_pos h]
    have hno : hcO least (tl S 0) = none := by
      unfold hcO
      rw [if_neg]
      rintro ⟨c1, c2, c3, c4⟩
      obtain ⟨i, hi⟩ : ∃ i : Nat, Lib.indexByte (tl S 0) 58 = i := ⟨(Lib.indexByte (tl S 0) 58).toNat, by omega⟩
      rw [hi] at c1 c2 c3
      rw [hi, Int.toNat_natCast] at c4
      have e := key i hi c4
      rw [e] at h
      rcases h with h | h | ⟨h, h'⟩
      · omega
      · omega
      · exact c3 (by omega) h'
    rw [hno]
    refine ⟨?_, ?_⟩
    · unfold rmarkS
      split
      · rename_i hc
        have : (tl S 0).head? = some 58 := hc
        have : (tl S 0).length ≠ 0 := by intro h; rw [List.length_eq_zero_iff] at h; rw [h] at this; cases this
        dsimp only; omega
      · dsimp only; omega
    · show (rmarkS S 0 true 58).2 = true
      unfold rmarkS
      split <;> rfl
  · rw [if_neg h]
    have hj : rnumS S 0 false (runN (tl S 0)) = (vg ((tl S 0).take (runN (tl S 0))), 0 + runN (tl S 0), false) := by
      unfold rnumS
      rw [show S.data.toList.drop 0 = tl S 0 from rfl, if_pos (Nat.le_refl _)]
    rw [hj, Nat.zero_add]
    dsimp only
    have et : S.data.toList.drop (runN (tl S 0)) = (tl S 0).drop (runN (tl S 0)) := by unfold tl; rw [List.drop_zero]
    unfold rmarkS
    rw [et]
    have hn := ((run_iff (tl S 0) (runN (tl S 0))).mp (Nat.le_refl _))
    by_cases hc : ((tl S 0).drop (runN (tl S 0))).head? = some 58
    · rw [if_pos hc]
      have hi := key2 hc
      have hyes : hcO least (tl S 0) = some (vg ((tl S 0).take (runN (tl S 0))), (tl S 0).drop (runN (tl S 0) + 1)) := by
        unfold hcO
        rw [hi, Int.toNat_natCast, if_pos]
        refine ⟨by omega, by omega, fun h1 h2 => h (.inr (.inr ⟨by omega, h2⟩)), hn.2⟩
      rw [hyes]
      refine ⟨?_, rfl, ?_, rfl⟩
      · have : ((tl S 0).drop (runN (tl S 0))).length ≠ 0 := by intro h; rw [List.length_eq_zero_iff] at h; rw [h] at hc; cases hc
        rw [List.length_drop] at this
        dsimp only; omega
      · unfold tl; rw [List.drop_zero]
    · rw [if_neg hc]
      have hno : hcO least (tl S 0) = none := by
        unfold hcO
        rw [if_neg]
        rintro ⟨c1, c2, c3, c4⟩
        obtain ⟨i, hi⟩ : ∃ i : Nat, Lib.indexByte (tl S 0) 58 = i := ⟨(Lib.indexByte (tl S 0) 58).toNat, by omega⟩
        rw [hi, Int.toNat_natCast] at c4
        have e := key i hi c4
        obtain ⟨d1, _⟩ := idx_split (tl S 0) 58 (by omega)
        rw [hi, Int.toNat_natCast] at d1
        rw [e, d1] at hc
        exact hc rfl
      rw [hno]
      exact ⟨by dsimp only; omega, rfl⟩
end Go.Proofs.YtghiibdhibcbaaaDoor.PA
