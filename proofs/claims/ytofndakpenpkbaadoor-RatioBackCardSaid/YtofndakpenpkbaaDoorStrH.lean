/- Parse of Text: a right ratio is read again. -/
import Derived.Test.YtofndakpenpkbaaDoorStrG
namespace Go.Proofs.YtofndakpenpkbaaDoor.PA
open Go.RowKit Go.Proofs.YtofndakpenpkbaaDoorW.PrintWords Go.Proofs.YtofndakpenpkbaaDoorW.PrintLast Go.Proofs.YtofndakpenpkbaaDoorW.PrintMore
set_option linter.unusedSimpArgs false
set_option linter.unusedVariables false
set_option maxHeartbeats 800000 in
set_option maxRecDepth 100000 in
theorem number_nz (s : ByteArray) (w : World) (hp : 0 < s.size) (hn : (s[0]'hp).toNat ≠ 48)
    (m1 : ∀ w, Calls Tryd.prog 80 #[.string s] w fun e w' => e = .returned (.bool true) ∧ Below w.heap.size w w') :
    Calls Tryd.prog 79 #[.string s] w fun e w' => e = .returned (.bool true) ∧ Below w.heap.size w w' := by
  have H1 := Lib.hid m1
  clear m1
  have hb : (((s[0]'hp).toNat : Int) == 48) = false := by simp; omega
  have hb2 : (((s[0]'hp).toNat : Int) != 48) = true := by simp; omega
  go_enter Tryd.func79, Tryd.ntmps79
  go_wp2_with fail
  with_reducible refine (H1.out _).mono ?_
  rintro e w1 ⟨rfl, hb1⟩
  go_wp2
  go_ret
  exact ⟨rfl, hb1⟩
def bs (l : List UInt8) : ByteArray := ⟨l.toArray⟩
theorem bs_size (l : List UInt8) : (bs l).size = l.length := by simp [bs, ByteArray.size]
theorem bs_list (l : List UInt8) : (bs l).data.toList = l := by simp [bs]
theorem bs_toList (l : List UInt8) : (bs l).toList = l := by rw [Lib.toList_data]; exact bs_list l
theorem bs_at (l : List UInt8) (i : Nat) (h : i < (bs l).size) : ∃ c, l[i]? = some c ∧ (bs l)[i]'h = c := by
  have hl : i < l.length := by rw [bs_size] at h; exact h
  exact ⟨l[i], List.getElem?_eq_getElem hl, by simp [bs, ByteArray.getElem_eq_getElem_data]⟩
theorem dig_all {u : Nat} (i : Nat) (h : i < (bs (Lib.decDigits u)).size) : 48 ≤ ((bs (Lib.decDigits u))[i]'h).toNat ∧ ((bs (Lib.decDigits u))[i]'h).toNat ≤ 57 := by
  obtain ⟨c, hc, e⟩ := bs_at _ i h
  rw [e]
  exact ParD.dec_dig u c (List.mem_of_getElem? hc)
theorem digits_dec (u : Nat) (hu : (Lib.decDigits u).length ≤ 19) (w : World) : Calls Tryd.prog 80 #[.string (bs (Lib.decDigits u))] w fun e w' => e = .returned (.bool true) ∧ Below w.heap.size w w' := by
  refine digits_yes _ w (by rw [bs_size]; omega) ?_ ?_
  · rw [bs_toList]
    have := ParD.dec_ne u
    cases h : Lib.decDigits u with
    | nil => exact absurd h this
    | cons c l => rfl
  · rw [bs_list]; exact ParD.trim_all _ (ParD.dec_dig u)
theorem number_dec (u : Nat) (hu : (Lib.decDigits u).length ≤ 19) (w : World) : Calls Tryd.prog 79 #[.string (bs (Lib.decDigits u))] w fun e w' => e = .returned (.bool true) ∧ Below w.heap.size w w' := by
  by_cases h0 : u = 0
  · subst h0
    rw [ParD.dec_zero]; exact number_0 w
  · obtain ⟨c, l, e, hc⟩ := ParD.dec_head u h0
    have hp : 0 < (bs (Lib.decDigits u)).size := by rw [bs_size, e]; simp
    refine number_nz _ w hp ?_ (digits_dec u hu)
    obtain ⟨c', hc', e'⟩ := bs_at _ 0 hp
    rw [e] at hc'
    simp at hc'
    rw [e', ← hc']
    intro h
    apply hc
    have : c = UInt8.ofNat c.toNat := by simp
    rw [this, h]; rfl
theorem read_dec (u : Nat) (hu : (Lib.decDigits u).length ≤ 19) (w : World) : Calls Tryd.prog 81 #[.string (bs (Lib.decDigits u))] w fun e w' => e = .returned (.agg #[.int .u64 (hiN u), .int .u64 (loN u)]) ∧ Below w.heap.size w w' := by
  have h := read_any (bs (Lib.decDigits u)) w (by rw [bs_size]; omega) (fun i h => dig_all i h)
  rw [bs_list, show valN (Lib.decDigits u) = u from ParD.val_dec u] at h
  exact h
theorem not_dig {u : Nat} {c : UInt8} (h : c.toNat < 48) : c ∉ Lib.decDigits u := fun hc => by
  have := (ParD.dec_dig u c hc).1
  omega
theorem cut_dec (u : Nat) (hu : (Lib.decDigits u).length ≤ 19) (c : UInt8) (hc : c.toNat < 48) (w : World) : Calls Tryd.prog 77 #[.string (bs (Lib.decDigits u)), .string ⟨#[c]⟩] w fun e w' => e = .returned (.tuple #[.string (bs (Lib.decDigits u)), .string ⟨#[]⟩, .bool false]) ∧ Below w.heap.size w w' := by
  have h := cut_one (bs (Lib.decDigits u)) c w (by rw [bs_size]; omega)
  rw [bs_list, ParD.cut_none (not_dig hc)] at h
  exact h
theorem cut_two (u v : Nat) (hu : (Lib.decDigits u).length ≤ 19) (hv : (Lib.decDigits v).length ≤ 19) (w : World) : Calls Tryd.prog 77 #[.string (bs (Lib.decDigits u ++ 47 :: Lib.decDigits v)), .string ⟨#[47]⟩] w fun e w' => e = .returned (.tuple #[.string (bs (Lib.decDigits u)), .string (bs (Lib.decDigits v)), .bool true]) ∧ Below w.heap.size w w' := by
  have h := cut_one (bs (Lib.decDigits u ++ 47 :: Lib.decDigits v)) 47 w (by rw [bs_size]; simp; omega)
  rw [bs_list, ParD.cut_at _ _ _ (not_dig (by decide))] at h
  exact h
theorem trim_dec (u : Nat) (hu : (Lib.decDigits u).length ≤ 19) (w : World) : Calls Tryd.prog 78 #[.string (bs (Lib.decDigits u)), .string ⟨#[48]⟩] w fun e w' => e = .returned (.string (bs (Lib.trimB (Lib.decDigits u) 48))) ∧ Below w.heap.size w w' := by
  have h := Tryd.strings_Trim_one (bs (Lib.decDigits u)) 48 (by decide) w (by rw [bs_size]; omega)
  rw [bs_list] at h
  refine h.mono fun e w' ⟨a, b⟩ => ⟨a, ?_⟩
  rcases b with rfl | rfl
  · exact Below.refl _ _
  · exact (Below.refl _ _).drew
theorem nought_dec (u : Nat) (hu : u ≠ 0) : (bs (Lib.trimB (Lib.decDigits u) 48)).toList.isEmpty = false := by
  rw [bs_toList]
  obtain ⟨c, l, e, hc⟩ := ParD.dec_head u hu
  have := ParD.trimB_ne (l := Lib.decDigits u) (c := c) (d := 48) (by rw [e]; exact List.mem_cons_self) hc
  cases h : Lib.trimB (Lib.decDigits u) 48 with
  | nil => rw [h] at this; simp at this
  | cons a b => rfl
theorem prefix_neg (l : List UInt8) (w : World) : Calls Tryd.prog 76 #[.string (bs (45 :: l)), .string ⟨#[45]⟩] w fun e w' => e = .returned (.tuple #[.string (bs l), .bool true]) ∧ Below w.heap.size w w' := by
  have h := Tryd.strings_CutPrefix (bs (45 :: l)) ⟨#[45]⟩ w
  rw [bs_list, show (⟨#[45]⟩ : ByteArray).data.toList = [45] from rfl] at h
  have e1 : Lib.hasPrefix (45 :: l) [45] = true := by simp [Lib.hasPrefix, List.isPrefixOf]
  have e2 : Lib.trimPrefix (45 :: l) [45] = l := by unfold Lib.trimPrefix; rw [e1]; rfl
  rw [e1, e2] at h
  exact h.mono fun e w' ⟨a, b⟩ => ⟨a, by rw [b]; exact Below.refl _ _⟩
theorem prefix_pos (c : UInt8) (l : List UInt8) (hc : c ≠ 45) (w : World) : Calls Tryd.prog 76 #[.string (bs (c :: l)), .string ⟨#[45]⟩] w fun e w' => e = .returned (.tuple #[.string (bs (c :: l)), .bool false]) ∧ Below w.heap.size w w' := by
  have h := Tryd.strings_CutPrefix (bs (c :: l)) ⟨#[45]⟩ w
  rw [bs_list, show (⟨#[45]⟩ : ByteArray).data.toList = [45] from rfl] at h
  have e1 : Lib.hasPrefix (c :: l) [45] = false := by simp [Lib.hasPrefix, List.isPrefixOf]; exact fun e => hc e.symm
  have e2 : Lib.trimPrefix (c :: l) [45] = c :: l := by unfold Lib.trimPrefix; rw [e1]; rfl
  rw [e1, e2] at h
  exact h.mono fun e w' ⟨a, b⟩ => ⟨a, by rw [b]; exact Below.refl _ _⟩
theorem prefix_dec (u : Nat) (r : List UInt8) (w : World) : Calls Tryd.prog 76 #[.string (bs (Lib.decDigits u ++ r)), .string ⟨#[45]⟩] w fun e w' => e = .returned (.tuple #[.string (bs (Lib.decDigits u ++ r)), .bool false]) ∧ Below w.heap.size w w' := by
  cases h : Lib.decDigits u with
  | nil => exact absurd h (ParD.dec_ne u)
  | cons c l =>
    refine prefix_pos c (l ++ r) (fun e => ?_) w
    have := (ParD.dec_dig u c (by rw [h]; exact List.mem_cons_self)).1
    rw [e] at this
    exact absurd this (by decide)
theorem cat_dec (l : List UInt8) : bs l ++ (⟨#[]⟩ : ByteArray) = bs l := by
  have := bcat l []
  rw [List.append_nil] at this
  exact this
theorem fit_right {n d : Int} (h : rightS n d = true) : fitS (decide (n < 0)) n.natAbs d.natAbs = (n, d, 0) := by
  have hb := right_bounds h
  unfold rightS at h
  rw [Bool.and_eq_true, decide_eq_true_eq, decide_eq_true_eq] at h
  have h2 := h.2
  unfold newS at h2
  rw [if_neg (by omega), decide_eq_false (show ¬ d < 0 by omega)] at h2
  simpa using h2
theorem itoa_neg' {n : Int} (h : n < 0) : Lib.itoa n = 45 :: Lib.decDigits n.natAbs := by unfold Lib.itoa; rw [if_pos h]
theorem itoa_pos' {n : Int} (h : ¬ n < 0) : Lib.itoa n = Lib.decDigits n.natAbs := by unfold Lib.itoa; rw [if_neg h]; congr 1; omega
theorem parse_txt (n d : Int) (hr : rightS n d = true) (w : World) :
    Calls Tryd.prog 47 #[.string ⟨(txt n d).toArray⟩] w fun e w' => e = .returned (.tuple #[.agg #[.int .i64 n, .int .i64 d], .int .i64 0]) ∧ Below w.heap.size w w' := by
  obtain ⟨d1, d2, d3, _⟩ := right_bounds hr
  have hf := fit_right hr
  have p19 : (10 : Nat) ^ (18 + 1) = 10000000000000000000 := by decide
  have hN : (Lib.decDigits n.natAbs).length ≤ 19 := ParD.dec_len 18 _ (by omega)
  have hD : (Lib.decDigits d.natAbs).length ≤ 19 := ParD.dec_len 18 _ (by omega)
  have hs : (bs (Lib.decDigits n.natAbs)).size ≤ 19 := by rw [bs_size]; exact hN
  have hq : (bs (Lib.decDigits d.natAbs)).size ≤ 19 := by rw [bs_size]; exact hD
  have hz : (hiN d.natAbs == 0 && loN d.natAbs == 0) = false := hl_zero (by omega)
  have m11 : ∀ w, Calls Tryd.prog 51 #[.agg #[.bool (decide (n < 0)), .int .u64 (hiN n.natAbs), .int .u64 (loN n.natAbs), .int .u64 (hiN d.natAbs), .int .u64 (loN d.natAbs)]] w fun e w' => e = .returned (.tuple #[.agg #[.int .i64 n, .int .i64 d], .int .i64 0]) ∧ Below w.heap.size w w' := fun w => by
    have h := fit_any (decide (n < 0)) n.natAbs d.natAbs (by omega) (by omega) (by omega) w
    rw [hf] at h; exact h
  have hd0 : ¬ d < 0 := by omega
  show Calls Tryd.prog 47 #[.string (bs (txt n d))] w _
  unfold txt
  by_cases hd : d = 1
  · rw [if_pos hd, List.append_nil]
    have e1 : hiN d.natAbs = 0 := by rw [hd]; rfl
    have e2 : loN d.natAbs = 1 := by rw [hd]; rfl
    rw [e1, e2] at m11
    by_cases hn : n < 0
    · rw [decide_eq_true hn] at m11
      rw [itoa_neg' hn]
      exact parse_nm _ _ _ _ n d 0 w (prefix_neg _) (cut_dec _ hN 47 (by decide)) (cut_dec _ hN 46 (by decide)) (cat_dec _) (trim_dec _ hN) (number_dec _ hN) (nought_dec _ (by omega)) hs (read_dec _ hN) m11
    · rw [decide_eq_false hn] at m11
      rw [itoa_pos' hn]
      have hp := prefix_dec n.natAbs []
      rw [List.append_nil] at hp
      exact parse_np _ _ _ _ n d 0 w hp (cut_dec _ hN 47 (by decide)) (cut_dec _ hN 46 (by decide)) (cat_dec _) (trim_dec _ hN) (number_dec _ hN) hs (read_dec _ hN) m11
  · rw [if_neg hd, itoa_pos' hd0]
    by_cases hn : n < 0
    · rw [decide_eq_true hn] at m11
      rw [itoa_neg' hn]
      exact parse_qm _ _ _ _ _ _ _ n d 0 w (prefix_neg _) (cut_two _ _ hN hD) (cut_dec _ hN 46 (by decide)) (cat_dec _) (trim_dec _ hN) (number_dec _ hN) (number_dec _ hD) (nought_dec _ (by omega)) hs hq hz (read_dec _ hN) (read_dec _ hD) m11
    · rw [decide_eq_false hn] at m11
      rw [itoa_pos' hn]
      exact parse_qp _ _ _ _ _ _ _ n d 0 w (prefix_dec _ _) (cut_two _ _ hN hD) (cut_dec _ hN 46 (by decide)) (cat_dec _) (trim_dec _ hN) (number_dec _ hN) (number_dec _ hD) hs hq hz (read_dec _ hN) (read_dec _ hD) m11
end Go.Proofs.YtofndakpenpkbaaDoor.PA
