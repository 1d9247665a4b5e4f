/- Decimal numerals: their digits, their value; cutting and trimming at a byte, in plain lists. -/
import Derived.Lib.ItoaNum
import Derived.Lib.IndexMore
import Derived.Lib.IndexBytes
import Derived.Lib.SlTrimSet
import Derived.Lib.TrimByte
namespace Go.Proofs.YtghiibdhibcbaaaDoor.ParD
open Go.Lib
def isDig (c : UInt8) : Prop := 48 ≤ c.toNat ∧ c.toNat ≤ 57
/-- digits as a number -/
def val (l : List UInt8) : Nat := l.foldl (fun n c => 10 * n + (c.toNat - 48)) 0
theorem val_snoc (l : List UInt8) (c : UInt8) : val (l ++ [c]) = 10 * val l + (c.toNat - 48) := by unfold val; rw [List.foldl_append]; rfl
theorem dig_nat (d : Nat) (h : d < 10) : (UInt8.ofNat (48 + d)).toNat = 48 + d := by
  rw [UInt8.toNat_ofNat']; omega
theorem dec_small {u : Nat} (h : u < 10) : decDigits u = [UInt8.ofNat (48 + u)] := by rw [decDigits, dif_pos h]
theorem dec_big {u : Nat} (h : ¬ u < 10) : decDigits u = decDigits (u / 10) ++ [UInt8.ofNat (48 + u % 10)] := by rw [decDigits, dif_neg h]
theorem dec_dig (u : Nat) : ∀ c ∈ decDigits u, isDig c := by
  induction u using Nat.strongRecOn with
  | _ u ih =>
    intro c hc
    by_cases h : u < 10
    · rw [dec_small h] at hc
      rw [List.mem_singleton] at hc; subst hc
      have := dig_nat u h
      unfold isDig; omega
    · rw [dec_big h, List.mem_append] at hc
      rcases hc with hc | hc
      · exact ih (u / 10) (by omega) c hc
      · rw [List.mem_singleton] at hc; subst hc
        have := dig_nat (u % 10) (by omega)
        unfold isDig; omega
theorem dec_ne (u : Nat) : decDigits u ≠ [] := by
  by_cases h : u < 10
  · rw [dec_small h]; simp
  · rw [dec_big h]; simp
theorem val_dec (u : Nat) : val (decDigits u) = u := by
  induction u using Nat.strongRecOn with
  | _ u ih =>
    by_cases h : u < 10
    · rw [dec_small h]
      have := dig_nat u h
      simp only [val, List.foldl_cons, List.foldl_nil]; omega
    · rw [dec_big h, val_snoc, ih (u / 10) (by omega)]
      have := dig_nat (u % 10) (by omega)
      omega
theorem dec_len : ∀ (k u : Nat), u < 10 ^ (k + 1) → (decDigits u).length ≤ k + 1
  | 0, u, h => by rw [dec_small (by simpa using h)]; simp
  | k + 1, u, h => by
    by_cases h10 : u < 10
    · rw [dec_small h10]; simp
    · rw [dec_big h10, List.length_append]
      have := dec_len k (u / 10) (by rw [Nat.pow_succ] at h; omega)
      simp only [List.length_cons, List.length_nil]; omega
theorem dec_head (u : Nat) (h0 : u ≠ 0) : ∃ c l, decDigits u = c :: l ∧ c ≠ 48 := by
  induction u using Nat.strongRecOn with
  | _ u ih =>
    by_cases h : u < 10
    · refine ⟨UInt8.ofNat (48 + u), [], dec_small h, fun e => ?_⟩
      have := dig_nat u h
      rw [e] at this
      have e48 : (48 : UInt8).toNat = 48 := rfl
      omega
    · obtain ⟨c, l, e, hc⟩ := ih (u / 10) (by omega) (by omega)
      exact ⟨c, l ++ [UInt8.ofNat (48 + u % 10)], by rw [dec_big h, e]; rfl, hc⟩
theorem dec_zero : decDigits 0 = [48] := dec_small (by decide)
def digits10 : List UInt8 := [48, 49, 50, 51, 52, 53, 54, 55, 56, 57]
theorem dig_mem {c : UInt8} (h : isDig c) : digits10.contains c = true := by
  have e : c = UInt8.ofNat c.toNat := by simp
  obtain ⟨h1, h2⟩ := h
  rw [e]
  generalize c.toNat = n at h1 h2
  obtain rfl | rfl | rfl | rfl | rfl | rfl | rfl | rfl | rfl | rfl : n = 48 ∨ n = 49 ∨ n = 50 ∨ n = 51 ∨ n = 52 ∨ n = 53 ∨ n = 54 ∨ n = 55 ∨ n = 56 ∨ n = 57 := by omega
  all_goals decide
theorem drop_all {p : UInt8 → Bool} {l : List UInt8} (h : ∀ c ∈ l, p c = true) : l.dropWhile p = [] := by
  induction l with
  | nil => rfl
  | cons a l ih => rw [List.dropWhile_cons, if_pos (h a List.mem_cons_self)]; exact ih (fun c hc => h c (List.mem_cons_of_mem _ hc))
theorem trim_all (l : List UInt8) (h : ∀ c ∈ l, isDig c) : trimS l digits10 = [] := by
  unfold trimS trimRightS
  have e : l.reverse.dropWhile (digits10.contains ·) = [] := by
    exact drop_all (fun c hc => dig_mem (h c (List.mem_reverse.mp hc)))
  rw [e]; rfl
theorem dropWhile_ne {p : UInt8 → Bool} {l : List UInt8} {c : UInt8} (hc : c ∈ l) (hp : p c = false) : c ∈ l.dropWhile p := by
  induction l with
  | nil => simp at hc
  | cons a l ih =>
    rw [List.dropWhile_cons]
    by_cases ha : p a = true
    · rw [if_pos ha]
      rcases List.mem_cons.mp hc with rfl | hc
      · rw [hp] at ha; simp at ha
      · exact ih hc
    · rw [if_neg ha]; exact hc
theorem trimB_ne {l : List UInt8} {c d : UInt8} (hc : c ∈ l) (hd : c ≠ d) : c ∈ trimB l d := by
  rw [← trimS_one]
  unfold trimS trimLeftS trimRightS
  have hp : ([d].contains c) = false := by simp [hd]
  exact dropWhile_ne (List.mem_reverse.mpr (dropWhile_ne (List.mem_reverse.mpr hc) hp)) hp
theorem index_none {l : List UInt8} {c : UInt8} (h : c ∉ l) : indexByte l c = -1 := by
  induction l with
  | nil => rfl
  | cons b l ih =>
    have hb : (b == c) = false := by simp; rintro rfl; exact h List.mem_cons_self
    unfold indexByte
    rw [hb, ih (fun x => h (List.mem_cons_of_mem _ x))]; rfl
theorem index_at (l r : List UInt8) (c : UInt8) (h : c ∉ l) : indexByte (l ++ c :: r) c = (l.length : Int) := by
  induction l with
  | nil => simp [indexByte]
  | cons b l ih =>
    have hb : (b == c) = false := by simp; rintro rfl; exact h List.mem_cons_self
    rw [List.cons_append]
    unfold indexByte
    rw [hb, ih (fun x => h (List.mem_cons_of_mem _ x))]
    have e : (((l.length : Nat) : Int) == -1) = false := by simp
    rw [e]; simp
theorem cut_none {l : List UInt8} {c : UInt8} (h : c ∉ l) : cut l [c] = (l, [], false) := by
  unfold cut
  rw [index_one, index_none h]; rfl
theorem cut_at (l r : List UInt8) (c : UInt8) (h : c ∉ l) : cut (l ++ c :: r) [c] = (l, r, true) := by
  unfold cut
  rw [index_one, index_at l r c h, if_pos (by omega), Int.toNat_natCast]
  simp
end Go.Proofs.YtghiibdhibcbaaaDoor.ParD
