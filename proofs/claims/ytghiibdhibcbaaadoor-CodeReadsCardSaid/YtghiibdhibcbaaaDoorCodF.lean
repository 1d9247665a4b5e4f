/- code: numbered, last, Label told at all inputs. -/
import Derived.Test.YtghiibdhibcbaaaDoorCodE
namespace Go.Proofs.YtghiibdhibcbaaaDoor.PA
open Go Go.RowKit Go.Proofs.YtghiibdhibcbaaaDoor.CS
set_option linter.unusedSimpArgs false
set_option linter.unusedVariables false
theorem dropsS_30 : dropsS 30000 1001 = 2 := by decide
theorem dropsS_60 : dropsS 60000 1001 = 4 := by decide
theorem numbered_any (n d fr : Int) (dr : Bool) (h : okR n d dr = true) (hf : inF n d fr = true) (w : World) :
    Calls Tryd.prog 44 #[rate n d dr, .int .i64 fr] w fun e w' => e = .returned (.int .i64 (num n d dr fr)) ∧ Below w.heap.size w w' := by
  have o := okR_iff.mp h
  obtain ⟨b0, b1, _, _, _⟩ := fr_le o hf
  rcases o.kinds with ⟨rfl, _⟩ | ⟨rfl, rfl, rfl, hd, hF⟩ | ⟨rfl, rfl, rfl, hd, hF⟩
  · rw [num_false]; exact numbered_not n d fr w
  · have m1 := drops_any 30000 1001
    have m2 := full_any 30000 1001 true o
    rw [dropsS_30] at m1
    rw [full_30] at m2
    unfold num
    rw [hd, hF]
    by_cases hm : 1800 ≤ fr % 17982
    · have e : (if fr % (600 * 30 - 9 * 2) ≥ 60 * 30 then (2 : Int) + (fr % (600 * 30 - 9 * 2) - 60 * 30) / (60 * 30 - 2) * 2 else 0) = 2 + (fr % 17982 - 1800) / 1798 * 2 := by rw [if_pos (by omega)]; omega
      rw [e]; exact numbered_30_far fr b0 (by omega) hm w m1 m2
    · have e : (if fr % (600 * 30 - 9 * 2) ≥ 60 * 30 then (2 : Int) + (fr % (600 * 30 - 9 * 2) - 60 * 30) / (60 * 30 - 2) * 2 else 0) = 0 := by rw [if_neg (by omega)]
      rw [e, Int.add_zero]; exact numbered_30_near fr b0 (by omega) (by omega) w m1 m2
  · have m1 := drops_any 60000 1001
    have m2 := full_any 60000 1001 true o
    rw [dropsS_60] at m1
    rw [full_60] at m2
    unfold num
    rw [hd, hF]
    by_cases hm : 3600 ≤ fr % 35964
    · have e : (if fr % (600 * 60 - 9 * 4) ≥ 60 * 60 then (4 : Int) + (fr % (600 * 60 - 9 * 4) - 60 * 60) / (60 * 60 - 4) * 4 else 0) = 4 + (fr % 35964 - 3600) / 3596 * 4 := by rw [if_pos (by omega)]; omega
      rw [e]; exact numbered_60_far fr b0 (by omega) hm w m1 m2
    · have e : (if fr % (600 * 60 - 9 * 4) ≥ 60 * 60 then (4 : Int) + (fr % (600 * 60 - 9 * 4) - 60 * 60) / (60 * 60 - 4) * 4 else 0) = 0 := by rw [if_neg (by omega)]
      rw [e, Int.add_zero]; exact numbered_60_near fr b0 (by omega) (by omega) w m1 m2
theorem num_le {n d fr : Int} {dr : Bool} (h : okR n d dr = true) (hf : inF n d fr = true) : 0 ≤ num n d dr fr ∧ num n d dr fr ≤ 1000000000 := by
  have o := okR_iff.mp h
  obtain ⟨b0, b1, _, _, _⟩ := fr_le o hf
  obtain ⟨f0, f1⟩ := inF_iff.mp hf
  rcases o.kinds with ⟨rfl, _⟩ | ⟨rfl, rfl, rfl, hd, hF⟩ | ⟨rfl, rfl, rfl, hd, hF⟩
  · rw [num_false]; omega
  · unfold num
    rw [hd, hF]
    split <;> omega
  · unfold num
    rw [hd, hF]
    split <;> omega
/-- how many digits the number in a second has -/
def wide (f : Int) : Nat := if f > 100 then 3 else 2
theorem itoa_nat {n : Int} (h : 0 ≤ n) : Lib.itoa n = Lib.decDigits n.toNat := by unfold Lib.itoa; rw [if_neg (by omega)]
theorem dec_len1 {u : Nat} (h : u < 10) : (Lib.decDigits u).length = 1 := by rw [ParD.dec_small h]; rfl
theorem dec_len2 {u : Nat} (h0 : 10 ≤ u) (h : u < 100) : (Lib.decDigits u).length = 2 := by rw [ParD.dec_big (by omega), List.length_append, dec_len1 (by omega)]; rfl
theorem dec_len3 {u : Nat} (h0 : 100 ≤ u) (h : u < 1000) : (Lib.decDigits u).length = 3 := by rw [ParD.dec_big (by omega), List.length_append, dec_len2 (by omega) (by omega)]; rfl
theorem last_any (n d : Int) (dr : Bool) (o : Ok n d dr) (w : World) (ht : TabN w) :
    Calls Tryd.prog 48 #[rate n d dr] w fun e w' => e = .returned (.int .i64 (wide (full n d) : Int)) ∧ Below w.heap.size w w' := by
  obtain ⟨f0, f1⟩ := full_le o
  have h := last_some n d (full n d) dr (bs (Lib.itoa (full n d - 1))) f0 f1 (itoa_len _ (by omega) (by omega)) w ht (full_any n d dr o) (format_any _ (by omega) (by omega))
  have e : max 2 ((bs (Lib.itoa (full n d - 1))).size : Int) = (wide (full n d) : Int) := by
    rw [bs_size, itoa_nat (by omega)]
    unfold wide
    by_cases h1 : full n d > 100
    · rw [if_pos h1, dec_len3 (by omega) (by omega)]; rfl
    · rw [if_neg h1]
      by_cases h2 : full n d ≤ 10
      · rw [dec_len1 (by omega)]; rfl
      · rw [dec_len2 (by omega) (by omega)]; rfl
  rw [e] at h
  exact h
/-- a label's text: hours, minutes, seconds, the number -/
def labT (dr : Bool) (h m s k : Int) (wd : Nat) : List UInt8 := digL h 2 ++ 58 :: (digL m 2 ++ 58 :: (digL s 2 ++ (if dr = true then 59 else 58) :: digL k wd))
def labL (n d : Int) (dr : Bool) (fr : Int) : List UInt8 :=
  labT dr (num n d dr fr / full n d / 3600) (num n d dr fr / full n d / 60 % 60) (num n d dr fr / full n d % 60) (num n d dr fr % full n d) (wide (full n d))
def lblS (n d : Int) (dr : Bool) (fr : Int) : List UInt8 × Int := if okR n d dr = true then (if inF n d fr = true then (labL n d dr fr, 0) else ([], 31)) else ([], 14)
theorem digL_sz {n : Int} {l : Nat} (h0 : -9223372036854775808 ≤ n) (h1 : n ≤ 9223372036854775807) (hl : l ≤ 10) : (bs (digL n l)).size ≤ 21 := by
  have := itoa_len n h0 h1
  rw [bs_size] at this
  rw [bs_size, digL_len]; omega
theorem wide_le (f : Int) : wide f ≤ 10 := by unfold wide; split <;> omega
theorem label_any (n d fr : Int) (dr : Bool) (w : World) (ht : TabN w) :
    Calls Tryd.prog 18 #[rate n d dr, .int .i64 fr] w fun e w' => e = .returned (.tuple #[.string (bs (lblS n d dr fr).1), .int .i64 (lblS n d dr fr).2]) ∧ Below w.heap.size w w' := by
  have m1 := ctime_any n d fr dr
  unfold lblS
  by_cases h : okR n d dr = true
  · rw [if_pos h]
    have o := okR_iff.mp h
    by_cases hf : inF n d fr = true
    · rw [if_pos hf]
      have hz : (timF n d dr fr).2.2 = 0 := by rw [timF_ok h hf]
      rw [hz] at m1
      obtain ⟨k0, k1⟩ := num_le h hf
      obtain ⟨f0, f1⟩ := full_le o
      have s0 : 0 ≤ num n d dr fr / full n d := Int.ediv_nonneg k0 (by omega)
      have s1 : num n d dr fr / full n d ≤ num n d dr fr := Int.ediv_le_self _ k0
      have r0 : 0 ≤ num n d dr fr % full n d := Int.emod_nonneg _ (by omega)
      have r1 : num n d dr fr % full n d < full n d := Int.emod_lt_of_pos _ (by omega)
      have hc : bs (labL n d dr fr) = bs (digL (num n d dr fr / full n d / 3600) 2) ++ (⟨#[58]⟩ : ByteArray) ++ bs (digL (num n d dr fr / full n d / 60 % 60) 2) ++ (⟨#[58]⟩ : ByteArray) ++ bs (digL (num n d dr fr / full n d % 60) 2) ++ (if dr = true then ⟨#[59]⟩ else ⟨#[58]⟩) ++ bs (digL (num n d dr fr % full n d) (wide (full n d))) := by
        unfold labL labT
        rw [show (⟨#[58]⟩ : ByteArray) = bs [58] from rfl, show (⟨#[59]⟩ : ByteArray) = bs [59] from rfl]
        cases dr <;> simp only [if_true, Bool.false_eq_true, if_false, bs_cat, List.append_assoc, List.cons_append, List.nil_append]
      rw [hc]
      exact label_ok n d fr _ _ (full n d) (num n d dr fr) _ _ _ _ _ _ dr _ _ _ _ _ k0 k1 f0 f1 (beq_f (by omega)) rfl s0 (by omega) rfl rfl rfl rfl
        (digL_sz (by omega) (by omega) (by omega)) (digL_sz (by omega) (by omega) (by omega)) (digL_sz (by omega) (by omega) (by omega)) (digL_sz (by omega) (by omega) (wide_le _)) (by cases dr <;> decide) w ht m1 (numbered_any n d fr dr h hf) (full_any n d dr o)
        (digits_any _ 2 (by omega) (by omega) (by omega)) (digits_any _ 2 (by omega) (by omega) (by omega)) (digits_any _ 2 (by omega) (by omega) (by omega)) (colon_any n d dr) (last_any n d dr o) (digits_any _ (wide (full n d)) (wide_le _) (by omega) (by omega))
    · have hz : timF n d dr fr = (0, 0, 31) := by unfold timF; rw [if_pos h, if_neg hf]
      rw [hz] at m1
      rw [if_neg hf]; exact label_bad n d fr _ _ 31 dr (by decide) w m1
  · have hz : timF n d dr fr = (0, 0, 14) := by unfold timF; rw [if_neg h]
    rw [hz] at m1
    rw [if_neg h]; exact label_bad n d fr _ _ 14 dr (by decide) w m1
end Go.Proofs.YtghiibdhibcbaaaDoor.PA
