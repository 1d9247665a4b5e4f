/- Numbers as text: FormatInt, Itoa; digits. -/
import Derived.Test.YtghiibdhibcbaaaDoorCodB
import Derived.Test.YtghiibdhibcbaaaDoorShelfB
import Derived.Test.YtghiibdhibcbaaaDoorParD
import Derived.Shelf.Unicode.PredsPay
import Derived.Lib.AppendIntMem
import Derived.Lib.ItoaLen
namespace Go.Proofs.YtghiibdhibcbaaaDoor.PA
open Go Go.RowKit Go.Proofs.YtghiibdhibcbaaaDoorW.PrintWords Go.Proofs.YtghiibdhibcbaaaDoorW.PrintLast Go.Proofs.YtghiibdhibcbaaaDoorW.PrintMore
set_option linter.unusedSimpArgs false
set_option linter.unusedVariables false
/-- the table of powers lies as its initialiser lays it -/
def TabN (w : World) : Prop := Lib.TabIs Tryd.prog w "internal/strconv.uint64pow10" .u64 Lib.pow10Tab
theorem gTab : ∃ g, Tryd.prog.globalNamed "internal/strconv.uint64pow10" = some g := by
  have h : (Tryd.prog.globalNamed "internal/strconv.uint64pow10").isSome = true := by kernel_rfl
  exact Option.isSome_iff_exists.mp h
theorem tab_below {w w' : World} (h : TabN w) (hb : Below w.heap.size w w') : TabN w' := by
  obtain ⟨g, hg⟩ := gTab
  exact TabIs_below hg h hb
def bs (l : List UInt8) : ByteArray := ⟨l.toArray⟩
theorem bs_size (l : List UInt8) : (bs l).size = l.length := by simp [bs, ByteArray.size]
theorem bs_list (l : List UInt8) : (bs l).data.toList = l := by simp [bs]
theorem bs_toList (l : List UInt8) : (bs l).toList = l := by rw [Lib.toList_data]; exact bs_list l
theorem bs_of (s : ByteArray) : bs s.data.toList = s := by apply ByteArray.ext; simp [bs]
theorem bs_cat (a b : List UInt8) : bs a ++ bs b = bs (a ++ b) := by
  apply ByteArray.ext
  simp [bs]
theorem format_any (n : Int) (h0 : -9223372036854775808 ≤ n) (h1 : n ≤ 9223372036854775807) (w : World) (ht : TabN w) :
    Calls Tryd.prog 65 #[.int .i64 n, .int .i64 10] w fun e w' => e = .returned (.string (bs (Lib.itoa n))) ∧ Below w.heap.size w w' :=
  (Tryd.strconv_FormatInt_10 n h0 h1 w ht).mono fun e w' ⟨he, k, os, hw⟩ => ⟨he, by rw [hw]; exact Lib.below_grow _ _ (Nat.le_refl _) k os⟩
theorem itoa_len (n : Int) (h0 : -9223372036854775808 ≤ n) (h1 : n ≤ 9223372036854775807) : (bs (Lib.itoa n)).size ≤ 21 := by
  rw [bs_size]
  exact Nat.le_trans (Lib.itoa_length_le n h0 h1) (by omega)
theorem repeat_eq (c : UInt8) (k : Nat) : Lib.repeatL [c] k = List.replicate k c := by
  induction k with
  | zero => rfl
  | succ k ih => rw [Lib.repeatL, ih]; rfl
theorem repeat_any (k : Nat) (hk : k ≤ 1000) (w : World) :
    Calls Tryd.prog 81 #[.string ⟨#[48]⟩, .int .i64 (k : Int)] w fun e w' => e = .returned (.string (bs (List.replicate k 48))) ∧ Below w.heap.size w w' := by
  have h := Tryd.strings_Repeat ⟨#[48]⟩ k w (by omega) (by show 1 * k ≤ _; omega)
  rw [show (⟨#[48]⟩ : ByteArray).data.toList = [48] from rfl, repeat_eq] at h
  exact h
/-- a number, so many digits at least -/
def digL (n : Int) (least : Nat) : List UInt8 := List.replicate (least - (Lib.itoa n).length) 48 ++ Lib.itoa n
theorem digL_len (n : Int) (least : Nat) : (digL n least).length = max least (Lib.itoa n).length := by unfold digL; simp; omega
set_option maxHeartbeats 800000 in
set_option maxRecDepth 100000 in
theorem digits_one (n : Int) (least k : Nat) (S1 S2 : ByteArray) (k1 : S1.size ≤ 21) (k2 : S2.size ≤ 21) (hl : least ≤ 10) (hk : k + S1.size = least) (w : World) (ht : TabN w)
    (m1 : ∀ w, TabN w → Calls Tryd.prog 65 #[.int .i64 n, .int .i64 10] w fun e w' => e = .returned (.string S1) ∧ Below w.heap.size w w')
    (m2 : ∀ w, Calls Tryd.prog 81 #[.string ⟨#[48]⟩, .int .i64 (k : Int)] w fun e w' => e = .returned (.string S2) ∧ Below w.heap.size w w') :
    Calls Tryd.prog 46 #[.int .i64 n, .int .i64 (least : Int)] w fun e w' => e = .returned (.string (S2 ++ S1)) ∧ Below w.heap.size w w' := by
  have M1 := Lib.hid m1
  have M2 := Lib.hid m2
  have HT := Lib.hid ht
  have hw : IntKind.i64.wrap ((least : Int) - (S1.size : Int)) = (k : Int) := by rw [IntKind.wrap_i64]; omega
  have hmx : max 0 (k : Int) = (k : Int) := by omega
  have hsz : S2.size + S1.size ≤ 9223372036854775807 := by omega
  have hk0 : 0 ≤ (k : Int) := by omega
  clear m1 m2 ht hk
  go_enter Tryd.func46, Tryd.ntmps46
  go_wp2_with fail
  with_reducible refine (M1.out _ HT.out).mono ?_
  rintro e w1 ⟨rfl, hb1⟩
  go_wp2_with fail
  with_reducible refine (M2.out _).mono ?_
  rintro e w2 ⟨rfl, hb2⟩
  go_wp2
  go_ret
  exact ⟨rfl, Hand.stepB hb2 hb1 (Nat.le_refl _)⟩
set_option maxHeartbeats 800000 in
set_option maxRecDepth 100000 in
theorem digits_none (n : Int) (least : Nat) (S1 S2 : ByteArray) (k1 : S1.size ≤ 21) (k2 : S2.size ≤ 21) (hl : least ≤ 10) (hk : least ≤ S1.size) (w : World) (ht : TabN w)
    (m1 : ∀ w, TabN w → Calls Tryd.prog 65 #[.int .i64 n, .int .i64 10] w fun e w' => e = .returned (.string S1) ∧ Below w.heap.size w w')
    (m2 : ∀ w, Calls Tryd.prog 81 #[.string ⟨#[48]⟩, .int .i64 0] w fun e w' => e = .returned (.string S2) ∧ Below w.heap.size w w') :
    Calls Tryd.prog 46 #[.int .i64 n, .int .i64 (least : Int)] w fun e w' => e = .returned (.string (S2 ++ S1)) ∧ Below w.heap.size w w' := by
  have M1 := Lib.hid m1
  have HT := Lib.hid ht
  have M2 := Lib.hid m2
  have hmx : max 0 ((least : Int) - (S1.size : Int)) = 0 := by omega
  have hsz : S2.size + S1.size ≤ 9223372036854775807 := by omega
  clear m1 m2 ht hk
  go_enter Tryd.func46, Tryd.ntmps46
  go_wp2_with fail
  with_reducible refine (M1.out _ HT.out).mono ?_
  rintro e w1 ⟨rfl, hb1⟩
  go_wp2_with fail
  with_reducible refine (M2.out _).mono ?_
  rintro e w2 ⟨rfl, hb2⟩
  go_wp2
  go_ret
  exact ⟨rfl, Hand.stepB hb2 hb1 (Nat.le_refl _)⟩
theorem digits_any (n : Int) (least : Nat) (hl : least ≤ 10) (h0 : -9223372036854775808 ≤ n) (h1 : n ≤ 9223372036854775807) (w : World) (ht : TabN w) :
    Calls Tryd.prog 46 #[.int .i64 n, .int .i64 (least : Int)] w fun e w' => e = .returned (.string (bs (digL n least))) ∧ Below w.heap.size w w' := by
  have k1 := itoa_len n h0 h1
  have e : bs (digL n least) = bs (List.replicate (least - (bs (Lib.itoa n)).size) 48) ++ bs (Lib.itoa n) := by rw [bs_cat, bs_size]; rfl
  rw [e]
  have k2 : (bs (List.replicate (least - (bs (Lib.itoa n)).size) (48 : UInt8))).size ≤ 21 := by rw [bs_size]; simp; omega
  by_cases hk : (bs (Lib.itoa n)).size ≤ least
  · exact digits_one n least (least - (bs (Lib.itoa n)).size) _ _ k1 k2 hl (by omega) w ht (format_any n h0 h1) (repeat_any _ (by omega))
  · exact digits_none n least _ _ k1 k2 hl (by omega) w ht (format_any n h0 h1) (fun w => by have h := repeat_any 0 (by omega) w; rw [show least - (bs (Lib.itoa n)).size = 0 by omega]; exact h)
end Go.Proofs.YtghiibdhibcbaaaDoor.PA
