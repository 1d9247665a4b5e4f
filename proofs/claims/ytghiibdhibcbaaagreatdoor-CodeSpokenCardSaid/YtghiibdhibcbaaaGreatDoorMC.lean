/- Decimal numerals: their digits, their value; cutting and trimming at a byte, in plain lists. Numbers as text: FormatInt, Itoa; digits. code: Grid, Time, Frame. code: numbered, last, Label. code: Grid, Time, Frame, Label told at all inputs. code: numbered, last, Label told at all inputs. -/
import Derived.Lib.ItoaNum
import Derived.Lib.IndexMore
import Derived.Lib.IndexBytes
import Derived.Lib.SlTrimSet
import Derived.Lib.TrimByte
import Derived.Test.YtghiibdhibcbaaaGreatDoorMB
import Derived.Test.YtghiibdhibcbaaaGreatDoorShelfB
import Derived.Shelf.Unicode.PredsPay
import Derived.Lib.AppendIntMem
import Derived.Lib.ItoaLen
import Derived.Deep.RegionHeld3
namespace Go.Proofs.YtghiibdhibcbaaaGreatDoor.ParD
open Go.Lib
def isDig (c : UInt8) : Prop := 48 ≤ c.toNat ∧ c.toNat ≤ 57
/-- digits as a number -/
def val (l : List UInt8) : Nat := l.foldl (fun n c => 10 * n + (c.toNat - 48)) 0
theorem val_snoc (l : List UInt8) (c : UInt8) : val (l ++ [c]) = 10 * val l + (c.toNat - 48) := by unfold val; rw [List.foldl_append]; rfl
theorem dig_nat (d : Nat) (h : d < 10) : (UInt8.ofNat (48 + d)).toNat = 48 + d := by
  rw [UInt8.toNat_ofNat']; omega
theorem dec_small {u : Nat} (h : u < 10) : decDigits u = [UInt8.ofNat (48 + u)] := by rw [decDigits, dif_pos h]
theorem dec_big {u : Nat} (h : ¬ u < 10) : decDigits u = decDigits (u / 10) ++ [UInt8.ofNat (48 + u % 10)] := by rw [decDigits, dif_neg h]
theorem dec_dig (u : Nat) : ∀ c ∈ decDigits u, isDig c := by
  induction u using Nat.strongRecOn with
  | _ u ih =>
    intro c hc
    by_cases h : u < 10
    · rw [dec_small h] at hc
      rw [List.mem_singleton] at hc; subst hc
      have := dig_nat u h
      unfold isDig; omega
    · rw [dec_big h, List.mem_append] at hc
      rcases hc with hc | hc
      · exact ih (u / 10) (by omega) c hc
      · rw [List.mem_singleton] at hc; subst hc
        have := dig_nat (u % 10) (by omega)
        unfold isDig; omega
theorem dec_ne (u : Nat) : decDigits u ≠ [] := by
  by_cases h : u < 10
  · rw [dec_small h]; simp
  · rw [dec_big h]; simp
theorem val_dec (u : Nat) : val (decDigits u) = u := by
  induction u using Nat.strongRecOn with
  | _ u ih =>
    by_cases h : u < 10
    · rw [dec_small h]
      have := dig_nat u h
      simp only [val, List.foldl_cons, List.foldl_nil]; omega
    · rw [dec_big h, val_snoc, ih (u / 10) (by omega)]
      have := dig_nat (u % 10) (by omega)
      omega
theorem dec_len : ∀ (k u : Nat), u < 10 ^ (k + 1) → (decDigits u).length ≤ k + 1
  | 0, u, h => by rw [dec_small (by simpa using h)]; simp
  | k + 1, u, h => by
    by_cases h10 : u < 10
    · rw [dec_small h10]; simp
    · rw [dec_big h10, List.length_append]
      have := dec_len k (u / 10) (by rw [Nat.pow_succ] at h; omega)
      simp only [List.length_cons, List.length_nil]; omega
theorem dec_head (u : Nat) (h0 : u ≠ 0) : ∃ c l, decDigits u = c :: l ∧ c ≠ 48 := by
  induction u using Nat.strongRecOn with
  | _ u ih =>
    by_cases h : u < 10
    · refine ⟨UInt8.ofNat (48 + u), [], dec_small h, fun e => ?_⟩
      have := dig_nat u h
      rw [e] at this
      have e48 : (48 : UInt8).toNat = 48 := rfl
      omega
    · obtain ⟨c, l, e, hc⟩ := ih (u / 10) (by omega) (by omega)
      exact ⟨c, l ++ [UInt8.ofNat (48 + u % 10)], by rw [dec_big h, e]; rfl, hc⟩
def digits10 : List UInt8 := [48, 49, 50, 51, 52, 53, 54, 55, 56, 57]
theorem index_at (l r : List UInt8) (c : UInt8) (h : c ∉ l) : indexByte (l ++ c :: r) c = (l.length : Int) := by
  induction l with
  | nil => simp [indexByte]
  | cons b l ih =>
    have hb : (b == c) = false := by simp; rintro rfl; exact h List.mem_cons_self
    rw [List.cons_append]
    unfold indexByte
    rw [hb, ih (fun x => h (List.mem_cons_of_mem _ x))]
    have e : (((l.length : Nat) : Int) == -1) = false := by simp
    rw [e]; simp
theorem cut_at (l r : List UInt8) (c : UInt8) (h : c ∉ l) : cut (l ++ c :: r) [c] = (l, r, true) := by
  unfold cut
  rw [index_one, index_at l r c h, if_pos (by omega), Int.toNat_natCast]
  simp
end Go.Proofs.YtghiibdhibcbaaaGreatDoor.ParD
namespace Go.Proofs.YtghiibdhibcbaaaGreatDoor.PA
open Go Go.RowKit Go.Proofs.YtghiibdhibcbaaaGreatDoorW.PrintWords Go.Proofs.YtghiibdhibcbaaaGreatDoorW.PrintLast Go.Proofs.YtghiibdhibcbaaaGreatDoorW.PrintMore
set_option linter.unusedSimpArgs false
set_option linter.unusedVariables false
/-- the table of powers lies as its initialiser lays it -/
def TabN (w : World) : Prop := Lib.TabIs Tryz.prog w "internal/strconv.uint64pow10" .u64 Lib.pow10Tab
theorem gTab : ∃ g, Tryz.prog.globalNamed "internal/strconv.uint64pow10" = some g := by
  have h : (Tryz.prog.globalNamed "internal/strconv.uint64pow10").isSome = true := by kernel_rfl
  exact Option.isSome_iff_exists.mp h
theorem tab_below {w w' : World} (h : TabN w) (hb : Below w.heap.size w w') : TabN w' := by
  obtain ⟨g, hg⟩ := gTab
  exact TabIs_below hg h hb
theorem tab_alloc {w : World} (h : TabN w) (o : Obj) : TabN (w.alloc o) := tab_below h ((Below.refl _ _).alloc (Nat.le_refl _) o)
theorem tab_drew {w : World} (h : TabN w) : TabN w.drew := tab_below h (Below.refl _ _).drew
theorem tab_drewN {w : World} (h : TabN w) (k : Nat) : TabN (w.drewN k) := tab_below h (pw_below_drewN (Below.refl _ _) k)
def bs (l : List UInt8) : ByteArray := ⟨l.toArray⟩
theorem bs_size (l : List UInt8) : (bs l).size = l.length := by simp [bs, ByteArray.size]
theorem bs_list (l : List UInt8) : (bs l).data.toList = l := by simp [bs]
theorem bs_toList (l : List UInt8) : (bs l).toList = l := by rw [Lib.toList_data]; exact bs_list l
theorem bs_of (s : ByteArray) : bs s.data.toList = s := by apply ByteArray.ext; simp [bs]
theorem bs_cat (a b : List UInt8) : bs a ++ bs b = bs (a ++ b) := by
  apply ByteArray.ext
  simp [bs]
theorem format_any (n : Int) (h0 : -9223372036854775808 ≤ n) (h1 : n ≤ 9223372036854775807) (w : World) (ht : TabN w) :
    Calls Tryz.prog 37 #[.int .i64 n, .int .i64 10] w fun e w' => e = .returned (.string (bs (Lib.itoa n))) ∧ Below w.heap.size w w' :=
  (Tryz.strconv_FormatInt_10 n h0 h1 w ht).mono fun e w' ⟨he, k, os, hw⟩ => ⟨he, by rw [hw]; exact Lib.below_grow _ _ (Nat.le_refl _) k os⟩
theorem citoa_any (n : Int) (h0 : -9223372036854775808 ≤ n) (h1 : n ≤ 9223372036854775807) (w : World) (ht : TabN w) :
    Calls Tryz.prog 46 #[.int .i64 n] w fun e w' => e = .returned (.string (bs (Lib.itoa n))) ∧ Below w.heap.size w w' :=
  (Tryz.strconv_Itoa n h0 h1 w ht).mono fun e w' ⟨he, k, os, hw⟩ => ⟨he, by rw [hw]; exact Lib.below_grow _ _ (Nat.le_refl _) k os⟩
theorem itoa_len (n : Int) (h0 : -9223372036854775808 ≤ n) (h1 : n ≤ 9223372036854775807) : (bs (Lib.itoa n)).size ≤ 21 := by
  rw [bs_size]
  exact Nat.le_trans (Lib.itoa_length_le n h0 h1) (by omega)
theorem itoa_one (n : Int) : 1 ≤ (bs (Lib.itoa n)).size := by
  rw [bs_size]
  unfold Lib.itoa
  split
  · simp
  · have := ParD.dec_ne n.toNat
    cases h : Lib.decDigits n.toNat with
    | nil => exact absurd h this
    | cons a l => simp
theorem repeat_eq (c : UInt8) (k : Nat) : Lib.repeatL [c] k = List.replicate k c := by
  induction k with
  | zero => rfl
  | succ k ih => rw [Lib.repeatL, ih]; rfl
theorem repeat_any (k : Nat) (hk : k ≤ 1000) (w : World) :
    Calls Tryz.prog 65 #[.string ⟨#[48]⟩, .int .i64 (k : Int)] w fun e w' => e = .returned (.string (bs (List.replicate k 48))) ∧ Below w.heap.size w w' := by
  have h := Tryz.strings_Repeat ⟨#[48]⟩ k w (by omega) (by show 1 * k ≤ _; omega)
  rw [show (⟨#[48]⟩ : ByteArray).data.toList = [48] from rfl, repeat_eq] at h
  exact h
/-- a number, so many digits at least -/
def digL (n : Int) (least : Nat) : List UInt8 := List.replicate (least - (Lib.itoa n).length) 48 ++ Lib.itoa n
theorem digL_len (n : Int) (least : Nat) : (digL n least).length = max least (Lib.itoa n).length := by unfold digL; simp; omega
set_option maxHeartbeats 800000 in
set_option maxRecDepth 100000 in
theorem digits_one (n : Int) (least k : Nat) (S1 S2 : ByteArray) (k1 : S1.size ≤ 21) (k2 : S2.size ≤ 21) (hl : least ≤ 10) (hk : k + S1.size = least) (w : World) (ht : TabN w)
    (m1 : ∀ w, TabN w → Calls Tryz.prog 37 #[.int .i64 n, .int .i64 10] w fun e w' => e = .returned (.string S1) ∧ Below w.heap.size w w')
    (m2 : ∀ w, Calls Tryz.prog 65 #[.string ⟨#[48]⟩, .int .i64 (k : Int)] w fun e w' => e = .returned (.string S2) ∧ Below w.heap.size w w') :
    Calls Tryz.prog 36 #[.int .i64 n, .int .i64 (least : Int)] w fun e w' => e = .returned (.string (S2 ++ S1)) ∧ Below w.heap.size w w' := by
  have M1 := Lib.hid m1
  have M2 := Lib.hid m2
  have HT := Lib.hid ht
  have hw : IntKind.i64.wrap ((least : Int) - (S1.size : Int)) = (k : Int) := by rw [IntKind.wrap_i64]; omega
  have hmx : max 0 (k : Int) = (k : Int) := by omega
  have hsz : S2.size + S1.size ≤ 9223372036854775807 := by omega
  have hk0 : 0 ≤ (k : Int) := by omega
  clear m1 m2 ht hk
  go_enter Tryz.func36, Tryz.ntmps36
  go_wp2_with fail
  with_reducible refine (M1.out _ HT.out).mono ?_
  rintro e w1 ⟨rfl, hb1⟩
  go_wp2_with fail
  with_reducible refine (M2.out _).mono ?_
  rintro e w2 ⟨rfl, hb2⟩
  go_wp2
  go_ret
  exact ⟨rfl, Hand.stepB hb2 hb1 (Nat.le_refl _)⟩
set_option maxHeartbeats 800000 in
set_option maxRecDepth 100000 in
theorem digits_none (n : Int) (least : Nat) (S1 S2 : ByteArray) (k1 : S1.size ≤ 21) (k2 : S2.size ≤ 21) (hl : least ≤ 10) (hk : least ≤ S1.size) (w : World) (ht : TabN w)
    (m1 : ∀ w, TabN w → Calls Tryz.prog 37 #[.int .i64 n, .int .i64 10] w fun e w' => e = .returned (.string S1) ∧ Below w.heap.size w w')
    (m2 : ∀ w, Calls Tryz.prog 65 #[.string ⟨#[48]⟩, .int .i64 0] w fun e w' => e = .returned (.string S2) ∧ Below w.heap.size w w') :
    Calls Tryz.prog 36 #[.int .i64 n, .int .i64 (least : Int)] w fun e w' => e = .returned (.string (S2 ++ S1)) ∧ Below w.heap.size w w' := by
  have M1 := Lib.hid m1
  have HT := Lib.hid ht
  have M2 := Lib.hid m2
  have hmx : max 0 ((least : Int) - (S1.size : Int)) = 0 := by omega
  have hsz : S2.size + S1.size ≤ 9223372036854775807 := by omega
  clear m1 m2 ht hk
  go_enter Tryz.func36, Tryz.ntmps36
  go_wp2_with fail
  with_reducible refine (M1.out _ HT.out).mono ?_
  rintro e w1 ⟨rfl, hb1⟩
  go_wp2_with fail
  with_reducible refine (M2.out _).mono ?_
  rintro e w2 ⟨rfl, hb2⟩
  go_wp2
  go_ret
  exact ⟨rfl, Hand.stepB hb2 hb1 (Nat.le_refl _)⟩
theorem digits_any (n : Int) (least : Nat) (hl : least ≤ 10) (h0 : -9223372036854775808 ≤ n) (h1 : n ≤ 9223372036854775807) (w : World) (ht : TabN w) :
    Calls Tryz.prog 36 #[.int .i64 n, .int .i64 (least : Int)] w fun e w' => e = .returned (.string (bs (digL n least))) ∧ Below w.heap.size w w' := by
  have k1 := itoa_len n h0 h1
  have e : bs (digL n least) = bs (List.replicate (least - (bs (Lib.itoa n)).size) 48) ++ bs (Lib.itoa n) := by rw [bs_cat, bs_size]; rfl
  rw [e]
  have k2 : (bs (List.replicate (least - (bs (Lib.itoa n)).size) (48 : UInt8))).size ≤ 21 := by rw [bs_size]; simp; omega
  by_cases hk : (bs (Lib.itoa n)).size ≤ least
  · exact digits_one n least (least - (bs (Lib.itoa n)).size) _ _ k1 k2 hl (by omega) w ht (format_any n h0 h1) (repeat_any _ (by omega))
  · exact digits_none n least _ _ k1 k2 hl (by omega) w ht (format_any n h0 h1) (fun w => by have h := repeat_any 0 (by omega) w; rw [show least - (bs (Lib.itoa n)).size = 0 by omega]; exact h)
end Go.Proofs.YtghiibdhibcbaaaGreatDoor.PA
namespace Go.Proofs.YtghiibdhibcbaaaGreatDoor.PA
open Go Go.RowKit Go.Proofs.YtghiibdhibcbaaaGreatDoorW.PrintWords Go.Proofs.YtghiibdhibcbaaaGreatDoorW.PrintLast Go.Proofs.YtghiibdhibcbaaaGreatDoorW.PrintMore Go.Proofs.YtghiibdhibcbaaaGreatDoor.CS
set_option linter.unusedSimpArgs false
set_option linter.unusedVariables false
set_option maxHeartbeats 800000 in
set_option maxRecDepth 100000 in
theorem ctime_bad (n d c fr : Int) (dr : Bool) (hc : (c == 0) = false) (w : World)
    (m1 : ∀ w, Calls Tryz.prog 45 #[rate n d dr] w fun e w' => e = .returned (.int .i64 c) ∧ Below w.heap.size w w') :
    Calls Tryz.prog 18 #[rate n d dr, .int .i64 fr] w fun e w' => e = .returned (.tuple #[.agg #[.int .i64 0, .int .i64 0], .int .i64 c]) ∧ Below w.heap.size w w' := by
  have M1 := Lib.hid m1
  clear m1
  go_enter Tryz.func18, Tryz.ntmps18
  go_wp2_with fail
  with_reducible refine (M1.out _).mono ?_
  rintro e w1 ⟨rfl, hb1⟩
  have h_A : w1.heap[w.heap.size]? = some (.cells #[.int .i64 n, .int .i64 d, .bool dr] 23 (0, 0)) := by
    refine Hand.kb hb1 ?_; simp (disch := first | omega | (simp only [Hand.sa, Hand.ss, Hand.sd, Hand.sn]; first | done | omega)) only [Hand.q2, Hand.q1, Hand.q5, Hand.q6, Hand.q4, Hand.q3] <;> rfl
  have h_R : w1.heap[w.heap.size + 1]? = some (.cells #[.int .i64 0, .int .i64 0] 30 (0, 0)) := by
    refine Hand.kb hb1 ?_; simp (disch := first | omega | (simp only [Hand.sa, Hand.ss, Hand.sd, Hand.sn]; first | done | omega)) only [Hand.q2, Hand.q1, Hand.q5, Hand.q6, Hand.q4, Hand.q3] <;> rfl
  have hB' : Below w.heap.size w w1 := Hand.stepB hb1 (by repeat (with_reducible first | apply Below.refl _ _ | apply Below.drew | apply pw_below_drewN | (apply Below.setCell; rotate_left; (dsimp only; omega)) | (apply Below.alloc; rotate_left; (first | omega | (simp only [Hand.sa, Hand.ss, Hand.sd, Hand.sn]; omega))))) (Nat.le_refl _)
  clear hb1
  have g_A := h_A
  have g_R := h_R
  have hB := hB'
  clear hB' h_A h_R
  obtain ⟨z_A, z1_A, z2_A, y0_A, y1_A⟩ := Hand.hz g_A
  obtain ⟨c_A_0, f_A_0, c_A_1, f_A_1, c_A_2, f_A_2⟩ := Hand.hc3 g_A
  obtain ⟨z_R, z1_R, z2_R, y0_R, y1_R⟩ := Hand.hz g_R
  obtain ⟨c_R_0, f_R_0, c_R_1, f_R_1⟩ := Hand.hc2 g_R
  have zw : w.heap.size ≤ w1.heap.size := hB.size
  have HG := Lib.hid (And.intro g_A (And.intro g_R (hB)))
  clear g_A g_R hB
  go_wp2
  obtain ⟨g_A, g_R, hB⟩ := HG.out
  refine bodyPost_ret (results_ct rfl _ _ (w.heap.size + 1) 30 #[.int .i64 0, .int .i64 0] (0, 0) _ rfl ?_ Tryz.underlying30 rfl (by kernel_rfl)) rfl ⟨rfl, ?_⟩
  · simp (disch := omega) only [Hand.q1, g_R]; rfl
  · exact (hB.setCell (by dsimp only; omega) _).setCell (by dsimp only; omega) _
set_option maxHeartbeats 800000 in
set_option maxRecDepth 100000 in
theorem ctime_far (n d fr : Int) (dr : Bool) (w : World)
    (m1 : ∀ w, Calls Tryz.prog 45 #[rate n d dr] w fun e w' => e = .returned (.int .i64 0) ∧ Below w.heap.size w w')
    (m2 : ∀ w, Calls Tryz.prog 51 #[rate n d dr, .int .i64 fr] w fun e w' => e = .returned (.bool false) ∧ Below w.heap.size w w') :
    Calls Tryz.prog 18 #[rate n d dr, .int .i64 fr] w fun e w' => e = .returned (.tuple #[.agg #[.int .i64 0, .int .i64 0], .int .i64 31]) ∧ Below w.heap.size w w' := by
  have M1 := Lib.hid m1
  have M2 := Lib.hid m2
  clear m1 m2
  go_enter Tryz.func18, Tryz.ntmps18
  go_wp2_with fail
  with_reducible refine (M1.out _).mono ?_
  rintro e w1 ⟨rfl, hb1⟩
  have h_A : w1.heap[w.heap.size]? = some (.cells #[.int .i64 n, .int .i64 d, .bool dr] 23 (0, 0)) := by
    refine Hand.kb hb1 ?_; simp (disch := first | omega | (simp only [Hand.sa, Hand.ss, Hand.sd, Hand.sn]; first | done | omega)) only [Hand.q2, Hand.q1, Hand.q5, Hand.q6, Hand.q4, Hand.q3] <;> rfl
  have h_R : w1.heap[w.heap.size + 1]? = some (.cells #[.int .i64 0, .int .i64 0] 30 (0, 0)) := by
    refine Hand.kb hb1 ?_; simp (disch := first | omega | (simp only [Hand.sa, Hand.ss, Hand.sd, Hand.sn]; first | done | omega)) only [Hand.q2, Hand.q1, Hand.q5, Hand.q6, Hand.q4, Hand.q3] <;> rfl
  have hB' : Below w.heap.size w w1 := Hand.stepB hb1 (by repeat (with_reducible first | apply Below.refl _ _ | apply Below.drew | apply pw_below_drewN | (apply Below.setCell; rotate_left; (dsimp only; omega)) | (apply Below.alloc; rotate_left; (first | omega | (simp only [Hand.sa, Hand.ss, Hand.sd, Hand.sn]; omega))))) (Nat.le_refl _)
  clear hb1
  have g_A := h_A
  have g_R := h_R
  have hB := hB'
  clear hB' h_A h_R
  obtain ⟨z_A, z1_A, z2_A, y0_A, y1_A⟩ := Hand.hz g_A
  obtain ⟨c_A_0, f_A_0, c_A_1, f_A_1, c_A_2, f_A_2⟩ := Hand.hc3 g_A
  obtain ⟨z_R, z1_R, z2_R, y0_R, y1_R⟩ := Hand.hz g_R
  obtain ⟨c_R_0, f_R_0, c_R_1, f_R_1⟩ := Hand.hc2 g_R
  have zw : w.heap.size ≤ w1.heap.size := hB.size
  have HG := Lib.hid (And.intro g_A (And.intro g_R (hB)))
  clear g_A g_R hB
  go_wp2_with fail
  with_reducible refine (M2.out _).mono ?_
  rintro e w2 ⟨rfl, hb2⟩
  obtain ⟨g_A, g_R, hB⟩ := HG.out
  have h_A : w2.heap[w.heap.size]? = some (.cells #[.int .i64 n, .int .i64 d, .bool dr] 23 (0, 0)) := by
    refine Hand.kb hb2 ?_; first | with_reducible exact g_A | (simp (disch := first | omega | (simp only [Hand.sa, Hand.ss, Hand.sd, Hand.sn]; first | done | omega)) only [Hand.q2, Hand.q1, Hand.q5, Hand.q6, Hand.q4, Hand.q3, g_A] <;> rfl)
  have h_R : w2.heap[w.heap.size + 1]? = some (.cells #[.int .i64 0, .int .i64 0] 30 (0, 0)) := by
    refine Hand.kb hb2 ?_; first | with_reducible exact g_R | (simp (disch := first | omega | (simp only [Hand.sa, Hand.ss, Hand.sd, Hand.sn]; first | done | omega)) only [Hand.q2, Hand.q1, Hand.q5, Hand.q6, Hand.q4, Hand.q3, g_R] <;> rfl)
  have hB' : Below w.heap.size w w2 := Hand.stepB hb2 (by repeat (with_reducible first | apply hB | apply Below.drew | apply pw_below_drewN | (apply Below.setCell; rotate_left; (dsimp only; omega)) | (apply Below.alloc; rotate_left; (first | omega | (simp only [Hand.sa, Hand.ss, Hand.sd, Hand.sn]; omega))))) (Nat.le_refl _)
  clear HG hB g_A g_R zw z_A z1_A z2_A y0_A y1_A c_A_0 f_A_0 c_A_1 f_A_1 c_A_2 f_A_2 z_R z1_R z2_R y0_R y1_R c_R_0 f_R_0 c_R_1 f_R_1
  clear hb2
  have g_A := h_A
  have g_R := h_R
  have hB := hB'
  clear hB' h_A h_R
  obtain ⟨z_A, z1_A, z2_A, y0_A, y1_A⟩ := Hand.hz g_A
  obtain ⟨c_A_0, f_A_0, c_A_1, f_A_1, c_A_2, f_A_2⟩ := Hand.hc3 g_A
  obtain ⟨z_R, z1_R, z2_R, y0_R, y1_R⟩ := Hand.hz g_R
  obtain ⟨c_R_0, f_R_0, c_R_1, f_R_1⟩ := Hand.hc2 g_R
  have zw : w.heap.size ≤ w2.heap.size := hB.size
  have HG := Lib.hid (And.intro g_A (And.intro g_R (hB)))
  clear g_A g_R hB
  go_wp2
  obtain ⟨g_A, g_R, hB⟩ := HG.out
  refine bodyPost_ret (results_ct rfl _ _ (w.heap.size + 1) 30 #[.int .i64 0, .int .i64 0] (0, 0) _ rfl ?_ Tryz.underlying30 rfl (by kernel_rfl)) rfl ⟨rfl, ?_⟩
  · simp (disch := omega) only [Hand.q1, g_R]; rfl
  · exact (hB.setCell (by dsimp only; omega) _).setCell (by dsimp only; omega) _
set_option maxHeartbeats 800000 in
set_option maxRecDepth 100000 in
theorem ctime_ok (n d fr p x y z : Int) (dr : Bool) (f0 : 0 ≤ fr) (f1 : fr ≤ 86400000) (d0 : 1 ≤ d) (d1 : d ≤ 1001) (hp : fr * d = p) (w : World)
    (m1 : ∀ w, Calls Tryz.prog 45 #[rate n d dr] w fun e w' => e = .returned (.int .i64 0) ∧ Below w.heap.size w w')
    (m2 : ∀ w, Calls Tryz.prog 51 #[rate n d dr, .int .i64 fr] w fun e w' => e = .returned (.bool true) ∧ Below w.heap.size w w')
    (m3 : ∀ w, Calls Tryz.prog 43 #[.int .i64 p, .int .i64 n] w fun e w' => e = .returned (.tuple #[.agg #[.int .i64 x, .int .i64 y], .int .i64 z]) ∧ Below w.heap.size w w') :
    Calls Tryz.prog 18 #[rate n d dr, .int .i64 fr] w fun e w' => e = .returned (.tuple #[.agg #[.int .i64 x, .int .i64 y], .int .i64 z]) ∧ Below w.heap.size w w' := by
  have p1 : p ≤ 86400000 * 1001 := by rw [← hp]; exact Int.mul_le_mul f1 d1 (by omega) (by omega)
  have p0 : 0 ≤ p := by rw [← hp]; exact Int.mul_nonneg f0 (by omega)
  have M1 := Lib.hid m1
  have M2 := Lib.hid m2
  have M3 := Lib.hid m3
  clear m1 m2 m3
  go_enter Tryz.func18, Tryz.ntmps18
  go_wp2_with fail
  with_reducible refine (M1.out _).mono ?_
  rintro e w1 ⟨rfl, hb1⟩
  have h_A : w1.heap[w.heap.size]? = some (.cells #[.int .i64 n, .int .i64 d, .bool dr] 23 (0, 0)) := by
    refine Hand.kb hb1 ?_; simp (disch := first | omega | (simp only [Hand.sa, Hand.ss, Hand.sd, Hand.sn]; first | done | omega)) only [Hand.q2, Hand.q1, Hand.q5, Hand.q6, Hand.q4, Hand.q3] <;> rfl
  have h_R : w1.heap[w.heap.size + 1]? = some (.cells #[.int .i64 0, .int .i64 0] 30 (0, 0)) := by
    refine Hand.kb hb1 ?_; simp (disch := first | omega | (simp only [Hand.sa, Hand.ss, Hand.sd, Hand.sn]; first | done | omega)) only [Hand.q2, Hand.q1, Hand.q5, Hand.q6, Hand.q4, Hand.q3] <;> rfl
  have hB' : Below w.heap.size w w1 := Hand.stepB hb1 (by repeat (with_reducible first | apply Below.refl _ _ | apply Below.drew | apply pw_below_drewN | (apply Below.setCell; rotate_left; (dsimp only; omega)) | (apply Below.alloc; rotate_left; (first | omega | (simp only [Hand.sa, Hand.ss, Hand.sd, Hand.sn]; omega))))) (Nat.le_refl _)
  clear hb1
  have g_A := h_A
  have g_R := h_R
  have hB := hB'
  clear hB' h_A h_R
  obtain ⟨z_A, z1_A, z2_A, y0_A, y1_A⟩ := Hand.hz g_A
  obtain ⟨c_A_0, f_A_0, c_A_1, f_A_1, c_A_2, f_A_2⟩ := Hand.hc3 g_A
  obtain ⟨z_R, z1_R, z2_R, y0_R, y1_R⟩ := Hand.hz g_R
  obtain ⟨c_R_0, f_R_0, c_R_1, f_R_1⟩ := Hand.hc2 g_R
  have zw : w.heap.size ≤ w1.heap.size := hB.size
  have HG := Lib.hid (And.intro g_A (And.intro g_R (hB)))
  clear g_A g_R hB
  go_wp2_with fail
  with_reducible refine (M2.out _).mono ?_
  rintro e w2 ⟨rfl, hb2⟩
  obtain ⟨g_A, g_R, hB⟩ := HG.out
  have h_A : w2.heap[w.heap.size]? = some (.cells #[.int .i64 n, .int .i64 d, .bool dr] 23 (0, 0)) := by
    refine Hand.kb hb2 ?_; first | with_reducible exact g_A | (simp (disch := first | omega | (simp only [Hand.sa, Hand.ss, Hand.sd, Hand.sn]; first | done | omega)) only [Hand.q2, Hand.q1, Hand.q5, Hand.q6, Hand.q4, Hand.q3, g_A] <;> rfl)
  have h_R : w2.heap[w.heap.size + 1]? = some (.cells #[.int .i64 0, .int .i64 0] 30 (0, 0)) := by
    refine Hand.kb hb2 ?_; first | with_reducible exact g_R | (simp (disch := first | omega | (simp only [Hand.sa, Hand.ss, Hand.sd, Hand.sn]; first | done | omega)) only [Hand.q2, Hand.q1, Hand.q5, Hand.q6, Hand.q4, Hand.q3, g_R] <;> rfl)
  have hB' : Below w.heap.size w w2 := Hand.stepB hb2 (by repeat (with_reducible first | apply hB | apply Below.drew | apply pw_below_drewN | (apply Below.setCell; rotate_left; (dsimp only; omega)) | (apply Below.alloc; rotate_left; (first | omega | (simp only [Hand.sa, Hand.ss, Hand.sd, Hand.sn]; omega))))) (Nat.le_refl _)
  clear HG hB g_A g_R zw z_A z1_A z2_A y0_A y1_A c_A_0 f_A_0 c_A_1 f_A_1 c_A_2 f_A_2 z_R z1_R z2_R y0_R y1_R c_R_0 f_R_0 c_R_1 f_R_1
  clear hb2
  have g_A := h_A
  have g_R := h_R
  have hB := hB'
  clear hB' h_A h_R
  obtain ⟨z_A, z1_A, z2_A, y0_A, y1_A⟩ := Hand.hz g_A
  obtain ⟨c_A_0, f_A_0, c_A_1, f_A_1, c_A_2, f_A_2⟩ := Hand.hc3 g_A
  obtain ⟨z_R, z1_R, z2_R, y0_R, y1_R⟩ := Hand.hz g_R
  obtain ⟨c_R_0, f_R_0, c_R_1, f_R_1⟩ := Hand.hc2 g_R
  have zw : w.heap.size ≤ w2.heap.size := hB.size
  have HG := Lib.hid (And.intro g_A (And.intro g_R (hB)))
  clear g_A g_R hB
  go_wp2_with fail
  with_reducible refine (M3.out _).mono ?_
  rintro e w3 ⟨rfl, hb3⟩
  obtain ⟨g_A, g_R, hB⟩ := HG.out
  have h_A : w3.heap[w.heap.size]? = some (.cells #[.int .i64 n, .int .i64 d, .bool dr] 23 (0, 0)) := by
    refine Hand.kb hb3 ?_; first | with_reducible exact g_A | (simp (disch := first | omega | (simp only [Hand.sa, Hand.ss, Hand.sd, Hand.sn]; first | done | omega)) only [Hand.q2, Hand.q1, Hand.q5, Hand.q6, Hand.q4, Hand.q3, g_A] <;> rfl)
  have h_R : w3.heap[w.heap.size + 1]? = some (.cells #[.int .i64 0, .int .i64 0] 30 (0, 0)) := by
    refine Hand.kb hb3 ?_; first | with_reducible exact g_R | (simp (disch := first | omega | (simp only [Hand.sa, Hand.ss, Hand.sd, Hand.sn]; first | done | omega)) only [Hand.q2, Hand.q1, Hand.q5, Hand.q6, Hand.q4, Hand.q3, g_R] <;> rfl)
  have hB' : Below w.heap.size w w3 := Hand.stepB hb3 (by repeat (with_reducible first | apply hB | apply Below.drew | apply pw_below_drewN | (apply Below.setCell; rotate_left; (dsimp only; omega)) | (apply Below.alloc; rotate_left; (first | omega | (simp only [Hand.sa, Hand.ss, Hand.sd, Hand.sn]; omega))))) (Nat.le_refl _)
  clear HG hB g_A g_R zw z_A z1_A z2_A y0_A y1_A c_A_0 f_A_0 c_A_1 f_A_1 c_A_2 f_A_2 z_R z1_R z2_R y0_R y1_R c_R_0 f_R_0 c_R_1 f_R_1
  clear hb3
  have g_A := h_A
  have g_R := h_R
  have hB := hB'
  clear hB' h_A h_R
  obtain ⟨z_A, z1_A, z2_A, y0_A, y1_A⟩ := Hand.hz g_A
  obtain ⟨c_A_0, f_A_0, c_A_1, f_A_1, c_A_2, f_A_2⟩ := Hand.hc3 g_A
  obtain ⟨z_R, z1_R, z2_R, y0_R, y1_R⟩ := Hand.hz g_R
  obtain ⟨c_R_0, f_R_0, c_R_1, f_R_1⟩ := Hand.hc2 g_R
  have zw : w.heap.size ≤ w3.heap.size := hB.size
  have HG := Lib.hid (And.intro g_A (And.intro g_R (hB)))
  clear g_A g_R hB
  go_wp2
  obtain ⟨g_A, g_R, hB⟩ := HG.out
  refine bodyPost_ret (results_ct rfl _ _ (w.heap.size + 1) 30 #[.int .i64 x, .int .i64 y] (0, 0) _ rfl ?_ Tryz.underlying30 rfl (by kernel_rfl)) rfl ⟨rfl, ?_⟩
  · simp (disch := omega) only [Hand.q1, g_R]; rfl
  · exact (hB.setCell (by dsimp only; omega) _).setCell (by dsimp only; omega) _
end Go.Proofs.YtghiibdhibcbaaaGreatDoor.PA
namespace Go.Proofs.YtghiibdhibcbaaaGreatDoor.PA
open Go Go.RowKit Go.Proofs.YtghiibdhibcbaaaGreatDoorW.PrintWords Go.Proofs.YtghiibdhibcbaaaGreatDoorW.PrintLast Go.Proofs.YtghiibdhibcbaaaGreatDoorW.PrintMore Go.Proofs.YtghiibdhibcbaaaGreatDoor.CS
set_option linter.unusedSimpArgs false
set_option linter.unusedVariables false
set_option maxHeartbeats 800000 in
set_option maxRecDepth 100000 in
theorem numbered_not (n d fr : Int) (w : World) :
    Calls Tryz.prog 52 #[rate n d false, .int .i64 fr] w fun e w' => e = .returned (.int .i64 fr) ∧ Below w.heap.size w w' := by
  go_enter Tryz.func52, Tryz.ntmps52
  go_wp2
  go_ret
  exact ⟨rfl, bw (Below.refl _ _)⟩
set_option maxHeartbeats 800000 in
set_option maxRecDepth 100000 in
theorem numbered_30_near (fr : Int) (f0 : 0 ≤ fr) (f1 : fr ≤ 1000000000) (hm : fr % 17982 < 1800) (w : World)
    (m1 : ∀ w, Calls Tryz.prog 56 #[.agg #[.int .i64 30000, .int .i64 1001]] w fun e w' => e = .returned (.int .i64 2) ∧ Below w.heap.size w w')
    (m2 : ∀ w, Calls Tryz.prog 53 #[rate 30000 1001 true] w fun e w' => e = .returned (.int .i64 30) ∧ Below w.heap.size w w') :
    Calls Tryz.prog 52 #[rate 30000 1001 true, .int .i64 fr] w fun e w' => e = .returned (.int .i64 (fr + fr / 17982 * 9 * 2)) ∧ Below w.heap.size w w' := by
  have M1 := Lib.hid m1
  have M2 := Lib.hid m2
  clear m1 m2
  go_enter Tryz.func52, Tryz.ntmps52
  go_wp2_with fail
  with_reducible refine (M1.out _).mono ?_
  rintro e w1 ⟨rfl, hb1⟩
  have h_A : w1.heap[w.heap.size]? = some (.cells #[.int .i64 30000, .int .i64 1001, .bool true] 23 (0, 0)) := by
    refine Hand.kb hb1 ?_; simp (disch := first | omega | (simp only [Hand.sa, Hand.ss, Hand.sd, Hand.sn]; first | done | omega)) only [Hand.q2, Hand.q1, Hand.q5, Hand.q6, Hand.q4, Hand.q3] <;> rfl
  have hB' : Below w.heap.size w w1 := Hand.stepB hb1 (by repeat (with_reducible first | apply Below.refl _ _ | apply Below.drew | apply pw_below_drewN | (apply Below.setCell; rotate_left; (dsimp only; omega)) | (apply Below.alloc; rotate_left; (first | omega | (simp only [Hand.sa, Hand.ss, Hand.sd, Hand.sn]; omega))))) (Nat.le_refl _)
  clear hb1
  have g_A := h_A
  have hB := hB'
  clear hB' h_A
  obtain ⟨z_A, z1_A, z2_A, y0_A, y1_A⟩ := Hand.hz g_A
  obtain ⟨c_A_0, f_A_0, c_A_1, f_A_1, c_A_2, f_A_2⟩ := Hand.hc3 g_A
  have zw : w.heap.size ≤ w1.heap.size := hB.size
  have HG := Lib.hid (And.intro g_A (hB))
  clear g_A hB
  go_wp2_with fail
  with_reducible refine (M2.out _).mono ?_
  rintro e w2 ⟨rfl, hb2⟩
  obtain ⟨g_A, hB⟩ := HG.out
  have h_A : w2.heap[w.heap.size]? = some (.cells #[.int .i64 30000, .int .i64 1001, .bool true] 23 (0, 0)) := by
    refine Hand.kb hb2 ?_; first | with_reducible exact g_A | (simp (disch := first | omega | (simp only [Hand.sa, Hand.ss, Hand.sd, Hand.sn]; first | done | omega)) only [Hand.q2, Hand.q1, Hand.q5, Hand.q6, Hand.q4, Hand.q3, g_A] <;> rfl)
  have hB' : Below w.heap.size w w2 := Hand.stepB hb2 (by repeat (with_reducible first | apply hB | apply Below.drew | apply pw_below_drewN | (apply Below.setCell; rotate_left; (dsimp only; omega)) | (apply Below.alloc; rotate_left; (first | omega | (simp only [Hand.sa, Hand.ss, Hand.sd, Hand.sn]; omega))))) (Nat.le_refl _)
  clear HG hB g_A zw z_A z1_A z2_A y0_A y1_A c_A_0 f_A_0 c_A_1 f_A_1 c_A_2 f_A_2
  clear hb2
  have g_A := h_A
  have hB := hB'
  clear hB' h_A
  obtain ⟨z_A, z1_A, z2_A, y0_A, y1_A⟩ := Hand.hz g_A
  obtain ⟨c_A_0, f_A_0, c_A_1, f_A_1, c_A_2, f_A_2⟩ := Hand.hc3 g_A
  have zw : w.heap.size ≤ w2.heap.size := hB.size
  have HG := Lib.hid (And.intro g_A (hB))
  clear g_A hB
  go_wp2
  go_ret
  obtain ⟨g_A, hB⟩ := HG.out
  exact ⟨rfl, hB⟩
set_option maxHeartbeats 800000 in
set_option maxRecDepth 100000 in
theorem numbered_30_far (fr : Int) (f0 : 0 ≤ fr) (f1 : fr ≤ 1000000000) (hm : 1800 ≤ fr % 17982) (w : World)
    (m1 : ∀ w, Calls Tryz.prog 56 #[.agg #[.int .i64 30000, .int .i64 1001]] w fun e w' => e = .returned (.int .i64 2) ∧ Below w.heap.size w w')
    (m2 : ∀ w, Calls Tryz.prog 53 #[rate 30000 1001 true] w fun e w' => e = .returned (.int .i64 30) ∧ Below w.heap.size w w') :
    Calls Tryz.prog 52 #[rate 30000 1001 true, .int .i64 fr] w fun e w' => e = .returned (.int .i64 (fr + fr / 17982 * 9 * 2 + (2 + (fr % 17982 - 1800) / 1798 * 2))) ∧ Below w.heap.size w w' := by
  have M1 := Lib.hid m1
  have M2 := Lib.hid m2
  clear m1 m2
  go_enter Tryz.func52, Tryz.ntmps52
  go_wp2_with fail
  with_reducible refine (M1.out _).mono ?_
  rintro e w1 ⟨rfl, hb1⟩
  have h_A : w1.heap[w.heap.size]? = some (.cells #[.int .i64 30000, .int .i64 1001, .bool true] 23 (0, 0)) := by
    refine Hand.kb hb1 ?_; simp (disch := first | omega | (simp only [Hand.sa, Hand.ss, Hand.sd, Hand.sn]; first | done | omega)) only [Hand.q2, Hand.q1, Hand.q5, Hand.q6, Hand.q4, Hand.q3] <;> rfl
  have hB' : Below w.heap.size w w1 := Hand.stepB hb1 (by repeat (with_reducible first | apply Below.refl _ _ | apply Below.drew | apply pw_below_drewN | (apply Below.setCell; rotate_left; (dsimp only; omega)) | (apply Below.alloc; rotate_left; (first | omega | (simp only [Hand.sa, Hand.ss, Hand.sd, Hand.sn]; omega))))) (Nat.le_refl _)
  clear hb1
  have g_A := h_A
  have hB := hB'
  clear hB' h_A
  obtain ⟨z_A, z1_A, z2_A, y0_A, y1_A⟩ := Hand.hz g_A
  obtain ⟨c_A_0, f_A_0, c_A_1, f_A_1, c_A_2, f_A_2⟩ := Hand.hc3 g_A
  have zw : w.heap.size ≤ w1.heap.size := hB.size
  have HG := Lib.hid (And.intro g_A (hB))
  clear g_A hB
  go_wp2_with fail
  with_reducible refine (M2.out _).mono ?_
  rintro e w2 ⟨rfl, hb2⟩
  obtain ⟨g_A, hB⟩ := HG.out
  have h_A : w2.heap[w.heap.size]? = some (.cells #[.int .i64 30000, .int .i64 1001, .bool true] 23 (0, 0)) := by
    refine Hand.kb hb2 ?_; first | with_reducible exact g_A | (simp (disch := first | omega | (simp only [Hand.sa, Hand.ss, Hand.sd, Hand.sn]; first | done | omega)) only [Hand.q2, Hand.q1, Hand.q5, Hand.q6, Hand.q4, Hand.q3, g_A] <;> rfl)
  have hB' : Below w.heap.size w w2 := Hand.stepB hb2 (by repeat (with_reducible first | apply hB | apply Below.drew | apply pw_below_drewN | (apply Below.setCell; rotate_left; (dsimp only; omega)) | (apply Below.alloc; rotate_left; (first | omega | (simp only [Hand.sa, Hand.ss, Hand.sd, Hand.sn]; omega))))) (Nat.le_refl _)
  clear HG hB g_A zw z_A z1_A z2_A y0_A y1_A c_A_0 f_A_0 c_A_1 f_A_1 c_A_2 f_A_2
  clear hb2
  have g_A := h_A
  have hB := hB'
  clear hB' h_A
  obtain ⟨z_A, z1_A, z2_A, y0_A, y1_A⟩ := Hand.hz g_A
  obtain ⟨c_A_0, f_A_0, c_A_1, f_A_1, c_A_2, f_A_2⟩ := Hand.hc3 g_A
  have zw : w.heap.size ≤ w2.heap.size := hB.size
  have HG := Lib.hid (And.intro g_A (hB))
  clear g_A hB
  go_wp2
  go_ret
  obtain ⟨g_A, hB⟩ := HG.out
  exact ⟨rfl, hB⟩
set_option maxHeartbeats 800000 in
set_option maxRecDepth 100000 in
theorem numbered_60_near (fr : Int) (f0 : 0 ≤ fr) (f1 : fr ≤ 1000000000) (hm : fr % 35964 < 3600) (w : World)
    (m1 : ∀ w, Calls Tryz.prog 56 #[.agg #[.int .i64 60000, .int .i64 1001]] w fun e w' => e = .returned (.int .i64 4) ∧ Below w.heap.size w w')
    (m2 : ∀ w, Calls Tryz.prog 53 #[rate 60000 1001 true] w fun e w' => e = .returned (.int .i64 60) ∧ Below w.heap.size w w') :
    Calls Tryz.prog 52 #[rate 60000 1001 true, .int .i64 fr] w fun e w' => e = .returned (.int .i64 (fr + fr / 35964 * 9 * 4)) ∧ Below w.heap.size w w' := by
  have M1 := Lib.hid m1
  have M2 := Lib.hid m2
  clear m1 m2
  go_enter Tryz.func52, Tryz.ntmps52
  go_wp2_with fail
  with_reducible refine (M1.out _).mono ?_
  rintro e w1 ⟨rfl, hb1⟩
  have h_A : w1.heap[w.heap.size]? = some (.cells #[.int .i64 60000, .int .i64 1001, .bool true] 23 (0, 0)) := by
    refine Hand.kb hb1 ?_; simp (disch := first | omega | (simp only [Hand.sa, Hand.ss, Hand.sd, Hand.sn]; first | done | omega)) only [Hand.q2, Hand.q1, Hand.q5, Hand.q6, Hand.q4, Hand.q3] <;> rfl
  have hB' : Below w.heap.size w w1 := Hand.stepB hb1 (by repeat (with_reducible first | apply Below.refl _ _ | apply Below.drew | apply pw_below_drewN | (apply Below.setCell; rotate_left; (dsimp only; omega)) | (apply Below.alloc; rotate_left; (first | omega | (simp only [Hand.sa, Hand.ss, Hand.sd, Hand.sn]; omega))))) (Nat.le_refl _)
  clear hb1
  have g_A := h_A
  have hB := hB'
  clear hB' h_A
  obtain ⟨z_A, z1_A, z2_A, y0_A, y1_A⟩ := Hand.hz g_A
  obtain ⟨c_A_0, f_A_0, c_A_1, f_A_1, c_A_2, f_A_2⟩ := Hand.hc3 g_A
  have zw : w.heap.size ≤ w1.heap.size := hB.size
  have HG := Lib.hid (And.intro g_A (hB))
  clear g_A hB
  go_wp2_with fail
  with_reducible refine (M2.out _).mono ?_
  rintro e w2 ⟨rfl, hb2⟩
  obtain ⟨g_A, hB⟩ := HG.out
  have h_A : w2.heap[w.heap.size]? = some (.cells #[.int .i64 60000, .int .i64 1001, .bool true] 23 (0, 0)) := by
    refine Hand.kb hb2 ?_; first | with_reducible exact g_A | (simp (disch := first | omega | (simp only [Hand.sa, Hand.ss, Hand.sd, Hand.sn]; first | done | omega)) only [Hand.q2, Hand.q1, Hand.q5, Hand.q6, Hand.q4, Hand.q3, g_A] <;> rfl)
  have hB' : Below w.heap.size w w2 := Hand.stepB hb2 (by repeat (with_reducible first | apply hB | apply Below.drew | apply pw_below_drewN | (apply Below.setCell; rotate_left; (dsimp only; omega)) | (apply Below.alloc; rotate_left; (first | omega | (simp only [Hand.sa, Hand.ss, Hand.sd, Hand.sn]; omega))))) (Nat.le_refl _)
  clear HG hB g_A zw z_A z1_A z2_A y0_A y1_A c_A_0 f_A_0 c_A_1 f_A_1 c_A_2 f_A_2
  clear hb2
  have g_A := h_A
  have hB := hB'
  clear hB' h_A
  obtain ⟨z_A, z1_A, z2_A, y0_A, y1_A⟩ := Hand.hz g_A
  obtain ⟨c_A_0, f_A_0, c_A_1, f_A_1, c_A_2, f_A_2⟩ := Hand.hc3 g_A
  have zw : w.heap.size ≤ w2.heap.size := hB.size
  have HG := Lib.hid (And.intro g_A (hB))
  clear g_A hB
  go_wp2
  go_ret
  obtain ⟨g_A, hB⟩ := HG.out
  exact ⟨rfl, hB⟩
set_option maxHeartbeats 800000 in
set_option maxRecDepth 100000 in
theorem numbered_60_far (fr : Int) (f0 : 0 ≤ fr) (f1 : fr ≤ 1000000000) (hm : 3600 ≤ fr % 35964) (w : World)
    (m1 : ∀ w, Calls Tryz.prog 56 #[.agg #[.int .i64 60000, .int .i64 1001]] w fun e w' => e = .returned (.int .i64 4) ∧ Below w.heap.size w w')
    (m2 : ∀ w, Calls Tryz.prog 53 #[rate 60000 1001 true] w fun e w' => e = .returned (.int .i64 60) ∧ Below w.heap.size w w') :
    Calls Tryz.prog 52 #[rate 60000 1001 true, .int .i64 fr] w fun e w' => e = .returned (.int .i64 (fr + fr / 35964 * 9 * 4 + (4 + (fr % 35964 - 3600) / 3596 * 4))) ∧ Below w.heap.size w w' := by
  have M1 := Lib.hid m1
  have M2 := Lib.hid m2
  clear m1 m2
  go_enter Tryz.func52, Tryz.ntmps52
  go_wp2_with fail
  with_reducible refine (M1.out _).mono ?_
  rintro e w1 ⟨rfl, hb1⟩
  have h_A : w1.heap[w.heap.size]? = some (.cells #[.int .i64 60000, .int .i64 1001, .bool true] 23 (0, 0)) := by
    refine Hand.kb hb1 ?_; simp (disch := first | omega | (simp only [Hand.sa, Hand.ss, Hand.sd, Hand.sn]; first | done | omega)) only [Hand.q2, Hand.q1, Hand.q5, Hand.q6, Hand.q4, Hand.q3] <;> rfl
  have hB' : Below w.heap.size w w1 := Hand.stepB hb1 (by repeat (with_reducible first | apply Below.refl _ _ | apply Below.drew | apply pw_below_drewN | (apply Below.setCell; rotate_left; (dsimp only; omega)) | (apply Below.alloc; rotate_left; (first | omega | (simp only [Hand.sa, Hand.ss, Hand.sd, Hand.sn]; omega))))) (Nat.le_refl _)
  clear hb1
  have g_A := h_A
  have hB := hB'
  clear hB' h_A
  obtain ⟨z_A, z1_A, z2_A, y0_A, y1_A⟩ := Hand.hz g_A
  obtain ⟨c_A_0, f_A_0, c_A_1, f_A_1, c_A_2, f_A_2⟩ := Hand.hc3 g_A
  have zw : w.heap.size ≤ w1.heap.size := hB.size
  have HG := Lib.hid (And.intro g_A (hB))
  clear g_A hB
  go_wp2_with fail
  with_reducible refine (M2.out _).mono ?_
  rintro e w2 ⟨rfl, hb2⟩
  obtain ⟨g_A, hB⟩ := HG.out
  have h_A : w2.heap[w.heap.size]? = some (.cells #[.int .i64 60000, .int .i64 1001, .bool true] 23 (0, 0)) := by
    refine Hand.kb hb2 ?_; first | with_reducible exact g_A | (simp (disch := first | omega | (simp only [Hand.sa, Hand.ss, Hand.sd, Hand.sn]; first | done | omega)) only [Hand.q2, Hand.q1, Hand.q5, Hand.q6, Hand.q4, Hand.q3, g_A] <;> rfl)
  have hB' : Below w.heap.size w w2 := Hand.stepB hb2 (by repeat (with_reducible first | apply hB | apply Below.drew | apply pw_below_drewN | (apply Below.setCell; rotate_left; (dsimp only; omega)) | (apply Below.alloc; rotate_left; (first | omega | (simp only [Hand.sa, Hand.ss, Hand.sd, Hand.sn]; omega))))) (Nat.le_refl _)
  clear HG hB g_A zw z_A z1_A z2_A y0_A y1_A c_A_0 f_A_0 c_A_1 f_A_1 c_A_2 f_A_2
  clear hb2
  have g_A := h_A
  have hB := hB'
  clear hB' h_A
  obtain ⟨z_A, z1_A, z2_A, y0_A, y1_A⟩ := Hand.hz g_A
  obtain ⟨c_A_0, f_A_0, c_A_1, f_A_1, c_A_2, f_A_2⟩ := Hand.hc3 g_A
  have zw : w.heap.size ≤ w2.heap.size := hB.size
  have HG := Lib.hid (And.intro g_A (hB))
  clear g_A hB
  go_wp2
  go_ret
  obtain ⟨g_A, hB⟩ := HG.out
  exact ⟨rfl, hB⟩
set_option maxHeartbeats 800000 in
set_option maxRecDepth 100000 in
theorem last_some (n d F : Int) (dr : Bool) (S : ByteArray) (f0 : 1 ≤ F) (f1 : F ≤ 240) (k : S.size ≤ 21) (w : World) (ht : TabN w)
    (m1 : ∀ w, Calls Tryz.prog 53 #[rate n d dr] w fun e w' => e = .returned (.int .i64 F) ∧ Below w.heap.size w w')
    (m2 : ∀ w, TabN w → Calls Tryz.prog 37 #[.int .i64 (F - 1), .int .i64 10] w fun e w' => e = .returned (.string S) ∧ Below w.heap.size w w') :
    Calls Tryz.prog 55 #[rate n d dr] w fun e w' => e = .returned (.int .i64 (max 2 (S.size : Int))) ∧ Below w.heap.size w w' := by
  have HT0 := Lib.hid ht
  have M1 := Lib.hid m1
  have M2 := Lib.hid m2
  clear m1 m2 ht
  go_enter Tryz.func55, Tryz.ntmps55
  go_wp2_with fail
  with_reducible refine (M1.out _).mono ?_
  rintro e w1 ⟨rfl, hb1⟩
  have h_A : w1.heap[w.heap.size]? = some (.cells #[.int .i64 n, .int .i64 d, .bool dr] 23 (0, 0)) := by
    refine Hand.kb hb1 ?_; simp (disch := first | omega | (simp only [Hand.sa, Hand.ss, Hand.sd, Hand.sn]; first | done | omega)) only [Hand.q2, Hand.q1, Hand.q5, Hand.q6, Hand.q4, Hand.q3] <;> rfl
  have hB' : Below w.heap.size w w1 := Hand.stepB hb1 (by repeat (with_reducible first | apply Below.refl _ _ | apply Below.drew | apply pw_below_drewN | (apply Below.setCell; rotate_left; (dsimp only; omega)) | (apply Below.alloc; rotate_left; (first | omega | (simp only [Hand.sa, Hand.ss, Hand.sd, Hand.sn]; omega))))) (Nat.le_refl _)
  clear hb1
  have g_A := h_A
  have hB := hB'
  clear hB' h_A
  obtain ⟨z_A, z1_A, z2_A, y0_A, y1_A⟩ := Hand.hz g_A
  obtain ⟨c_A_0, f_A_0, c_A_1, f_A_1, c_A_2, f_A_2⟩ := Hand.hc3 g_A
  have zw : w.heap.size ≤ w1.heap.size := hB.size
  have HG := Lib.hid (And.intro g_A (hB))
  clear g_A hB
  go_wp2_with fail
  with_reducible refine (M2.out _ (tab_below HT0.out (bw HG.out.2))).mono ?_
  rintro e w2 ⟨rfl, hb2⟩
  obtain ⟨g_A, hB⟩ := HG.out
  have h_A : w2.heap[w.heap.size]? = some (.cells #[.int .i64 n, .int .i64 d, .bool dr] 23 (0, 0)) := by
    refine Hand.kb hb2 ?_; first | with_reducible exact g_A | (simp (disch := first | omega | (simp only [Hand.sa, Hand.ss, Hand.sd, Hand.sn]; first | done | omega)) only [Hand.q2, Hand.q1, Hand.q5, Hand.q6, Hand.q4, Hand.q3, g_A] <;> rfl)
  have hB' : Below w.heap.size w w2 := Hand.stepB hb2 (by repeat (with_reducible first | apply hB | apply Below.drew | apply pw_below_drewN | (apply Below.setCell; rotate_left; (dsimp only; omega)) | (apply Below.alloc; rotate_left; (first | omega | (simp only [Hand.sa, Hand.ss, Hand.sd, Hand.sn]; omega))))) (Nat.le_refl _)
  clear HG hB g_A zw z_A z1_A z2_A y0_A y1_A c_A_0 f_A_0 c_A_1 f_A_1 c_A_2 f_A_2
  clear hb2
  have g_A := h_A
  have hB := hB'
  clear hB' h_A
  obtain ⟨z_A, z1_A, z2_A, y0_A, y1_A⟩ := Hand.hz g_A
  obtain ⟨c_A_0, f_A_0, c_A_1, f_A_1, c_A_2, f_A_2⟩ := Hand.hc3 g_A
  have zw : w.heap.size ≤ w2.heap.size := hB.size
  have HG := Lib.hid (And.intro g_A (hB))
  clear g_A hB
  go_wp2
  go_ret
  obtain ⟨g_A, hB⟩ := HG.out
  exact ⟨rfl, hB⟩
set_option maxHeartbeats 800000 in
set_option maxRecDepth 100000 in
theorem label_bad (n d fr x y z : Int) (dr : Bool) (hz : (z == 0) = false) (w : World)
    (m1 : ∀ w, Calls Tryz.prog 18 #[rate n d dr, .int .i64 fr] w fun e w' => e = .returned (.tuple #[.agg #[.int .i64 x, .int .i64 y], .int .i64 z]) ∧ Below w.heap.size w w') :
    Calls Tryz.prog 19 #[rate n d dr, .int .i64 fr] w fun e w' => e = .returned (.tuple #[.string ⟨#[]⟩, .int .i64 z]) ∧ Below w.heap.size w w' := by
  have M1 := Lib.hid m1
  clear m1
  go_enter Tryz.func19, Tryz.ntmps19
  go_wp2_with fail
  with_reducible refine (M1.out _).mono ?_
  rintro e w1 ⟨rfl, hb1⟩
  have h_A : w1.heap[w.heap.size]? = some (.cells #[.int .i64 n, .int .i64 d, .bool dr] 23 (0, 0)) := by
    refine Hand.kb hb1 ?_; simp (disch := first | omega | (simp only [Hand.sa, Hand.ss, Hand.sd, Hand.sn]; first | done | omega)) only [Hand.q2, Hand.q1, Hand.q5, Hand.q6, Hand.q4, Hand.q3] <;> rfl
  have hB' : Below w.heap.size w w1 := Hand.stepB hb1 (by repeat (with_reducible first | apply Below.refl _ _ | apply Below.drew | apply pw_below_drewN | (apply Below.setCell; rotate_left; (dsimp only; omega)) | (apply Below.alloc; rotate_left; (first | omega | (simp only [Hand.sa, Hand.ss, Hand.sd, Hand.sn]; omega))))) (Nat.le_refl _)
  clear hb1
  have g_A := h_A
  have hB := hB'
  clear hB' h_A
  obtain ⟨z_A, z1_A, z2_A, y0_A, y1_A⟩ := Hand.hz g_A
  obtain ⟨c_A_0, f_A_0, c_A_1, f_A_1, c_A_2, f_A_2⟩ := Hand.hc3 g_A
  have zw : w.heap.size ≤ w1.heap.size := hB.size
  have HG := Lib.hid (And.intro g_A (hB))
  clear g_A hB
  go_wp2
  go_ret2
  obtain ⟨g_A, hB⟩ := HG.out
  exact ⟨rfl, bw hB⟩
set_option maxHeartbeats 800000 in
set_option maxRecDepth 100000 in
theorem label_ok (n d fr x y f k s h m se rs L : Int) (dr : Bool) (S1 S2 S3 C S4 : ByteArray) (k0 : 0 ≤ k) (k1 : k ≤ 1000000000) (f0 : 1 ≤ f) (f1 : f ≤ 240) (hf : (f == 0) = false) (hs : k / f = s) (s0 : 0 ≤ s) (s1 : s ≤ 1000000000) (hh : s / 3600 = h) (hm : s / 60 % 60 = m) (hse : s % 60 = se) (hrs : k % f = rs)
    (q1 : S1.size ≤ 21) (q2 : S2.size ≤ 21) (q3 : S3.size ≤ 21) (q4 : S4.size ≤ 21) (q5 : C.size ≤ 21) (w : World) (ht : TabN w)
    (m1 : ∀ w, Calls Tryz.prog 18 #[rate n d dr, .int .i64 fr] w fun e w' => e = .returned (.tuple #[.agg #[.int .i64 x, .int .i64 y], .int .i64 0]) ∧ Below w.heap.size w w')
    (m2 : ∀ w, Calls Tryz.prog 52 #[rate n d dr, .int .i64 fr] w fun e w' => e = .returned (.int .i64 k) ∧ Below w.heap.size w w')
    (m3 : ∀ w, Calls Tryz.prog 53 #[rate n d dr] w fun e w' => e = .returned (.int .i64 f) ∧ Below w.heap.size w w')
    (m4 : ∀ w, TabN w → Calls Tryz.prog 36 #[.int .i64 h, .int .i64 2] w fun e w' => e = .returned (.string S1) ∧ Below w.heap.size w w')
    (m5 : ∀ w, TabN w → Calls Tryz.prog 36 #[.int .i64 m, .int .i64 2] w fun e w' => e = .returned (.string S2) ∧ Below w.heap.size w w')
    (m6 : ∀ w, TabN w → Calls Tryz.prog 36 #[.int .i64 se, .int .i64 2] w fun e w' => e = .returned (.string S3) ∧ Below w.heap.size w w')
    (m7 : ∀ w, Calls Tryz.prog 54 #[rate n d dr] w fun e w' => e = .returned (.string C) ∧ Below w.heap.size w w')
    (m8 : ∀ w, TabN w → Calls Tryz.prog 55 #[rate n d dr] w fun e w' => e = .returned (.int .i64 L) ∧ Below w.heap.size w w')
    (m9 : ∀ w, TabN w → Calls Tryz.prog 36 #[.int .i64 rs, .int .i64 L] w fun e w' => e = .returned (.string S4) ∧ Below w.heap.size w w') :
    Calls Tryz.prog 19 #[rate n d dr, .int .i64 fr] w fun e w' => e = .returned (.tuple #[.string (S1 ++ (⟨#[58]⟩ : ByteArray) ++ S2 ++ (⟨#[58]⟩ : ByteArray) ++ S3 ++ C ++ S4), .int .i64 0]) ∧ Below w.heap.size w w' := by
  have HT0 := Lib.hid ht
  have M1 := Lib.hid m1
  have M2 := Lib.hid m2
  have M3 := Lib.hid m3
  have M4 := Lib.hid m4
  have M5 := Lib.hid m5
  have M6 := Lib.hid m6
  have M7 := Lib.hid m7
  have M8 := Lib.hid m8
  have M9 := Lib.hid m9
  clear m1 m2 m3 m4 m5 m6 m7 m8 m9 ht
  go_enter Tryz.func19, Tryz.ntmps19
  go_wp2_with fail
  with_reducible refine (M1.out _).mono ?_
  rintro e w1 ⟨rfl, hb1⟩
  have h_A : w1.heap[w.heap.size]? = some (.cells #[.int .i64 n, .int .i64 d, .bool dr] 23 (0, 0)) := by
    refine Hand.kb hb1 ?_; simp (disch := first | omega | (simp only [Hand.sa, Hand.ss, Hand.sd, Hand.sn]; first | done | omega)) only [Hand.q2, Hand.q1, Hand.q5, Hand.q6, Hand.q4, Hand.q3] <;> rfl
  have hB' : Below w.heap.size w w1 := Hand.stepB hb1 (by repeat (with_reducible first | apply Below.refl _ _ | apply Below.drew | apply pw_below_drewN | (apply Below.setCell; rotate_left; (dsimp only; omega)) | (apply Below.alloc; rotate_left; (first | omega | (simp only [Hand.sa, Hand.ss, Hand.sd, Hand.sn]; omega))))) (Nat.le_refl _)
  clear hb1
  have g_A := h_A
  have hB := hB'
  clear hB' h_A
  obtain ⟨z_A, z1_A, z2_A, y0_A, y1_A⟩ := Hand.hz g_A
  obtain ⟨c_A_0, f_A_0, c_A_1, f_A_1, c_A_2, f_A_2⟩ := Hand.hc3 g_A
  have zw : w.heap.size ≤ w1.heap.size := hB.size
  have HG := Lib.hid (And.intro g_A (hB))
  clear g_A hB
  go_wp2
  obtain ⟨g_A, hB⟩ := HG.out
  obtain ⟨W, hW⟩ : ∃ W_, W_ = w1.alloc (.cells #[.int .i64 x, .int .i64 y] 30) := ⟨_, rfl⟩
  rw [← hW]
  have h_A : W.heap[w.heap.size]? = some (.cells #[.int .i64 n, .int .i64 d, .bool dr] 23 (0, 0)) := by
    rw [hW]
    first | (simp (disch := first | with_reducible assumption | (with_reducible first | exact Nat.ne_of_lt (by assumption) | exact Nat.ne_of_gt (by assumption) | exact Ne.symm (by assumption)) | ((fail_if_success (refine Hand.trip (by with_reducible rfl) ?_)); first | omega | (simp only [Hand.sa, Hand.ss, Hand.sd, Hand.sn]; first | done | with_reducible assumption | omega))) only [Hand.q2, Hand.q1, Hand.q5, Hand.q6, Hand.q4, Hand.q3, g_A]; done) | (simp (disch := first | with_reducible assumption | (with_reducible first | exact Nat.ne_of_lt (by assumption) | exact Nat.ne_of_gt (by assumption) | exact Ne.symm (by assumption)) | ((fail_if_success (refine Hand.trip (by with_reducible rfl) ?_)); first | omega | (simp only [Hand.sa, Hand.ss, Hand.sd, Hand.sn]; first | done | with_reducible assumption | omega))) only [Hand.q2, Hand.q1, Hand.q5, Hand.q6, Hand.q4, Hand.q3, g_A]; rfl)
  have h_X : W.heap[w1.heap.size]? = some (.cells #[.int .i64 x, .int .i64 y] 30 (0, 0)) := by
    rw [hW]
    first | (simp (disch := first | with_reducible assumption | (with_reducible first | exact Nat.ne_of_lt (by assumption) | exact Nat.ne_of_gt (by assumption) | exact Ne.symm (by assumption)) | ((fail_if_success (refine Hand.trip (by with_reducible rfl) ?_)); first | omega | (simp only [Hand.sa, Hand.ss, Hand.sd, Hand.sn]; first | done | with_reducible assumption | omega))) only [Hand.q2, Hand.q1, Hand.q5, Hand.q6, Hand.q4, Hand.q3]; done) | (simp (disch := first | with_reducible assumption | (with_reducible first | exact Nat.ne_of_lt (by assumption) | exact Nat.ne_of_gt (by assumption) | exact Ne.symm (by assumption)) | ((fail_if_success (refine Hand.trip (by with_reducible rfl) ?_)); first | omega | (simp only [Hand.sa, Hand.ss, Hand.sd, Hand.sn]; first | done | with_reducible assumption | omega))) only [Hand.q2, Hand.q1, Hand.q5, Hand.q6, Hand.q4, Hand.q3]; rfl)
  have hB' : Below w.heap.size w W := by
    rw [hW]
    repeat (first | exact hB | (with_reducible first | apply Below.drew | apply pw_below_drewN | refine Below.setCell ?_ (by dsimp only; omega) _ | refine Below.alloc ?_ (by first | omega | (simp only [Hand.sa, Hand.ss, Hand.sd, Hand.sn]; omega)) _))
  clear HG hB g_A zw z_A z1_A z2_A y0_A y1_A c_A_0 f_A_0 c_A_1 f_A_1 c_A_2 f_A_2
  clear hW
  have g_A := h_A
  have g_X := h_X
  have hB := hB'
  clear hB' h_A h_X
  obtain ⟨z_A, z1_A, z2_A, y0_A, y1_A⟩ := Hand.hz g_A
  obtain ⟨c_A_0, f_A_0, c_A_1, f_A_1, c_A_2, f_A_2⟩ := Hand.hc3 g_A
  obtain ⟨z_X, z1_X, z2_X, y0_X, y1_X⟩ := Hand.hz g_X
  obtain ⟨c_X_0, f_X_0, c_X_1, f_X_1⟩ := Hand.hc2 g_X
  have zw : w.heap.size ≤ W.heap.size := hB.size
  have HG := Lib.hid (And.intro g_A (And.intro g_X (hB)))
  clear g_A g_X hB
  have HBW := Lib.hid (HG.out.2.2)
  have HK := Lib.hid (And.intro c_A_0 (And.intro c_A_1 (c_A_2)))
  have BD : Below W.heap.size W W.drew := Below.drew (Below.refl _ _)
  have BR : Below W.heap.size W W := Below.refl _ _
  go_region_held3 (fun w_ => Below w.heap.size w w_ ∧ w_.cell? ⟨w.heap.size, 0, none⟩ = some (.int .i64 n) ∧ w_.cell? ⟨w.heap.size, 1, none⟩ = some (.int .i64 d) ∧ w_.cell? ⟨w.heap.size, 2, none⟩ = some (.bool dr)) (first | with_reducible (refine ⟨?_, (Below.cell BR (p := ⟨w.heap.size, 0, none⟩) z_A).trans (HK.out.1), (Below.cell BR (p := ⟨w.heap.size, 1, none⟩) z_A).trans (HK.out.2.1), (Below.cell BR (p := ⟨w.heap.size, 2, none⟩) z_A).trans (HK.out.2.2)⟩; apply (HBW.out.trans (Below.mono BR zw))) | with_reducible (refine ⟨?_, (Below.cell BD (p := ⟨w.heap.size, 0, none⟩) z_A).trans (HK.out.1), (Below.cell BD (p := ⟨w.heap.size, 1, none⟩) z_A).trans (HK.out.2.1), (Below.cell BD (p := ⟨w.heap.size, 2, none⟩) z_A).trans (HK.out.2.2)⟩; apply (HBW.out.trans (Below.mono BD zw))) | with_reducible (refine ⟨?_, (Below.cell BB (p := ⟨w.heap.size, 0, none⟩) z_A).trans (HK.out.1), (Below.cell BB (p := ⟨w.heap.size, 1, none⟩) z_A).trans (HK.out.2.1), (Below.cell BB (p := ⟨w.heap.size, 2, none⟩) z_A).trans (HK.out.2.2)⟩; apply (HBW.out.trans (Below.mono BB zw))) | (refine ⟨?_, ?_, ?_, ?_⟩; (focus (repeat (with_reducible first | apply (HBW.out.trans (Below.mono BB zw)) | apply Below.drew | (apply Below.setCell; rotate_left; (dsimp only; omega)) | (apply Below.alloc; rotate_left; (first | omega | (simp only [Hand.sa, Hand.ss, Hand.sd, Hand.sn]; omega)))))); (repeat (with_reducible first | exact (Below.cell BB (p := ⟨w.heap.size, 0, none⟩) z_A).trans (HK.out.1) | refine Hand.cell_alloc ?_ | refine Hand.cell_drew ?_ | refine Hand.cell_far (by omega) ?_)); (repeat (with_reducible first | exact (Below.cell BB (p := ⟨w.heap.size, 1, none⟩) z_A).trans (HK.out.2.1) | refine Hand.cell_alloc ?_ | refine Hand.cell_drew ?_ | refine Hand.cell_far (by omega) ?_)); (repeat (with_reducible first | exact (Below.cell BB (p := ⟨w.heap.size, 2, none⟩) z_A).trans (HK.out.2.2) | refine Hand.cell_alloc ?_ | refine Hand.cell_drew ?_ | refine Hand.cell_far (by omega) ?_)))) (first | (go_at_call 52; ((with_reducible refine (M2.out _).mono ?_); rintro e w2 ⟨rfl, hb_⟩; have BB : Below W.heap.size W w2 := Hand.stepB hb_ (by assumption) (Nat.le_refl _); have zB_w2 := Below.size BB; clear hb_)) | (go_at_call 53; ((with_reducible refine (M3.out _).mono ?_); rintro e w3 ⟨rfl, hb_⟩; have BB : Below W.heap.size W w3 := Hand.stepB hb_ (by assumption) (Nat.le_refl _); have zB_w3 := Below.size BB; clear hb_)))
  obtain ⟨g_A, g_X, hB⟩ := HG.out
  clear HG
  have g_A' := (Hand.hp_below BB z_A).trans g_A
  have hB' := hB.trans (Below.mono BB zw)
  clear g_A
  clear hB HBW HK BD BR BB zw z_A z1_A z2_A y0_A y1_A
  have g_A := g_A'
  have hB := hB'
  clear hB' g_A'
  obtain ⟨z_A, z1_A, z2_A, y0_A, y1_A⟩ := Hand.hz g_A
  obtain ⟨c_A_0, f_A_0, c_A_1, f_A_1, c_A_2, f_A_2⟩ := Hand.hc3 g_A
  have zw : w.heap.size ≤ w3.heap.size := hB.size
  have HG := Lib.hid (And.intro g_A (hB))
  clear g_A hB
  go_wp2
  have hf2 : ¬ f = 0 := by omega
  have e1 : IntKind.i64.wrap (s.tdiv 3600) = h := by rw [Int.tdiv_eq_ediv_of_nonneg s0, hh, IntKind.wrap_i64]; omega
  have e2 : (IntKind.i64.wrap (s.tdiv 60)).tmod 60 = m := by rw [Int.tdiv_eq_ediv_of_nonneg s0, show IntKind.i64.wrap (s / 60) = s / 60 by rw [IntKind.wrap_i64]; omega, Int.tmod_eq_emod_of_nonneg (by omega), hm]
  have e3 : s.tmod 60 = se := by rw [Int.tmod_eq_emod_of_nonneg s0, hse]
  have e4 : k.tmod f = rs := by rw [Int.tmod_eq_emod_of_nonneg k0, hrs]
  have p1 : (9223372036854775807 < S1.size + 1) = False := eq_false (by omega)
  have p2 : (9223372036854775807 < S1.size + 1 + S2.size) = False := eq_false (by omega)
  have p3 : (9223372036854775807 < S1.size + 1 + S2.size + 1) = False := eq_false (by omega)
  have p4 : (9223372036854775807 < S1.size + 1 + S2.size + 1 + S3.size) = False := eq_false (by omega)
  have p5 : (9223372036854775807 < S1.size + 1 + S2.size + 1 + S3.size + C.size) = False := eq_false (by omega)
  have p6 : (9223372036854775807 < S1.size + 1 + S2.size + 1 + S3.size + C.size + S4.size) = False := eq_false (by omega)
  have HT3 := Lib.hid (show TabN w3 from (tab_below HT0.out (HG.out.2)))
  have HBW := Lib.hid (HG.out.2)
  have HK := Lib.hid (And.intro c_A_0 (And.intro c_A_1 (c_A_2)))
  have BD : Below w3.heap.size w3 w3.drew := Below.drew (Below.refl _ _)
  have BR : Below w3.heap.size w3 w3 := Below.refl _ _
  go_region_held3 (fun w_ => Below w.heap.size w w_ ∧ w_.cell? ⟨w.heap.size, 0, none⟩ = some (.int .i64 n) ∧ w_.cell? ⟨w.heap.size, 1, none⟩ = some (.int .i64 d) ∧ w_.cell? ⟨w.heap.size, 2, none⟩ = some (.bool dr)) (first | with_reducible (refine ⟨?_, (Below.cell BR (p := ⟨w.heap.size, 0, none⟩) z_A).trans (HK.out.1), (Below.cell BR (p := ⟨w.heap.size, 1, none⟩) z_A).trans (HK.out.2.1), (Below.cell BR (p := ⟨w.heap.size, 2, none⟩) z_A).trans (HK.out.2.2)⟩; apply (HBW.out.trans (Below.mono BR zw))) | with_reducible (refine ⟨?_, (Below.cell BD (p := ⟨w.heap.size, 0, none⟩) z_A).trans (HK.out.1), (Below.cell BD (p := ⟨w.heap.size, 1, none⟩) z_A).trans (HK.out.2.1), (Below.cell BD (p := ⟨w.heap.size, 2, none⟩) z_A).trans (HK.out.2.2)⟩; apply (HBW.out.trans (Below.mono BD zw))) | with_reducible (refine ⟨?_, (Below.cell BB (p := ⟨w.heap.size, 0, none⟩) z_A).trans (HK.out.1), (Below.cell BB (p := ⟨w.heap.size, 1, none⟩) z_A).trans (HK.out.2.1), (Below.cell BB (p := ⟨w.heap.size, 2, none⟩) z_A).trans (HK.out.2.2)⟩; apply (HBW.out.trans (Below.mono BB zw))) | (refine ⟨?_, ?_, ?_, ?_⟩; (focus (repeat (with_reducible first | apply (HBW.out.trans (Below.mono BB zw)) | apply Below.drew | (apply Below.setCell; rotate_left; (dsimp only; omega)) | (apply Below.alloc; rotate_left; (first | omega | (simp only [Hand.sa, Hand.ss, Hand.sd, Hand.sn]; omega)))))); (repeat (with_reducible first | exact (Below.cell BB (p := ⟨w.heap.size, 0, none⟩) z_A).trans (HK.out.1) | refine Hand.cell_alloc ?_ | refine Hand.cell_drew ?_ | refine Hand.cell_far (by omega) ?_)); (repeat (with_reducible first | exact (Below.cell BB (p := ⟨w.heap.size, 1, none⟩) z_A).trans (HK.out.2.1) | refine Hand.cell_alloc ?_ | refine Hand.cell_drew ?_ | refine Hand.cell_far (by omega) ?_)); (repeat (with_reducible first | exact (Below.cell BB (p := ⟨w.heap.size, 2, none⟩) z_A).trans (HK.out.2.2) | refine Hand.cell_alloc ?_ | refine Hand.cell_drew ?_ | refine Hand.cell_far (by omega) ?_)))) (first | (go_at_call 36; ((with_reducible refine (M4.out _ (tab_below HT3.out (by assumption))).mono ?_); rintro e w4 ⟨rfl, hb_⟩; have BB : Below w3.heap.size w3 w4 := Hand.stepB hb_ (by assumption) (Nat.le_refl _); have zB_w4 := Below.size BB; clear hb_)) | (go_at_call 36; ((with_reducible refine (M5.out _ (tab_below HT3.out (by assumption))).mono ?_); rintro e w5 ⟨rfl, hb_⟩; have BB : Below w3.heap.size w3 w5 := Hand.stepB hb_ (by assumption) (Nat.le_refl _); have zB_w5 := Below.size BB; clear hb_)) | (go_at_call 36; ((with_reducible refine (M6.out _ (tab_below HT3.out (by assumption))).mono ?_); rintro e w6 ⟨rfl, hb_⟩; have BB : Below w3.heap.size w3 w6 := Hand.stepB hb_ (by assumption) (Nat.le_refl _); have zB_w6 := Below.size BB; clear hb_)) | (go_at_call 54; ((with_reducible refine (M7.out _).mono ?_); rintro e w7 ⟨rfl, hb_⟩; have BB : Below w3.heap.size w3 w7 := Hand.stepB hb_ (by assumption) (Nat.le_refl _); have zB_w7 := Below.size BB; clear hb_)) | (go_at_call 55; ((with_reducible refine (M8.out _ (tab_below HT3.out (by assumption))).mono ?_); rintro e w8 ⟨rfl, hb_⟩; have BB : Below w3.heap.size w3 w8 := Hand.stepB hb_ (by assumption) (Nat.le_refl _); have zB_w8 := Below.size BB; clear hb_)) | (go_at_call 36; ((with_reducible refine (M9.out _ (tab_below HT3.out (by assumption))).mono ?_); rintro e w9 ⟨rfl, hb_⟩; have BB : Below w3.heap.size w3 w9 := Hand.stepB hb_ (by assumption) (Nat.le_refl _); have zB_w9 := Below.size BB; clear hb_)))
  go_wp2
  go_ret2
  obtain ⟨g_A, hB⟩ := HG.out
  exact ⟨rfl, hB.trans (Below.mono BB zw)⟩
end Go.Proofs.YtghiibdhibcbaaaGreatDoor.PA
namespace Go.Proofs.YtghiibdhibcbaaaGreatDoor.PA
open Go Go.RowKit Go.Proofs.YtghiibdhibcbaaaGreatDoor.CS
set_option linter.unusedSimpArgs false
set_option linter.unusedVariables false
theorem beq_f {a b : Int} (h : a ≠ b) : (a == b) = false := by simpa using h
/-- n / d of small numbers above 0, in lowest terms -/
theorem new_pos {a b : Int} (h0 : 0 ≤ a) (h1 : a ≤ 4611686018427387904) (h2 : 1 ≤ b) (h3 : b ≤ 2147483648) :
    newS a b = (a / (Nat.gcd a.natAbs b.natAbs : Int), b / (Nat.gcd a.natAbs b.natAbs : Int), 0) := by
  have l1 := Nat.div_le_self a.natAbs (Nat.gcd a.natAbs b.natAbs)
  have l2 := Nat.div_le_self b.natAbs (Nat.gcd a.natAbs b.natAbs)
  unfold newS
  rw [if_neg (by omega)]
  unfold fitS
  rw [if_pos ⟨by omega, by omega⟩, decide_eq_false (show ¬ a < 0 by omega), decide_eq_false (show ¬ b < 0 by omega)]
  simp only [bne_self_eq_false, Bool.false_eq_true, if_false, Int.natCast_ediv]
  rw [show ((a.natAbs : Nat) : Int) = a by omega, show ((b.natAbs : Nat) : Int) = b by omega]
def gridS (n d : Int) (dr : Bool) : Int × Int × Int := if okR n d dr = true then (d, n, 0) else (0, 0, 14)
def timF (n d : Int) (dr : Bool) (fr : Int) : Int × Int × Int := if okR n d dr = true then (if inF n d fr = true then newS (fr * d) n else (0, 0, 31)) else (0, 0, 14)
theorem fr_le {n d fr : Int} {dr : Bool} (o : Ok n d dr) (h : inF n d fr = true) : 0 ≤ fr ∧ fr ≤ 86400000 ∧ 0 ≤ fr * d ∧ fr * d ≤ 360000 * n ∧ 360000 * n ≤ 86400000000 := by
  obtain ⟨l0, l1, l2, l3⟩ := last_le o
  obtain ⟨f0, f1⟩ := inF_iff.mp h
  obtain ⟨n1, n2, d1, d2, _, _, _, _⟩ := o
  have h1 : fr * d ≤ last n d * d := Int.mul_le_mul_of_nonneg_right f1 (by omega)
  exact ⟨f0, by omega, Int.mul_nonneg f0 (by omega), by omega, by omega⟩
theorem timF_ok {n d fr : Int} {dr : Bool} (h : okR n d dr = true) (hf : inF n d fr = true) :
    timF n d dr fr = (fr * d / (Nat.gcd (fr * d).natAbs n.natAbs : Int), n / (Nat.gcd (fr * d).natAbs n.natAbs : Int), 0) := by
  have o := okR_iff.mp h
  have b := fr_le o hf
  unfold timF
  rw [if_pos h, if_pos hf, new_pos b.2.2.1 (by omega) o.n1 (by have := o.n2; omega)]
theorem ctime_any (n d fr : Int) (dr : Bool) (w : World) :
    Calls Tryz.prog 18 #[rate n d dr, .int .i64 fr] w fun e w' => e = .returned (.tuple #[.agg #[.int .i64 (timF n d dr fr).1, .int .i64 (timF n d dr fr).2.1], .int .i64 (timF n d dr fr).2.2]) ∧ Below w.heap.size w w' := by
  have m1 := check_any n d dr
  unfold checkS at m1
  unfold timF
  by_cases h : okR n d dr = true
  · rw [if_pos h] at m1 ⊢
    have o := okR_iff.mp h
    have m2 := within_any n d fr dr o
    by_cases hf : inF n d fr = true
    · rw [hf] at m2
      rw [if_pos hf]
      obtain ⟨b0, b1, b2, b3, b4⟩ := fr_le o hf
      have m3 := fun w => new_any (fr * d) n w (by omega) (by omega) (by have := o.n1; omega) (by have := o.n2; omega)
      exact ctime_ok n d fr (fr * d) _ _ _ dr b0 b1 o.d1 o.d2 rfl w m1 m2 m3
    · have hf' : inF n d fr = false := by simpa using hf
      rw [hf'] at m2
      rw [if_neg hf]
      exact ctime_far n d fr dr w m1 m2
  · rw [if_neg h] at m1 ⊢
    exact ctime_bad n d 14 fr dr (by decide) w m1
theorem timeS_ok {a b : Int} (h : timeS a b = 0) : rightS a b = true ∧ b ≤ 1048576 ∧ 0 ≤ a ∧ cmpS a b 360000 1 ≤ 0 := by
  unfold timeS at h
  by_cases h1 : rightS a b = true ∧ b ≤ 1048576
  · rw [if_pos h1] at h
    by_cases h2 : 0 ≤ a ∧ cmpS a b 360000 1 ≤ 0
    · exact ⟨h1.1, h1.2, h2.1, h2.2⟩
    · rw [if_neg h2] at h; exact absurd h (by decide)
  · rw [if_neg h1] at h; exact absurd h (by decide)
theorem cmp_max {a b : Int} (h0 : 0 ≤ a) (hb : 1 ≤ b) : cmpS a b 360000 1 ≤ 0 ↔ a ≤ 360000 * b := by
  unfold cmpS
  rw [decide_eq_false (show ¬ a < 0 by omega), if_pos (by rfl), if_neg (by omega)]
  unfold cmpN
  have e1 : a.natAbs * Int.natAbs 1 = a.natAbs := by simp
  have e2 : Int.natAbs 360000 * b.natAbs = 360000 * b.natAbs := by rfl
  rw [e1, e2]
  split
  · constructor <;> intro <;> omega
  · split <;> constructor <;> intro <;> omega
theorem timeS_le {a b : Int} (h : timeS a b = 0) : rightS a b = true ∧ 1 ≤ b ∧ b ≤ 1048576 ∧ 0 ≤ a ∧ a ≤ 360000 * b := by
  obtain ⟨h1, h2, h3, h4⟩ := timeS_ok h
  have hb := right_bounds h1
  exact ⟨h1, hb.1, h2, h3, (cmp_max h3 hb.1).mp h4⟩
def frmS (n d : Int) (dr : Bool) (a b how : Int) : Int × Int :=
  if okR n d dr = true then (if timeS a b = 0 then (if how = 1 then (a * n / (b * d), 0) else if how = 2 then ((2 * (a * n) + b * d) / (2 * (b * d)), 0) else if how = 3 then ((a * n + (b * d - 1)) / (b * d), 0) else (0, 5)) else (0, timeS a b)) else (0, 14)
end Go.Proofs.YtghiibdhibcbaaaGreatDoor.PA
namespace Go.Proofs.YtghiibdhibcbaaaGreatDoor.PA
open Go Go.RowKit Go.Proofs.YtghiibdhibcbaaaGreatDoor.CS
set_option linter.unusedSimpArgs false
set_option linter.unusedVariables false
theorem dropsS_30 : dropsS 30000 1001 = 2 := by decide
theorem dropsS_60 : dropsS 60000 1001 = 4 := by decide
theorem last_30 : last 30000 1001 = 10789210 := by decide
theorem last_60 : last 60000 1001 = 21578421 := by decide
theorem numbered_any (n d fr : Int) (dr : Bool) (h : okR n d dr = true) (hf : inF n d fr = true) (w : World) :
    Calls Tryz.prog 52 #[rate n d dr, .int .i64 fr] w fun e w' => e = .returned (.int .i64 (num n d dr fr)) ∧ Below w.heap.size w w' := by
  have o := okR_iff.mp h
  obtain ⟨b0, b1, _, _, _⟩ := fr_le o hf
  rcases o.kinds with ⟨rfl, _⟩ | ⟨rfl, rfl, rfl, hd, hF⟩ | ⟨rfl, rfl, rfl, hd, hF⟩
  · rw [num_false]; exact numbered_not n d fr w
  · have m1 := drops_any 30000 1001
    have m2 := full_any 30000 1001 true o
    rw [dropsS_30] at m1
    rw [full_30] at m2
    unfold num
    rw [hd, hF]
    by_cases hm : 1800 ≤ fr % 17982
    · have e : (if fr % (600 * 30 - 9 * 2) ≥ 60 * 30 then (2 : Int) + (fr % (600 * 30 - 9 * 2) - 60 * 30) / (60 * 30 - 2) * 2 else 0) = 2 + (fr % 17982 - 1800) / 1798 * 2 := by rw [if_pos (by omega)]; omega
      rw [e]; exact numbered_30_far fr b0 (by omega) hm w m1 m2
    · have e : (if fr % (600 * 30 - 9 * 2) ≥ 60 * 30 then (2 : Int) + (fr % (600 * 30 - 9 * 2) - 60 * 30) / (60 * 30 - 2) * 2 else 0) = 0 := by rw [if_neg (by omega)]
      rw [e, Int.add_zero]; exact numbered_30_near fr b0 (by omega) (by omega) w m1 m2
  · have m1 := drops_any 60000 1001
    have m2 := full_any 60000 1001 true o
    rw [dropsS_60] at m1
    rw [full_60] at m2
    unfold num
    rw [hd, hF]
    by_cases hm : 3600 ≤ fr % 35964
    · have e : (if fr % (600 * 60 - 9 * 4) ≥ 60 * 60 then (4 : Int) + (fr % (600 * 60 - 9 * 4) - 60 * 60) / (60 * 60 - 4) * 4 else 0) = 4 + (fr % 35964 - 3600) / 3596 * 4 := by rw [if_pos (by omega)]; omega
      rw [e]; exact numbered_60_far fr b0 (by omega) hm w m1 m2
    · have e : (if fr % (600 * 60 - 9 * 4) ≥ 60 * 60 then (4 : Int) + (fr % (600 * 60 - 9 * 4) - 60 * 60) / (60 * 60 - 4) * 4 else 0) = 0 := by rw [if_neg (by omega)]
      rw [e, Int.add_zero]; exact numbered_60_near fr b0 (by omega) (by omega) w m1 m2
theorem num_le {n d fr : Int} {dr : Bool} (h : okR n d dr = true) (hf : inF n d fr = true) : 0 ≤ num n d dr fr ∧ num n d dr fr ≤ 1000000000 := by
  have o := okR_iff.mp h
  obtain ⟨b0, b1, _, _, _⟩ := fr_le o hf
  obtain ⟨f0, f1⟩ := inF_iff.mp hf
  rcases o.kinds with ⟨rfl, _⟩ | ⟨rfl, rfl, rfl, hd, hF⟩ | ⟨rfl, rfl, rfl, hd, hF⟩
  · rw [num_false]; omega
  · unfold num
    rw [hd, hF]
    split <;> omega
  · unfold num
    rw [hd, hF]
    split <;> omega
/-- how many digits the number in a second has -/
def wide (f : Int) : Nat := if f > 100 then 3 else 2
theorem itoa_nat {n : Int} (h : 0 ≤ n) : Lib.itoa n = Lib.decDigits n.toNat := by unfold Lib.itoa; rw [if_neg (by omega)]
theorem dec_len1 {u : Nat} (h : u < 10) : (Lib.decDigits u).length = 1 := by rw [ParD.dec_small h]; rfl
theorem dec_len2 {u : Nat} (h0 : 10 ≤ u) (h : u < 100) : (Lib.decDigits u).length = 2 := by rw [ParD.dec_big (by omega), List.length_append, dec_len1 (by omega)]; rfl
theorem dec_len3 {u : Nat} (h0 : 100 ≤ u) (h : u < 1000) : (Lib.decDigits u).length = 3 := by rw [ParD.dec_big (by omega), List.length_append, dec_len2 (by omega) (by omega)]; rfl
theorem last_any (n d : Int) (dr : Bool) (o : Ok n d dr) (w : World) (ht : TabN w) :
    Calls Tryz.prog 55 #[rate n d dr] w fun e w' => e = .returned (.int .i64 (wide (full n d) : Int)) ∧ Below w.heap.size w w' := by
  obtain ⟨f0, f1⟩ := full_le o
  have h := last_some n d (full n d) dr (bs (Lib.itoa (full n d - 1))) f0 f1 (itoa_len _ (by omega) (by omega)) w ht (full_any n d dr o) (format_any _ (by omega) (by omega))
  have e : max 2 ((bs (Lib.itoa (full n d - 1))).size : Int) = (wide (full n d) : Int) := by
    rw [bs_size, itoa_nat (by omega)]
    unfold wide
    by_cases h1 : full n d > 100
    · rw [if_pos h1, dec_len3 (by omega) (by omega)]; rfl
    · rw [if_neg h1]
      by_cases h2 : full n d ≤ 10
      · rw [dec_len1 (by omega)]; rfl
      · rw [dec_len2 (by omega) (by omega)]; rfl
  rw [e] at h
  exact h
/-- a label's text: hours, minutes, seconds, the number -/
def labT (dr : Bool) (h m s k : Int) (wd : Nat) : List UInt8 := digL h 2 ++ 58 :: (digL m 2 ++ 58 :: (digL s 2 ++ (if dr = true then 59 else 58) :: digL k wd))
def labL (n d : Int) (dr : Bool) (fr : Int) : List UInt8 :=
  labT dr (num n d dr fr / full n d / 3600) (num n d dr fr / full n d / 60 % 60) (num n d dr fr / full n d % 60) (num n d dr fr % full n d) (wide (full n d))
def lblS (n d : Int) (dr : Bool) (fr : Int) : List UInt8 × Int := if okR n d dr = true then (if inF n d fr = true then (labL n d dr fr, 0) else ([], 31)) else ([], 14)
theorem digL_sz {n : Int} {l : Nat} (h0 : -9223372036854775808 ≤ n) (h1 : n ≤ 9223372036854775807) (hl : l ≤ 10) : (bs (digL n l)).size ≤ 21 := by
  have := itoa_len n h0 h1
  rw [bs_size] at this
  rw [bs_size, digL_len]; omega
theorem wide_le (f : Int) : wide f ≤ 10 := by unfold wide; split <;> omega
theorem label_any (n d fr : Int) (dr : Bool) (w : World) (ht : TabN w) :
    Calls Tryz.prog 19 #[rate n d dr, .int .i64 fr] w fun e w' => e = .returned (.tuple #[.string (bs (lblS n d dr fr).1), .int .i64 (lblS n d dr fr).2]) ∧ Below w.heap.size w w' := by
  have m1 := ctime_any n d fr dr
  unfold lblS
  by_cases h : okR n d dr = true
  · rw [if_pos h]
    have o := okR_iff.mp h
    by_cases hf : inF n d fr = true
    · rw [if_pos hf]
      have hz : (timF n d dr fr).2.2 = 0 := by rw [timF_ok h hf]
      rw [hz] at m1
      obtain ⟨k0, k1⟩ := num_le h hf
      obtain ⟨f0, f1⟩ := full_le o
      have s0 : 0 ≤ num n d dr fr / full n d := Int.ediv_nonneg k0 (by omega)
      have s1 : num n d dr fr / full n d ≤ num n d dr fr := Int.ediv_le_self _ k0
      have r0 : 0 ≤ num n d dr fr % full n d := Int.emod_nonneg _ (by omega)
      have r1 : num n d dr fr % full n d < full n d := Int.emod_lt_of_pos _ (by omega)
      have hc : bs (labL n d dr fr) = bs (digL (num n d dr fr / full n d / 3600) 2) ++ (⟨#[58]⟩ : ByteArray) ++ bs (digL (num n d dr fr / full n d / 60 % 60) 2) ++ (⟨#[58]⟩ : ByteArray) ++ bs (digL (num n d dr fr / full n d % 60) 2) ++ (if dr = true then ⟨#[59]⟩ else ⟨#[58]⟩) ++ bs (digL (num n d dr fr % full n d) (wide (full n d))) := by
        unfold labL labT
        rw [show (⟨#[58]⟩ : ByteArray) = bs [58] from rfl, show (⟨#[59]⟩ : ByteArray) = bs [59] from rfl]
        cases dr <;> simp only [if_true, Bool.false_eq_true, if_false, bs_cat, List.append_assoc, List.cons_append, List.nil_append]
      rw [hc]
      exact label_ok n d fr _ _ (full n d) (num n d dr fr) _ _ _ _ _ _ dr _ _ _ _ _ k0 k1 f0 f1 (beq_f (by omega)) rfl s0 (by omega) rfl rfl rfl rfl
        (digL_sz (by omega) (by omega) (by omega)) (digL_sz (by omega) (by omega) (by omega)) (digL_sz (by omega) (by omega) (by omega)) (digL_sz (by omega) (by omega) (wide_le _)) (by cases dr <;> decide) w ht m1 (numbered_any n d fr dr h hf) (full_any n d dr o)
        (digits_any _ 2 (by omega) (by omega) (by omega)) (digits_any _ 2 (by omega) (by omega) (by omega)) (digits_any _ 2 (by omega) (by omega) (by omega)) (colon_any n d dr) (last_any n d dr o) (digits_any _ (wide (full n d)) (wide_le _) (by omega) (by omega))
    · have hz : timF n d dr fr = (0, 0, 31) := by unfold timF; rw [if_pos h, if_neg hf]
      rw [hz] at m1
      rw [if_neg hf]; exact label_bad n d fr _ _ 31 dr (by decide) w m1
  · have hz : timF n d dr fr = (0, 0, 14) := by unfold timF; rw [if_neg h]
    rw [hz] at m1
    rw [if_neg h]; exact label_bad n d fr _ _ 14 dr (by decide) w m1
end Go.Proofs.YtghiibdhibcbaaaGreatDoor.PA
