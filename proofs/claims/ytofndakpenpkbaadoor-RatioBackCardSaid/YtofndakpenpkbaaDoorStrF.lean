/- Text: a ratio written. -/
import Derived.Test.YtofndakpenpkbaaDoorStrE
import Derived.Test.YtofndakpenpkbaaDoorShelfB
import Derived.Test.YtofndakpenpkbaaDoorParD
import Derived.Shelf.Unicode.PredsPay
import Derived.Lib.AppendIntMem
import Derived.Lib.ItoaLen
namespace Go.Proofs.YtofndakpenpkbaaDoor.PA
open Go.RowKit Go.Proofs.YtofndakpenpkbaaDoorW.PrintWords Go.Proofs.YtofndakpenpkbaaDoorW.PrintLast Go.Proofs.YtofndakpenpkbaaDoorW.PrintMore
set_option linter.unusedSimpArgs false
set_option linter.unusedVariables false
/-- the table of powers lies as its initialiser lays it -/
def TabN (w : World) : Prop := Lib.TabIs Tryd.prog w "internal/strconv.uint64pow10" .u64 Lib.pow10Tab
theorem gTab : ∃ g, Tryd.prog.globalNamed "internal/strconv.uint64pow10" = some g := by
  have h : (Tryd.prog.globalNamed "internal/strconv.uint64pow10").isSome = true := by kernel_rfl
  exact Option.isSome_iff_exists.mp h
theorem tab_below {w w' : World} (h : TabN w) (hb : Below w.heap.size w w') : TabN w' := by
  obtain ⟨g, hg⟩ := gTab
  exact TabIs_below hg h hb
theorem tab_alloc {w : World} (h : TabN w) (o : Obj) : TabN (w.alloc o) := tab_below h ((Below.refl _ _).alloc (Nat.le_refl _) o)
theorem format_any (n : Int) (h0 : -9223372036854775808 ≤ n) (h1 : n ≤ 9223372036854775807) (w : World) (ht : TabN w) :
    Calls Tryd.prog 82 #[.int .i64 n, .int .i64 10] w fun e w' => e = .returned (.string ⟨(Lib.itoa n).toArray⟩) ∧ Below w.heap.size w w' :=
  (Tryd.strconv_FormatInt_10 n h0 h1 w ht).mono fun e w' ⟨he, k, os, hw⟩ => ⟨he, by rw [hw]; exact Lib.below_grow _ _ (Nat.le_refl _) k os⟩
theorem bcat (a b : List UInt8) : ((⟨a.toArray⟩ : ByteArray) ++ ⟨b.toArray⟩) = ⟨(a ++ b).toArray⟩ := by
  apply ByteArray.ext
  simp
/-- a ratio as text -/
def txt (n d : Int) : List UInt8 := Lib.itoa n ++ (if d = 1 then [] else 47 :: Lib.itoa d)
set_option maxHeartbeats 1600000 in
set_option maxRecDepth 100000 in
theorem text_one (n : Int) (h0 : -9223372036854775808 ≤ n) (h1 : n ≤ 9223372036854775807) (w : World) (ht : TabN w) :
    Calls Tryd.prog 48 #[.agg #[.int .i64 n, .int .i64 1]] w fun e w' => e = .returned (.string ⟨(Lib.itoa n).toArray⟩) ∧ Below w.heap.size w w' := by
  have M1 := Lib.hid (format_any n h0 h1)
  have HT := Lib.hid ht
  clear ht h0 h1
  go_enter Tryd.func48, Tryd.ntmps48
  go_wp2_with fail
  with_reducible refine (M1.out _ (tab_alloc HT.out _)).mono ?_
  rintro e w1 ⟨rfl, hb1⟩
  have h_A : w1.heap[w.heap.size]? = some (.cells #[.int .i64 n, .int .i64 1] 24 (0, 0)) := by
    refine Hand.kb hb1 ?_; simp (disch := first | omega | (simp only [Hand.sa, Hand.ss, Hand.sd, Hand.sn]; first | done | omega)) only [Hand.q2, Hand.q1, Hand.q5, Hand.q6, Hand.q4, Hand.q3] <;> rfl
  have hB' : Below w.heap.size w w1 := Hand.stepB hb1 (by repeat (with_reducible first | apply Below.refl _ _ | apply Below.drew | apply pw_below_drewN | (apply Below.setCell; rotate_left; (dsimp only; omega)) | (apply Below.alloc; rotate_left; (first | omega | (simp only [Hand.sa, Hand.ss, Hand.sd, Hand.sn]; omega))))) (Nat.le_refl _)
  clear hb1
  have g_A := h_A
  have hB := hB'
  clear hB' h_A
  obtain ⟨z_A, z1_A, z2_A, y0_A, y1_A⟩ := Hand.hz g_A
  obtain ⟨c_A_0, f_A_0, c_A_1, f_A_1⟩ := Hand.hc2 g_A
  have zw : w.heap.size ≤ w1.heap.size := hB.size
  have HG := Lib.hid (And.intro g_A (hB))
  clear g_A hB
  go_wp2
  go_ret
  obtain ⟨g_A, hB⟩ := HG.out
  exact ⟨rfl, hB⟩
theorem itoa_len (n : Int) (h0 : -9223372036854775808 ≤ n) (h1 : n ≤ 9223372036854775807) : (⟨(Lib.itoa n).toArray⟩ : ByteArray).size ≤ 21 := by
  have := Lib.itoa_length_le n h0 h1
  simpa [ByteArray.size] using this
set_option maxHeartbeats 1600000 in
set_option maxRecDepth 100000 in
theorem text_cat (n d : Int) (S1 S2 : ByteArray) (k1 : S1.size ≤ 21) (k2 : S2.size ≤ 21) (hd : d ≠ 1) (w : World) (ht : TabN w)
    (m1 : ∀ w, TabN w → Calls Tryd.prog 82 #[.int .i64 n, .int .i64 10] w fun e w' => e = .returned (.string S1) ∧ Below w.heap.size w w')
    (m2 : ∀ w, TabN w → Calls Tryd.prog 82 #[.int .i64 d, .int .i64 10] w fun e w' => e = .returned (.string S2) ∧ Below w.heap.size w w') :
    Calls Tryd.prog 48 #[.agg #[.int .i64 n, .int .i64 d]] w fun e w' => e = .returned (.string (S1 ++ ((⟨#[47]⟩ : ByteArray) ++ S2))) ∧ Below w.heap.size w w' := by
  have M1 := Lib.hid m1
  have M2 := Lib.hid m2
  have HT := Lib.hid ht
  have hdb : (d == 1) = false := by simpa using hd
  have e1 : ((⟨#[47]⟩ : ByteArray) ++ S2).size = 1 + S2.size := by rw [ByteArray.size_append]; rfl
  have hk : S1.size + (1 + S2.size) ≤ 9223372036854775807 := by omega
  clear ht m1 m2 hd
  go_enter Tryd.func48, Tryd.ntmps48
  go_wp2_with fail
  with_reducible refine (M1.out _ (tab_alloc HT.out _)).mono ?_
  rintro e w1 ⟨rfl, hb1⟩
  have ht1 := Lib.hid (tab_below (tab_alloc HT.out _) hb1)
  have h_A : w1.heap[w.heap.size]? = some (.cells #[.int .i64 n, .int .i64 d] 24 (0, 0)) := by
    refine Hand.kb hb1 ?_; simp (disch := first | omega | (simp only [Hand.sa, Hand.ss, Hand.sd, Hand.sn]; first | done | omega)) only [Hand.q2, Hand.q1, Hand.q5, Hand.q6, Hand.q4, Hand.q3] <;> rfl
  have hB' : Below w.heap.size w w1 := Hand.stepB hb1 (by repeat (with_reducible first | apply Below.refl _ _ | apply Below.drew | apply pw_below_drewN | (apply Below.setCell; rotate_left; (dsimp only; omega)) | (apply Below.alloc; rotate_left; (first | omega | (simp only [Hand.sa, Hand.ss, Hand.sd, Hand.sn]; omega))))) (Nat.le_refl _)
  clear hb1
  have g_A := h_A
  have hB := hB'
  clear hB' h_A
  obtain ⟨z_A, z1_A, z2_A, y0_A, y1_A⟩ := Hand.hz g_A
  obtain ⟨c_A_0, f_A_0, c_A_1, f_A_1⟩ := Hand.hc2 g_A
  have zw : w.heap.size ≤ w1.heap.size := hB.size
  have HG := Lib.hid (And.intro g_A (hB))
  clear g_A hB
  go_wp2_with fail
  with_reducible refine (M2.out _ ht1.out).mono ?_
  rintro e w2 ⟨rfl, hb2⟩
  obtain ⟨g_A, hB⟩ := HG.out
  have h_A : w2.heap[w.heap.size]? = some (.cells #[.int .i64 n, .int .i64 d] 24 (0, 0)) := by
    refine Hand.kb hb2 ?_; first | with_reducible exact g_A | (simp (disch := first | omega | (simp only [Hand.sa, Hand.ss, Hand.sd, Hand.sn]; first | done | omega)) only [Hand.q2, Hand.q1, Hand.q5, Hand.q6, Hand.q4, Hand.q3, g_A] <;> rfl)
  have hB' : Below w.heap.size w w2 := Hand.stepB hb2 (by repeat (with_reducible first | apply hB | apply Below.drew | apply pw_below_drewN | (apply Below.setCell; rotate_left; (dsimp only; omega)) | (apply Below.alloc; rotate_left; (first | omega | (simp only [Hand.sa, Hand.ss, Hand.sd, Hand.sn]; omega))))) (Nat.le_refl _)
  clear HG hB g_A zw z_A z1_A z2_A y0_A y1_A c_A_0 f_A_0 c_A_1 f_A_1
  clear hb2
  have g_A := h_A
  have hB := hB'
  clear hB' h_A
  obtain ⟨z_A, z1_A, z2_A, y0_A, y1_A⟩ := Hand.hz g_A
  obtain ⟨c_A_0, f_A_0, c_A_1, f_A_1⟩ := Hand.hc2 g_A
  have zw : w.heap.size ≤ w2.heap.size := hB.size
  have HG := Lib.hid (And.intro g_A (hB))
  clear g_A hB
  go_wp2
  go_ret
  obtain ⟨g_A, hB⟩ := HG.out
  exact ⟨rfl, hB⟩
theorem text_two (n d : Int) (h0 : -9223372036854775808 ≤ n) (h1 : n ≤ 9223372036854775807) (h2 : -9223372036854775808 ≤ d) (h3 : d ≤ 9223372036854775807) (hd : d ≠ 1) (w : World) (ht : TabN w) :
    Calls Tryd.prog 48 #[.agg #[.int .i64 n, .int .i64 d]] w fun e w' => e = .returned (.string ⟨(Lib.itoa n ++ 47 :: Lib.itoa d).toArray⟩) ∧ Below w.heap.size w w' := by
  have h := text_cat n d ⟨(Lib.itoa n).toArray⟩ ⟨(Lib.itoa d).toArray⟩ (itoa_len n h0 h1) (itoa_len d h2 h3) hd w ht (format_any n h0 h1) (format_any d h2 h3)
  have ecat : ((⟨(Lib.itoa n).toArray⟩ : ByteArray) ++ ((⟨#[47]⟩ : ByteArray) ++ ⟨(Lib.itoa d).toArray⟩)) = ⟨(Lib.itoa n ++ 47 :: Lib.itoa d).toArray⟩ := by
    apply ByteArray.ext
    simp
  rw [ecat] at h
  exact h
theorem text_any (n d : Int) (h0 : -9223372036854775808 ≤ n) (h1 : n ≤ 9223372036854775807) (h2 : -9223372036854775808 ≤ d) (h3 : d ≤ 9223372036854775807) (w : World) (ht : TabN w) :
    Calls Tryd.prog 48 #[.agg #[.int .i64 n, .int .i64 d]] w fun e w' => e = .returned (.string ⟨(txt n d).toArray⟩) ∧ Below w.heap.size w w' := by
  unfold txt
  by_cases hd : d = 1
  · subst hd
    rw [if_pos rfl, List.append_nil]; exact text_one n h0 h1 w ht
  · rw [if_neg hd]; exact text_two n d h0 h1 h2 h3 hd w ht
end Go.Proofs.YtofndakpenpkbaaDoor.PA
