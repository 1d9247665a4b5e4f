/- code: scan.number. code: scan.below, sign, hours. Reading in plain lists: what a reader comes to. -/
import Derived.Test.YtghiibdhibcbaaaGreatDoorMC
import Derived.Lib.ConvBytes
import Derived.Deep.QuietTactic
import Derived.BigQuiet
import Derived.Lib.IndexLaws
namespace Go.Proofs.YtghiibdhibcbaaaGreatDoor.PA
open Go Go.RowKit Go.Proofs.YtghiibdhibcbaaaGreatDoorW.PrintWords Go.Proofs.YtghiibdhibcbaaaGreatDoorW.PrintLast Go.Proofs.YtghiibdhibcbaaaGreatDoorW.PrintMore
set_option linter.unusedSimpArgs false
set_option linter.unusedVariables false
/-- the reader's block -/
abbrev scan (s : ByteArray) (b : Bool) : Obj := .cells #[.string s, .bool b] 70 (0, 0)
/-- what a method leaves: its block, and all that lies below the base as it was -/
abbrev SL (w0 w' : World) (g : Nat) (s : ByteArray) (b : Bool) : Prop := w'.heap[g]? = some (scan s b) ∧ Below w0.heap.size w0 w'
set_option maxHeartbeats 800000 in
set_option maxRecDepth 100000 in
theorem number_short (s : ByteArray) (b : Bool) (n : Int) (g : Nat) (w0 w : World) (hg : w0.heap.size ≤ g) (hx : w.heap[g]? = some (scan s b)) (hB : Below w0.heap.size w0 w) (h : (s.size : Int) < n ∨ n < 1) :
    Calls Tryz.prog 42 #[.pointer (some ⟨g, 0, none⟩), .int .i64 n] w fun e w' => e = .returned (.int .i64 0) ∧ SL w0 w' g s true := by
  obtain ⟨c0, f0, c1, f1⟩ := Hand.hc2 hx
  have HX := Lib.hid hx
  have HB := Lib.hid hB
  have HH := Lib.hid h
  clear hx hB h
  go_enter Tryz.func42, Tryz.ntmps42
  go_wp2
  all_goals first
    | (exfalso; have := HH.out; omega)
    | (go_ret; exact ⟨rfl, by rw [Hand.q1, HX.out]; rfl, HB.out.setCell (by dsimp only; omega) _⟩)
/-- digits as a number, whatever they are; are they none? -/
def vg (l : List UInt8) : Int := l.foldl (fun v c => 10 * v + ((c.toNat : Int) - 48) % 256) 0
def isD (c : UInt8) : Bool := decide (48 ≤ c.toNat) && decide (c.toNat ≤ 57)
def noD (l : List UInt8) : Bool := l.any (fun c => !isD c)
theorem vg_snoc (l : List UInt8) (c : UInt8) : vg (l ++ [c]) = 10 * vg l + ((c.toNat : Int) - 48) % 256 := by unfold vg; rw [List.foldl_append]; rfl
theorem noD_snoc (l : List UInt8) (c : UInt8) : noD (l ++ [c]) = (noD l || !isD c) := by unfold noD; rw [List.any_append]; simp
theorem snoc_ind {P : List UInt8 → Prop} (h0 : P []) (h1 : ∀ l c, P l → P (l ++ [c])) (l : List UInt8) : P l := by
  rw [← List.reverse_reverse l]
  induction l.reverse with
  | nil => exact h0
  | cons c l ih => rw [List.reverse_cons]; exact h1 _ _ ih
theorem vg_le (l : List UInt8) : 0 ≤ vg l ∧ vg l + 29 ≤ 29 * 10 ^ l.length := by
  refine snoc_ind (P := fun l => 0 ≤ vg l ∧ vg l + 29 ≤ 29 * 10 ^ l.length) ⟨by decide, by decide⟩ (fun l c h => ?_) l
  rw [vg_snoc, List.length_append, List.length_singleton, Int.pow_succ]
  omega
theorem vg_9 {l : List UInt8} (h : l.length ≤ 9) : 0 ≤ vg l ∧ vg l ≤ 29000000000 := by
  have h1 := vg_le l
  have h2 : (10 : Nat) ^ l.length ≤ 10 ^ 9 := Nat.pow_le_pow_right (by decide) h
  have h3 : (10 : Int) ^ l.length = (((10 : Nat) ^ l.length : Nat) : Int) := by simp
  omega
theorem take_snoc (l : List UInt8) (i : Nat) (h : i < l.length) : l.take (i + 1) = l.take i ++ [l.getD i 0] := by
  rw [List.take_succ_eq_append_getElem h, List.getD_eq_getElem?_getD, List.getElem?_eq_getElem h]; rfl
def loopN (w0 wr : World) (g m k : Nat) (S : ByteArray) (b : Bool) (l : List UInt8) (v x : Value) : Prop :=
  ∃ i : Nat, i ≤ k ∧ v = .int .i64 (vg (l.take i)) ∧ x = .int .i64 i ∧ wr.heap[g]? = some (scan S (b || noD (l.take i))) ∧ (∀ j, j < k → wr.cell? ⟨m, j, none⟩ = some (.int .u8 ((l.getD j 0).toNat : Int))) ∧ m < wr.heap.size ∧ Below w0.heap.size w0 wr
set_option maxHeartbeats 1600000 in
set_option maxRecDepth 100000 in
theorem number_in (S L R : ByteArray) (b : Bool) (k : Nat) (g : Nat) (w0 w : World) (hg : w0.heap.size ≤ g) (hx : w.heap[g]? = some (scan S b)) (hB : Below w0.heap.size w0 w) (k1 : 1 ≤ k) (k2 : k ≤ 9) (hk : (k : Int) ≤ (S.size : Int)) (e1 : S.extract 0 k = L) (e2 : S.extract k S.size = R) (hL : L.size = k) :
    Calls Tryz.prog 42 #[.pointer (some ⟨g, 0, none⟩), .int .i64 (k : Int)] w fun e w' => e = .returned (.int .i64 (vg L.data.toList)) ∧ SL w0 w' g R (b || noD L.data.toList) := by
  obtain ⟨c0, f0, c1, f1⟩ := Hand.hc2 hx
  have kc : ∀ w, (convert 9 57 (.string L)).run Tryz.prog w = .ok (.slice (some ⟨w.heap.size, 0, none⟩) L.size (grownCap w L.size 0 5)) (Lib.bytesWorld w 5 L) := fun w => Lib.run_convert_string_bytes w _ _ _ L Tryz.underlying9 Tryz.underlying57 Tryz.underlying5
  have HX := Lib.hid hx
  have HB := Lib.hid hB
  have hs1 : decide (S.size < k) = false := decide_eq_false (by omega)
  have hs2 : decide ((S.size : Int) < (k : Int)) = false := decide_eq_false (by omega)
  have hs3 : decide ((k : Int) < 1) = false := decide_eq_false (by omega)
  clear hx hB
  go_enter Tryz.func42, Tryz.ntmps42
  go_wp2
  clear hs1 hs2 hs3
  go_loopw [5, 30] (fun v x wr => loopN w0 wr g w.heap.size k S b L.data.toList v x) (fun _ x _ => k - (intOf x).toNat)
  case atStart =>
    have hgl : g < w.heap.size := (Array.getElem?_eq_some_iff.1 HX.out).1
    refine ⟨0, Nat.zero_le _, rfl, rfl, ?_, ?_, ?_, ?_⟩
    · rw [Lib.bytesWorld_at_old w _ L g hgl, HX.out]; simp [noD]
    · intro j hj; exact Lib.bytesWorld_cell w _ L j (by omega)
    · rw [Lib.bytesWorld_size]; omega
    · exact ⟨HB.out.os, HB.out.tape, HB.out.output, by rw [Lib.bytesWorld_size]; have := HB.out.size; omega, fun i hi => (Lib.bytesWorld_at_old w _ L i (by have := HB.out.size; omega)).trans (HB.out.block i hi)⟩
  case round =>
    obtain ⟨i, hi, rfl, rfl, q1, q2, q3, q4⟩ := hrel
    have hLl : L.data.toList.length = k := by rw [Array.length_toList]; exact hL
    have hv := vg_9 (l := L.data.toList.take i) (by rw [List.length_take]; omega)
    obtain ⟨V, hV⟩ : ∃ V, vg (L.data.toList.take i) = V := ⟨_, rfl⟩
    obtain ⟨B, hBB⟩ : ∃ B, (b || noD (L.data.toList.take i)) = B := ⟨_, rfl⟩
    rw [hV] at hv ⊢
    rw [hBB] at q1
    obtain ⟨c0, f0, c1, f1⟩ := Hand.hc2 q1
    have hmg : w.heap.size ≠ g := by have := (Array.getElem?_eq_some_iff.1 HX.out).1; omega
    by_cases hlt : i < k
    · have hc := q2 i hlt
      have ht := take_snoc L.data.toList i (by omega)
      obtain ⟨c, hcc⟩ : ∃ c, L.data.toList.getD i 0 = c := ⟨_, rfl⟩
      rw [hcc] at hc ht
      have hn1 := vg_snoc (L.data.toList.take i) c
      have hn2 := noD_snoc (L.data.toList.take i) c
      rw [← ht, hV] at hn1
      rw [← ht] at hn2
      have hcb : c.toNat ≤ 255 := by have := c.toNat_lt; omega
      obtain ⟨u, hu⟩ : ∃ u, c.toNat = u := ⟨_, rfl⟩
      have HN := Lib.hid hn1
      have HN2 := Lib.hid hn2
      have HU := Lib.hid hu
      have HV := Lib.hid hV
      have HBB := Lib.hid hBB
      have Q1 := Lib.hid q1
      have Q2 := Lib.hid q2
      have HT := Lib.hid ht
      have HCC := Lib.hid hcc
      have HL := Lib.hid hL
      have HLl := Lib.hid hLl
      rw [hu] at hc hcb
      have key := Lib.hid (fun (x : Int) (wr' : World) (B' : Bool) (h1 : x = 10 * V + ((u : Int) - 48) % 256) (h2 : B' = (B || !isD c)) (h3 : wr'.heap[g]? = some (scan S B')) (h4 : ∀ j, j < k → wr'.cell? ⟨w.heap.size, j, none⟩ = wr.cell? ⟨w.heap.size, j, none⟩) (h5 : w.heap.size < wr'.heap.size) (h6 : Below w0.heap.size w0 wr') =>
        (⟨i + 1, hlt, by rw [HN.out, HU.out, h1], by rw [Int.natCast_add]; rfl, by rw [h3, h2, HN2.out, ← HBB.out, Bool.or_assoc], fun j hj => (h4 j hj).trans (Q2.out j hj), h5, h6⟩ : loopN w0 wr' g w.heap.size k S b L.data.toList (.int .i64 x) (.int .i64 ((i : Int) + 1))))
      clear hn1 hn2 hu hV hBB q1 q2 ht hcc hLl hL
      rcases (by omega : u < 48 ∨ 57 < u ∨ (48 ≤ u ∧ u ≤ 57)) with h1 | h1 | ⟨h1, h2⟩
      all_goals
        go_wp2
        go_roundw
        case rel =>
          first
            | exact key.out _ _ true (by first | rfl | omega) (by rw [show isD c = false by unfold isD; rw [HU.out]; simp; omega]; simp) (by rw [Hand.q1, Q1.out]; rfl) (fun j hj => World.cell?_setCell_other _ _ _ _ (fun e => hmg (by have := congrArg Addr.block e; first | exact this | exact this.symm))) (by rw [Hand.ss]; exact q3) (q4.setCell (by dsimp only; omega) _)
            | exact key.out _ _ B (by first | rfl | omega) (by rw [show isD c = true by unfold isD; rw [HU.out]; simp; omega]; simp) Q1.out (fun j hj => rfl) q3 q4
        case measure => simp [intOf]; omega
    · have hik : i = k := by omega
      subst hik
      have ht : L.data.toList.take i = L.data.toList := List.take_of_length_le (by omega)
      rw [ht] at hV hBB
      have HV := Lib.hid hV
      have HBB := Lib.hid hBB
      have Q1 := Lib.hid q1
      have Q2 := Lib.hid q2
      clear hV hBB q1 q2 ht
      go_wp2
      go_ret
      exact ⟨by rw [HV.out]; rfl, by rw [Hand.q1, Q1.out, HBB.out]; rfl, q4.setCell (by dsimp only; omega) _⟩
end Go.Proofs.YtghiibdhibcbaaaGreatDoor.PA
namespace Go.Proofs.YtghiibdhibcbaaaGreatDoor.PA
open Go Go.RowKit Go.Proofs.YtghiibdhibcbaaaGreatDoorW.PrintWords Go.Proofs.YtghiibdhibcbaaaGreatDoorW.PrintLast Go.Proofs.YtghiibdhibcbaaaGreatDoorW.PrintMore
set_option linter.unusedSimpArgs false
set_option linter.unusedVariables false
/-- what a reader holds: the rest, is it bad -/
abbrev St := List UInt8 × Bool
/-- so many digits -/
def numS (x : St) (n : Int) : Int × St := if n < 1 ∨ (x.1.length : Int) < n then (0, x.1, true) else (vg (x.1.take n.toNat), x.1.drop n.toNat, x.2 || noD (x.1.take n.toNat))
theorem bs_data (l : List UInt8) : (bs l).data = l.toArray := rfl
theorem bs_extract (l : List UInt8) (i j : Nat) : (bs l).extract i j = bs ((l.take j).drop i) := by
  apply ByteArray.ext
  simp [bs, List.drop_take]
theorem number_any (x : St) (n : Int) (g : Nat) (w0 w : World) (n9 : n ≤ 9) (hg : w0.heap.size ≤ g) (hx : w.heap[g]? = some (scan (bs x.1) x.2)) (hB : Below w0.heap.size w0 w) :
    Calls Tryz.prog 42 #[.pointer (some ⟨g, 0, none⟩), .int .i64 n] w fun e w' => e = .returned (.int .i64 (numS x n).1) ∧ SL w0 w' g (bs (numS x n).2.1) (numS x n).2.2 := by
  obtain ⟨l, b⟩ := x
  unfold numS
  by_cases h : n < 1 ∨ (l.length : Int) < n
  · rw [if_pos h]
    exact number_short (bs l) b n g w0 w hg hx hB (by rw [bs_size]; omega)
  · rw [if_neg h]
    obtain ⟨k, rfl⟩ : ∃ k : Nat, n = k := ⟨n.toNat, by omega⟩
    have h2 := number_in (bs l) (bs (l.take k)) (bs (l.drop k)) b k g w0 w hg hx hB (by omega) (by omega) (by rw [bs_size]; omega) (by rw [bs_extract]; rfl) (by rw [bs_extract, bs_size, List.take_length]) (by rw [bs_size, List.length_take]; omega)
    rw [bs_list] at h2
    exact h2
def belS (x : St) (n most : Int) : Int × St := ((numS x n).1, (numS x n).2.1, (numS x n).2.2 || decide ((numS x n).1 ≥ most))
set_option maxHeartbeats 800000 in
set_option maxRecDepth 100000 in
theorem below_any (x : St) (n most : Int) (g : Nat) (w0 w : World) (n9 : n ≤ 9) (hg : w0.heap.size ≤ g) (hx : w.heap[g]? = some (scan (bs x.1) x.2)) (hB : Below w0.heap.size w0 w) :
    Calls Tryz.prog 41 #[.pointer (some ⟨g, 0, none⟩), .int .i64 n, .int .i64 most] w fun e w' => e = .returned (.int .i64 (belS x n most).1) ∧ SL w0 w' g (bs (belS x n most).2.1) (belS x n most).2.2 := by
  have m1 := number_any x n g w0 w n9 hg hx hB
  unfold belS
  obtain ⟨⟨v, l, b⟩, hv⟩ : ∃ v, numS x n = v := ⟨_, rfl⟩
  rw [hv] at m1 ⊢
  have M1 := Lib.hid m1
  clear m1 hv hx hB
  dsimp only at M1 ⊢
  cases b <;> by_cases hm : v ≥ most
  all_goals
    go_enter Tryz.func41, Tryz.ntmps41
    go_wp2_with fail
    with_reducible refine (M1.out).mono ?_
    rintro e w1 ⟨rfl, hx, hB⟩
    obtain ⟨c0, f0, c1, f1⟩ := Hand.hc2 hx
    have HX := Lib.hid hx
    have HB := Lib.hid hB
    clear hx hB
    go_wp2
    go_ret
    exact ⟨rfl, by rw [Hand.q1, HX.out]; simp [hm], HB.out.setCell (by dsimp only; omega) _⟩
/-- just that byte -/
def sgnS (x : St) (c : UInt8) : St := (Lib.trimPrefix x.1 [c], x.2 || !Lib.hasPrefix x.1 [c])
set_option maxHeartbeats 800000 in
set_option maxRecDepth 100000 in
theorem sign_any (x : St) (c : UInt8) (g : Nat) (w0 w : World) (hg : w0.heap.size ≤ g) (hx : w.heap[g]? = some (scan (bs x.1) x.2)) (hB : Below w0.heap.size w0 w) :
    Calls Tryz.prog 40 #[.pointer (some ⟨g, 0, none⟩), .string ⟨#[c]⟩] w fun e w' => e = .returned (.tuple #[]) ∧ SL w0 w' g (bs (sgnS x c).1) (sgnS x c).2 := by
  obtain ⟨l, b⟩ := x
  have m1 := fun w => Tryz.strings_CutPrefix (bs l) ⟨#[c]⟩ w
  rw [bs_list, show (⟨#[c]⟩ : ByteArray).data.toList = [c] from rfl] at m1
  unfold sgnS
  obtain ⟨h, hh⟩ : ∃ h, Lib.hasPrefix l [c] = h := ⟨_, rfl⟩
  obtain ⟨p, hp⟩ : ∃ p, Lib.trimPrefix l [c] = p := ⟨_, rfl⟩
  dsimp only
  rw [hh, hp] at m1 ⊢
  have M1 := Lib.hid m1
  obtain ⟨c0, f0, c1, f1⟩ := Hand.hc2 hx
  have HX := Lib.hid hx
  have HB := Lib.hid hB
  clear m1 hh hp hx hB
  dsimp only at c0 c1
  cases b <;> cases h
  all_goals
    go_enter Tryz.func40, Tryz.ntmps40
    go_wp2_with fail
    with_reducible refine (M1.out _).mono ?_
    rintro e w1 ⟨rfl, rfl⟩
    go_wp2
    go_end0
    exact ⟨rfl, by simp (disch := omega) only [Hand.q1, HX.out]; rfl, (HB.out.setCell (by dsimp only; omega) _).setCell (by dsimp only; omega) _⟩
theorem idx_lt (l : List UInt8) (c : UInt8) : -1 ≤ Lib.indexByte l c ∧ Lib.indexByte l c < l.length := by
  induction l with
  | nil => simp [Lib.indexByte]
  | cons a l ih =>
    simp only [Lib.indexByte, List.length_cons]
    split <;> (try split) <;> omega
def hrsS (x : St) (least : Int) : Int × St :=
  if Lib.indexByte x.1 58 < least ∨ Lib.indexByte x.1 58 > 3 ∨ (Lib.indexByte x.1 58 > least ∧ x.1.head? = some 48) then (0, x.1, true) else numS x (Lib.indexByte x.1 58)
set_option maxHeartbeats 800000 in
set_option maxRecDepth 100000 in
theorem hours_bad (S : ByteArray) (b : Bool) (least i u : Int) (g : Nat) (w0 w : World) (l1 : 1 ≤ least) (hg : w0.heap.size ≤ g) (hx : w.heap[g]? = some (scan S b)) (hB : Below w0.heap.size w0 w)
    (h : i < least ∨ (least ≤ i ∧ i > 3) ∨ (i ≤ 3 ∧ i > least ∧ u = 48)) (hi : i < (S.size : Int)) (hu : ∀ h : 0 < S.size, ((S[0]'h).toNat : Int) = u)
    (m1 : ∀ w, Calls Tryz.prog 70 #[.string S, .int .u8 58] w fun e w' => e = .returned (.int .i64 i) ∧ w' = w) :
    Calls Tryz.prog 39 #[.pointer (some ⟨g, 0, none⟩), .int .i64 least] w fun e w' => e = .returned (.int .i64 0) ∧ SL w0 w' g S true := by
  have M1 := Lib.hid m1
  obtain ⟨c0, f0, c1, f1⟩ := Hand.hc2 hx
  have HX := Lib.hid hx
  have HB := Lib.hid hB
  clear m1 hx hB
  have HU := Lib.hid hu
  clear hu
  rcases h with h | ⟨h1, h2⟩ | ⟨h1, h2, rfl⟩
  · clear hi
    go_enter Tryz.func39, Tryz.ntmps39
    go_wp2_with fail
    with_reducible refine (M1.out _).mono ?_
    rintro e w1 ⟨rfl, rfl⟩
    go_wp2_with fail
    go_ret
    exact ⟨rfl, by rw [Hand.q1, HX.out]; rfl, HB.out.setCell (by dsimp only; omega) _⟩
  · clear hi
    go_enter Tryz.func39, Tryz.ntmps39
    go_wp2_with fail
    with_reducible refine (M1.out _).mono ?_
    rintro e w1 ⟨rfl, rfl⟩
    go_wp2_with fail
    go_ret
    exact ⟨rfl, by rw [Hand.q1, HX.out]; rfl, HB.out.setCell (by dsimp only; omega) _⟩
  · have hp : 0 < S.size := by omega
    have hu := HU.out hp
    have hp' : (0 : Int) < (S.size : Int) := by omega
    go_enter Tryz.func39, Tryz.ntmps39
    go_wp2_with fail
    with_reducible refine (M1.out _).mono ?_
    rintro e w1 ⟨rfl, rfl⟩
    go_wp2_with fail
    go_ret
    exact ⟨rfl, by rw [Hand.q1, HX.out]; rfl, HB.out.setCell (by dsimp only; omega) _⟩
set_option maxHeartbeats 800000 in
set_option maxRecDepth 100000 in
theorem hours_ok (S S' : ByteArray) (b b' : Bool) (least i u v : Int) (g : Nat) (w0 w : World) (l1 : 1 ≤ least) (hg : w0.heap.size ≤ g) (hx : w.heap[g]? = some (scan S b)) (hB : Below w0.heap.size w0 w)
    (h1 : least ≤ i) (h2 : i ≤ 3) (h : i ≤ least ∨ (i > least ∧ (u == 48) = false)) (hi : i < (S.size : Int)) (hu : ∀ h : 0 < S.size, ((S[0]'h).toNat : Int) = u)
    (m1 : ∀ w, Calls Tryz.prog 70 #[.string S, .int .u8 58] w fun e w' => e = .returned (.int .i64 i) ∧ w' = w)
    (m2 : Calls Tryz.prog 42 #[.pointer (some ⟨g, 0, none⟩), .int .i64 i] w fun e w' => e = .returned (.int .i64 v) ∧ SL w0 w' g S' b') :
    Calls Tryz.prog 39 #[.pointer (some ⟨g, 0, none⟩), .int .i64 least] w fun e w' => e = .returned (.int .i64 v) ∧ SL w0 w' g S' b' := by
  have M1 := Lib.hid m1
  have M2 := Lib.hid m2
  obtain ⟨c0, f0, c1, f1⟩ := Hand.hc2 hx
  have hp : 0 < S.size := by omega
  have hu := hu hp
  have hp' : (0 : Int) < (S.size : Int) := by omega
  clear m1 m2 hx hB
  rcases h with h | ⟨h3, h4⟩
  all_goals
    go_enter Tryz.func39, Tryz.ntmps39
    go_wp2_with fail
    with_reducible refine (M1.out _).mono ?_
    rintro e w1 ⟨rfl, rfl⟩
    go_wp2_with fail
    with_reducible refine M2.out.mono ?_
    rintro e w1 ⟨rfl, hx1, hB1⟩
    go_wp2
    go_ret
    exact ⟨rfl, hx1, hB1⟩
theorem hours_any (x : St) (least : Int) (g : Nat) (w0 w : World) (l1 : 1 ≤ least) (hg : w0.heap.size ≤ g) (hx : w.heap[g]? = some (scan (bs x.1) x.2)) (hB : Below w0.heap.size w0 w) :
    Calls Tryz.prog 39 #[.pointer (some ⟨g, 0, none⟩), .int .i64 least] w fun e w' => e = .returned (.int .i64 (hrsS x least).1) ∧ SL w0 w' g (bs (hrsS x least).2.1) (hrsS x least).2.2 := by
  obtain ⟨l, b⟩ := x
  have hi := idx_lt l 58
  have m1 := fun w => Tryz.strings_IndexByte (bs l) 58 w
  rw [bs_list, show (58 : Int).toNat.toUInt8 = 58 from rfl] at m1
  have hu : ∃ u : Int, (∀ h : 0 < (bs l).size, (((bs l)[0]'h).toNat : Int) = u) ∧ (u = 48 ↔ l.head? = some 48) := by
    cases l with
    | nil => exact ⟨0, fun h => by rw [bs_size] at h; exact absurd h (by decide), by simp⟩
    | cons c l =>
      refine ⟨(c.toNat : Int), fun h => rfl, ?_⟩
      simp only [List.head?_cons, Option.some.injEq]
      constructor
      · intro h; exact UInt8.toNat_inj.mp (by have : (48 : UInt8).toNat = 48 := rfl; omega)
      · rintro rfl; rfl
  obtain ⟨u, hu, hu2⟩ := hu
  unfold hrsS
  by_cases h : Lib.indexByte l 58 < least ∨ Lib.indexByte l 58 > 3 ∨ (Lib.indexByte l 58 > least ∧ l.head? = some 48)
  · rw [if_pos h]
    rw [← hu2] at h
    exact hours_bad (bs l) b least _ u g w0 w l1 hg hx hB (by omega) (by rw [bs_size]; exact hi.2) hu m1
  · rw [if_neg h]
    rw [← hu2] at h
    refine hours_ok (bs l) _ b _ least _ u _ g w0 w l1 hg hx hB (by omega) (by omega) ?_ (by rw [bs_size]; exact hi.2) hu m1 (number_any (l, b) _ g w0 w (by omega) hg hx hB)
    by_cases h5 : Lib.indexByte l 58 ≤ least
    · exact .inl h5
    · exact .inr ⟨by omega, by simp; omega⟩
end Go.Proofs.YtghiibdhibcbaaaGreatDoor.PA
namespace Go.Proofs.YtghiibdhibcbaaaGreatDoor.PA
open Go
set_option linter.unusedSimpArgs false
set_option linter.unusedVariables false
/-- so many digits, and what is behind them -/
def digO (k : Nat) (l : List UInt8) : Option (Int × List UInt8) := if k ≤ l.length ∧ noD (l.take k) = false then some (vg (l.take k), l.drop k) else none
def byteO (c : UInt8) (l : List UInt8) : Option (List UInt8) := if l.head? = some c then some l.tail else none
def belO (k : Nat) (most : Int) (l : List UInt8) : Option (Int × List UInt8) := (digO k l).bind fun p => if p.1 < most then some p else none
/-- hours, from least to three digits, and a colon -/
def hcO (least : Nat) (l : List UInt8) : Option (Int × List UInt8) :=
  if (least : Int) ≤ Lib.indexByte l 58 ∧ Lib.indexByte l 58 ≤ 3 ∧ (Lib.indexByte l 58 > least → l.head? ≠ some 48) ∧ noD (l.take (Lib.indexByte l 58).toNat) = false
  then some (vg (l.take (Lib.indexByte l 58).toNat), l.drop ((Lib.indexByte l 58).toNat + 1)) else none
/-- a reader's state against what is read -/
def rel (x : St) (o : Option (List UInt8)) : Prop := match o with | some l => x = (l, false) | none => x.2 = true
def relV (y : Int × St) (o : Option (Int × List UInt8)) : Prop := match o with | some p => y = (p.1, p.2, false) | none => y.2.2 = true
theorem relV.st {y : Int × St} {o : Option (Int × List UInt8)} (h : relV y o) : rel y.2 (o.map (·.2)) := by
  cases o with
  | none => exact h
  | some p => unfold relV at h; rw [h]; rfl
theorem sgn_rel {x : St} {o : Option (List UInt8)} (c : UInt8) (h : rel x o) : rel (sgnS x c) (o.bind (byteO c)) := by
  cases o with
  | none => unfold rel at h ⊢; unfold sgnS; simp only [Option.bind_none]; rw [h]; rfl
  | some l =>
    unfold rel at h
    rw [h]
    unfold sgnS byteO Lib.trimPrefix Lib.hasPrefix
    simp only [Option.bind_some]
    cases l with
    | nil => simp [rel, List.isPrefixOf]
    | cons a t =>
      by_cases e : a = c
      · subst e; simp [rel, List.isPrefixOf]
      · have e2 : (c == a) = false := by simpa using fun h => e h.symm
        simp [rel, List.isPrefixOf, e, e2]
theorem num_rel {x : St} {o : Option (List UInt8)} (k : Nat) (k1 : 1 ≤ k) (h : rel x o) : relV (numS x k) (o.bind (digO k)) := by
  cases o with
  | none =>
    unfold rel at h
    unfold relV numS
    simp only [Option.bind_none]
    split <;> simp [h]
  | some l =>
    unfold rel at h
    rw [h]
    unfold numS digO
    simp only [Option.bind_some]
    by_cases hk : k ≤ l.length
    · rw [if_neg (show ¬ ((k : Int) < 1 ∨ (l.length : Int) < k) by omega)]
      cases hn : noD (l.take k)
      · rw [if_pos ⟨hk, rfl⟩]; simp [relV, hn]
      · rw [if_neg (by simp)]; simp [relV, hn]
    · rw [if_pos (show (k : Int) < 1 ∨ (l.length : Int) < k by omega), if_neg (fun h => hk h.1)]
      rfl
theorem bel_rel {x : St} {o : Option (List UInt8)} (k : Nat) (most : Int) (k1 : 1 ≤ k) (h : rel x o) : relV (belS x k most) (o.bind (belO k most)) := by
  have h1 := num_rel k k1 h
  unfold belS
  have e : o.bind (belO k most) = (o.bind (digO k)).bind fun p => if p.1 < most then some p else none := by
    cases o <;> rfl
  rw [e]
  cases hd : o.bind (digO k) with
  | none => rw [hd] at h1; unfold relV at h1; simp [relV, h1]
  | some p =>
    rw [hd] at h1
    unfold relV at h1
    rw [h1]
    simp only [Option.bind_some]
    by_cases hm : p.1 < most
    · rw [if_pos hm]; simp [relV]; omega
    · rw [if_neg hm]; simp [relV]; omega
theorem idx_split (l : List UInt8) (c : UInt8) (h : 0 ≤ Lib.indexByte l c) : l.drop (Lib.indexByte l c).toNat = c :: l.drop ((Lib.indexByte l c).toNat + 1) ∧ (Lib.indexByte l c).toNat < l.length := by
  have h1 := idx_lt l c
  have h2 := Lib.indexByte_some (l := l) (c := c) (o := (Lib.indexByte l c).toNat) (by omega)
  have h3 : (Lib.indexByte l c).toNat < l.length := by omega
  refine ⟨?_, h3⟩
  rw [List.drop_eq_getElem_cons h3]
  have := h2.1
  rw [List.getElem?_eq_getElem h3] at this
  rw [Option.some.inj this]
/-- hours and a colon, as code reads them -/
theorem hours_rel (l : List UInt8) (least : Nat) (l1 : 1 ≤ least) : relV ((hrsS (l, false) least).1, sgnS (hrsS (l, false) least).2 58) (hcO least l) := by
  have hi := idx_lt l 58
  unfold hrsS hcO
  dsimp only
  by_cases h : Lib.indexByte l 58 < (least : Int) ∨ Lib.indexByte l 58 > 3 ∨ (Lib.indexByte l 58 > (least : Int) ∧ l.head? = some 48)
  · rw [if_pos h, if_neg]
    · unfold relV sgnS; simp
    · rintro ⟨h1, h2, h3, _⟩
      rcases h with h | h | ⟨h, h'⟩
      · omega
      · omega
      · exact h3 h h'
  · have h1 : (least : Int) ≤ Lib.indexByte l 58 := by omega
    have h2 : Lib.indexByte l 58 ≤ 3 := by omega
    have h3 : Lib.indexByte l 58 > (least : Int) → l.head? ≠ some 48 := fun a b => h (.inr (.inr ⟨a, b⟩))
    obtain ⟨d1, d2⟩ := idx_split l 58 (by omega)
    rw [if_neg h]
    obtain ⟨i, hii⟩ : ∃ i : Nat, Lib.indexByte l 58 = i := ⟨(Lib.indexByte l 58).toNat, by omega⟩
    rw [hii] at d1 d2 h1 h2 h3 ⊢
    rw [Int.toNat_natCast] at d1 d2 ⊢
    unfold numS
    dsimp only
    rw [if_neg (show ¬ ((i : Int) < 1 ∨ (l.length : Int) < i) by omega), Int.toNat_natCast]
    cases hn : noD (l.take i)
    · rw [if_pos ⟨h1, h2, h3, rfl⟩]
      unfold sgnS relV
      dsimp only
      rw [d1]
      simp [Lib.trimPrefix, Lib.hasPrefix, List.isPrefixOf]
    · rw [if_neg (by simp)]
      unfold sgnS relV
      simp
end Go.Proofs.YtghiibdhibcbaaaGreatDoor.PA
