/- code: scan.below, sign, hours. -/
import Derived.Test.YtghiibdhibcbaaaDoorScnA
import Derived.Deep.QuietTactic
import Derived.BigQuiet
namespace Go.Proofs.YtghiibdhibcbaaaDoor.PA
open Go Go.RowKit Go.Proofs.YtghiibdhibcbaaaDoorW.PrintWords Go.Proofs.YtghiibdhibcbaaaDoorW.PrintLast Go.Proofs.YtghiibdhibcbaaaDoorW.PrintMore
set_option linter.unusedSimpArgs false
set_option linter.unusedVariables false
/-- what a reader holds: the rest, is it bad -/
abbrev St := List UInt8 × Bool
/-- so many digits -/
def numS (x : St) (n : Int) : Int × St := if n < 1 ∨ (x.1.length : Int) < n then (0, x.1, true) else (vg (x.1.take n.toNat), x.1.drop n.toNat, x.2 || noD (x.1.take n.toNat))
theorem bs_data (l : List UInt8) : (bs l).data = l.toArray := rfl
theorem bs_extract (l : List UInt8) (i j : Nat) : (bs l).extract i j = bs ((l.take j).drop i) := by
  apply ByteArray.ext
  simp [bs, List.drop_take]
theorem number_any (x : St) (n : Int) (g : Nat) (w0 w : World) (n9 : n ≤ 9) (hg : w0.heap.size ≤ g) (hx : w.heap[g]? = some (scan (bs x.1) x.2)) (hB : Below w0.heap.size w0 w) :
    Calls Tryd.prog 73 #[.pointer (some ⟨g, 0, none⟩), .int .i64 n] w fun e w' => e = .returned (.int .i64 (numS x n).1) ∧ SL w0 w' g (bs (numS x n).2.1) (numS x n).2.2 := by
  obtain ⟨l, b⟩ := x
  unfold numS
  by_cases h : n < 1 ∨ (l.length : Int) < n
  · rw [if_pos h]
    exact number_short (bs l) b n g w0 w hg hx hB (by rw [bs_size]; omega)
  · rw [if_neg h]
    obtain ⟨k, rfl⟩ : ∃ k : Nat, n = k := ⟨n.toNat, by omega⟩
    have h2 := number_in (bs l) (bs (l.take k)) (bs (l.drop k)) b k g w0 w hg hx hB (by omega) (by omega) (by rw [bs_size]; omega) (by rw [bs_extract]; rfl) (by rw [bs_extract, bs_size, List.take_length]) (by rw [bs_size, List.length_take]; omega)
    rw [bs_list] at h2
    exact h2
def belS (x : St) (n most : Int) : Int × St := ((numS x n).1, (numS x n).2.1, (numS x n).2.2 || decide ((numS x n).1 ≥ most))
set_option maxHeartbeats 800000 in
set_option maxRecDepth 100000 in
theorem below_any (x : St) (n most : Int) (g : Nat) (w0 w : World) (n9 : n ≤ 9) (hg : w0.heap.size ≤ g) (hx : w.heap[g]? = some (scan (bs x.1) x.2)) (hB : Below w0.heap.size w0 w) :
    Calls Tryd.prog 58 #[.pointer (some ⟨g, 0, none⟩), .int .i64 n, .int .i64 most] w fun e w' => e = .returned (.int .i64 (belS x n most).1) ∧ SL w0 w' g (bs (belS x n most).2.1) (belS x n most).2.2 := by
  have m1 := number_any x n g w0 w n9 hg hx hB
  unfold belS
  obtain ⟨⟨v, l, b⟩, hv⟩ : ∃ v, numS x n = v := ⟨_, rfl⟩
  rw [hv] at m1 ⊢
  have M1 := Lib.hid m1
  clear m1 hv hx hB
  dsimp only at M1 ⊢
  cases b <;> by_cases hm : v ≥ most
  all_goals
    go_enter Tryd.func58, Tryd.ntmps58
    go_wp2_with fail
    with_reducible refine (M1.out).mono ?_
    rintro e w1 ⟨rfl, hx, hB⟩
    obtain ⟨c0, f0, c1, f1⟩ := Hand.hc2 hx
    have HX := Lib.hid hx
    have HB := Lib.hid hB
    clear hx hB
    go_wp2
    go_ret
    exact ⟨rfl, by rw [Hand.q1, HX.out]; simp [hm], HB.out.setCell (by dsimp only; omega) _⟩
/-- just that byte -/
def sgnS (x : St) (c : UInt8) : St := (Lib.trimPrefix x.1 [c], x.2 || !Lib.hasPrefix x.1 [c])
set_option maxHeartbeats 800000 in
set_option maxRecDepth 100000 in
theorem sign_any (x : St) (c : UInt8) (g : Nat) (w0 w : World) (hg : w0.heap.size ≤ g) (hx : w.heap[g]? = some (scan (bs x.1) x.2)) (hB : Below w0.heap.size w0 w) :
    Calls Tryd.prog 57 #[.pointer (some ⟨g, 0, none⟩), .string ⟨#[c]⟩] w fun e w' => e = .returned (.tuple #[]) ∧ SL w0 w' g (bs (sgnS x c).1) (sgnS x c).2 := by
  obtain ⟨l, b⟩ := x
  have m1 := fun w => Tryd.strings_CutPrefix (bs l) ⟨#[c]⟩ w
  rw [bs_list, show (⟨#[c]⟩ : ByteArray).data.toList = [c] from rfl] at m1
  unfold sgnS
  obtain ⟨h, hh⟩ : ∃ h, Lib.hasPrefix l [c] = h := ⟨_, rfl⟩
  obtain ⟨p, hp⟩ : ∃ p, Lib.trimPrefix l [c] = p := ⟨_, rfl⟩
  dsimp only
  rw [hh, hp] at m1 ⊢
  have M1 := Lib.hid m1
  obtain ⟨c0, f0, c1, f1⟩ := Hand.hc2 hx
  have HX := Lib.hid hx
  have HB := Lib.hid hB
  clear m1 hh hp hx hB
  dsimp only at c0 c1
  cases b <;> cases h
  all_goals
    go_enter Tryd.func57, Tryd.ntmps57
    go_wp2_with fail
    with_reducible refine (M1.out _).mono ?_
    rintro e w1 ⟨rfl, rfl⟩
    go_wp2
    go_end0
    exact ⟨rfl, by simp (disch := omega) only [Hand.q1, HX.out]; rfl, (HB.out.setCell (by dsimp only; omega) _).setCell (by dsimp only; omega) _⟩
theorem idx_lt (l : List UInt8) (c : UInt8) : -1 ≤ Lib.indexByte l c ∧ Lib.indexByte l c < l.length := by
  induction l with
  | nil => simp [Lib.indexByte]
  | cons a l ih =>
    simp only [Lib.indexByte, List.length_cons]
    split <;> (try split) <;> omega
def hrsS (x : St) (least : Int) : Int × St :=
  if Lib.indexByte x.1 58 < least ∨ Lib.indexByte x.1 58 > 3 ∨ (Lib.indexByte x.1 58 > least ∧ x.1.head? = some 48) then (0, x.1, true) else numS x (Lib.indexByte x.1 58)
set_option maxHeartbeats 800000 in
set_option maxRecDepth 100000 in
theorem hours_bad (S : ByteArray) (b : Bool) (least i u : Int) (g : Nat) (w0 w : World) (l1 : 1 ≤ least) (hg : w0.heap.size ≤ g) (hx : w.heap[g]? = some (scan S b)) (hB : Below w0.heap.size w0 w)
    (h : i < least ∨ (least ≤ i ∧ i > 3) ∨ (i ≤ 3 ∧ i > least ∧ u = 48)) (hi : i < (S.size : Int)) (hu : ∀ h : 0 < S.size, ((S[0]'h).toNat : Int) = u)
    (m1 : ∀ w, Calls Tryd.prog 82 #[.string S, .int .u8 58] w fun e w' => e = .returned (.int .i64 i) ∧ w' = w) :
    Calls Tryd.prog 56 #[.pointer (some ⟨g, 0, none⟩), .int .i64 least] w fun e w' => e = .returned (.int .i64 0) ∧ SL w0 w' g S true := by
  have M1 := Lib.hid m1
  obtain ⟨c0, f0, c1, f1⟩ := Hand.hc2 hx
  have HX := Lib.hid hx
  have HB := Lib.hid hB
  clear m1 hx hB
  have HU := Lib.hid hu
  clear hu
  rcases h with h | ⟨h1, h2⟩ | ⟨h1, h2, rfl⟩
  · clear hi
    go_enter Tryd.func56, Tryd.ntmps56
    go_wp2_with fail
    with_reducible refine (M1.out _).mono ?_
    rintro e w1 ⟨rfl, rfl⟩
    go_wp2_with fail
    go_ret
    exact ⟨rfl, by rw [Hand.q1, HX.out]; rfl, HB.out.setCell (by dsimp only; omega) _⟩
  · clear hi
    go_enter Tryd.func56, Tryd.ntmps56
    go_wp2_with fail
    with_reducible refine (M1.out _).mono ?_
    rintro e w1 ⟨rfl, rfl⟩
    go_wp2_with fail
    go_ret
    exact ⟨rfl, by rw [Hand.q1, HX.out]; rfl, HB.out.setCell (by dsimp only; omega) _⟩
  · have hp : 0 < S.size := by omega
    have hu := HU.out hp
    have hp' : (0 : Int) < (S.size : Int) := by omega
    go_enter Tryd.func56, Tryd.ntmps56
    go_wp2_with fail
    with_reducible refine (M1.out _).mono ?_
    rintro e w1 ⟨rfl, rfl⟩
    go_wp2_with fail
    go_ret
    exact ⟨rfl, by rw [Hand.q1, HX.out]; rfl, HB.out.setCell (by dsimp only; omega) _⟩
set_option maxHeartbeats 800000 in
set_option maxRecDepth 100000 in
theorem hours_ok (S S' : ByteArray) (b b' : Bool) (least i u v : Int) (g : Nat) (w0 w : World) (l1 : 1 ≤ least) (hg : w0.heap.size ≤ g) (hx : w.heap[g]? = some (scan S b)) (hB : Below w0.heap.size w0 w)
    (h1 : least ≤ i) (h2 : i ≤ 3) (h : i ≤ least ∨ (i > least ∧ (u == 48) = false)) (hi : i < (S.size : Int)) (hu : ∀ h : 0 < S.size, ((S[0]'h).toNat : Int) = u)
    (m1 : ∀ w, Calls Tryd.prog 82 #[.string S, .int .u8 58] w fun e w' => e = .returned (.int .i64 i) ∧ w' = w)
    (m2 : Calls Tryd.prog 73 #[.pointer (some ⟨g, 0, none⟩), .int .i64 i] w fun e w' => e = .returned (.int .i64 v) ∧ SL w0 w' g S' b') :
    Calls Tryd.prog 56 #[.pointer (some ⟨g, 0, none⟩), .int .i64 least] w fun e w' => e = .returned (.int .i64 v) ∧ SL w0 w' g S' b' := by
  have M1 := Lib.hid m1
  have M2 := Lib.hid m2
  obtain ⟨c0, f0, c1, f1⟩ := Hand.hc2 hx
  have hp : 0 < S.size := by omega
  have hu := hu hp
  have hp' : (0 : Int) < (S.size : Int) := by omega
  clear m1 m2 hx hB
  rcases h with h | ⟨h3, h4⟩
  all_goals
    go_enter Tryd.func56, Tryd.ntmps56
    go_wp2_with fail
    with_reducible refine (M1.out _).mono ?_
    rintro e w1 ⟨rfl, rfl⟩
    go_wp2_with fail
    with_reducible refine M2.out.mono ?_
    rintro e w1 ⟨rfl, hx1, hB1⟩
    go_wp2
    go_ret
    exact ⟨rfl, hx1, hB1⟩
theorem hours_any (x : St) (least : Int) (g : Nat) (w0 w : World) (l1 : 1 ≤ least) (hg : w0.heap.size ≤ g) (hx : w.heap[g]? = some (scan (bs x.1) x.2)) (hB : Below w0.heap.size w0 w) :
    Calls Tryd.prog 56 #[.pointer (some ⟨g, 0, none⟩), .int .i64 least] w fun e w' => e = .returned (.int .i64 (hrsS x least).1) ∧ SL w0 w' g (bs (hrsS x least).2.1) (hrsS x least).2.2 := by
  obtain ⟨l, b⟩ := x
  have hi := idx_lt l 58
  have m1 := fun w => Tryd.strings_IndexByte (bs l) 58 w
  rw [bs_list, show (58 : Int).toNat.toUInt8 = 58 from rfl] at m1
  have hu : ∃ u : Int, (∀ h : 0 < (bs l).size, (((bs l)[0]'h).toNat : Int) = u) ∧ (u = 48 ↔ l.head? = some 48) := by
    cases l with
    | nil => exact ⟨0, fun h => by rw [bs_size] at h; exact absurd h (by decide), by simp⟩
    | cons c l =>
      refine ⟨(c.toNat : Int), fun h => rfl, ?_⟩
      simp only [List.head?_cons, Option.some.injEq]
      constructor
      · intro h; exact UInt8.toNat_inj.mp (by have : (48 : UInt8).toNat = 48 := rfl; omega)
      · rintro rfl; rfl
  obtain ⟨u, hu, hu2⟩ := hu
  unfold hrsS
  by_cases h : Lib.indexByte l 58 < least ∨ Lib.indexByte l 58 > 3 ∨ (Lib.indexByte l 58 > least ∧ l.head? = some 48)
  · rw [if_pos h]
    rw [← hu2] at h
    exact hours_bad (bs l) b least _ u g w0 w l1 hg hx hB (by omega) (by rw [bs_size]; exact hi.2) hu m1
  · rw [if_neg h]
    rw [← hu2] at h
    refine hours_ok (bs l) _ b _ least _ u _ g w0 w l1 hg hx hB (by omega) (by omega) ?_ (by rw [bs_size]; exact hi.2) hu m1 (number_any (l, b) _ g w0 w (by omega) hg hx hB)
    by_cases h5 : Lib.indexByte l 58 ≤ least
    · exact .inl h5
    · exact .inr ⟨by omega, by simp; omega⟩
end Go.Proofs.YtghiibdhibcbaaaDoor.PA
