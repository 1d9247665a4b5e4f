/- The reference's reader: hours, sixty. -/
import Derived.Test.YtghiibdhibcbaaaDoorRdrB
namespace Go.Proofs.YtghiibdhibcbaaaDoor.PA
open Go Go.RowKit Go.Proofs.YtghiibdhibcbaaaDoorW.PrintWords Go.Proofs.YtghiibdhibcbaaaDoorW.PrintLast Go.Proofs.YtghiibdhibcbaaaDoorW.PrintMore Go.Proofs.YtghiibdhibcbaaaDoor.CS
set_option linter.unusedSimpArgs false
set_option linter.unusedVariables false
set_option maxHeartbeats 1600000 in
set_option maxRecDepth 100000 in
theorem rhours_few (S : ByteArray) (a : Nat) (b : Bool) (l : Int) (j : Nat) (g : Nat) (w0 w : World) (hg : w0.heap.size ≤ g) (hx : w.heap[g]? = some (rdr S (a : Int) b)) (hB : Below w0.heap.size w0 w) (h : (j : Int) < l)
    (m1 : Calls Tryd.prog 84 #[.pointer (some ⟨g, 0, none⟩)] w fun e w' => e = .returned (.int .i64 (j : Int)) ∧ RL w0 w' g S (a : Int) b) :
    Calls Tryd.prog 60 #[.pointer (some ⟨g, 0, none⟩), .int .i64 l] w fun e w' => e = .returned (.int .i64 0) ∧ RL w0 w' g S (a : Int) true := by
  have M1 := Lib.hid m1
  clear m1 hx hB
  go_enter Tryd.func60, Tryd.ntmps60
  go_wp2_with fail
  with_reducible refine M1.out.mono ?_
  rintro e w1 ⟨rfl, hx1, hB1⟩
  obtain ⟨c0, f0, c1, f1, c2, f2⟩ := Hand.hc3 hx1
  have HX := Lib.hid hx1
  have HB := Lib.hid hB1
  clear hx1 hB1
  have k1 : ((j : Int) < l) = True := eq_true (by omega)
  go_wp2_with fail
  go_quiet (fail)
  go_wp2_with fail
  go_ret
  exact ⟨rfl, by rw [Hand.q1, Hand.q6, HX.out]; rfl, (pw_below_drewN HB.out _).setCell (by dsimp only; omega) _⟩
set_option maxHeartbeats 1600000 in
set_option maxRecDepth 100000 in
theorem rhours_many (S : ByteArray) (a : Nat) (b : Bool) (l : Int) (j : Nat) (g : Nat) (w0 w : World) (hg : w0.heap.size ≤ g) (hx : w.heap[g]? = some (rdr S (a : Int) b)) (hB : Below w0.heap.size w0 w) (h : l ≤ (j : Int)) (h2 : 3 < j)
    (m1 : Calls Tryd.prog 84 #[.pointer (some ⟨g, 0, none⟩)] w fun e w' => e = .returned (.int .i64 (j : Int)) ∧ RL w0 w' g S (a : Int) b) :
    Calls Tryd.prog 60 #[.pointer (some ⟨g, 0, none⟩), .int .i64 l] w fun e w' => e = .returned (.int .i64 0) ∧ RL w0 w' g S (a : Int) true := by
  have M1 := Lib.hid m1
  clear m1 hx hB
  go_enter Tryd.func60, Tryd.ntmps60
  go_wp2_with fail
  with_reducible refine M1.out.mono ?_
  rintro e w1 ⟨rfl, hx1, hB1⟩
  obtain ⟨c0, f0, c1, f1, c2, f2⟩ := Hand.hc3 hx1
  have HX := Lib.hid hx1
  have HB := Lib.hid hB1
  clear hx1 hB1
  have k1 : ((j : Int) < l) = False := eq_false (by omega)
  have k2 : (3 < (j : Int)) = True := eq_true (by omega)
  have k4 : (3 < j) = True := eq_true (by omega)
  go_wp2_with fail
  go_quiet (fail)
  go_wp2_with fail
  go_ret
  exact ⟨rfl, by rw [Hand.q1, Hand.q6, HX.out]; rfl, (pw_below_drewN HB.out _).setCell (by dsimp only; omega) _⟩
set_option maxHeartbeats 1600000 in
set_option maxRecDepth 100000 in
theorem rhours_nought (S : ByteArray) (a : Nat) (b : Bool) (l : Int) (j : Nat) (u : Nat) (g : Nat) (w0 w : World) (hg : w0.heap.size ≤ g) (hx : w.heap[g]? = some (rdr S (a : Int) b)) (hB : Below w0.heap.size w0 w) (h : l ≤ (j : Int)) (h2 : j ≤ 3) (h3 : l < (j : Int)) (hp : a < S.size) (hu : (S[a]'hp).toNat = u) (h48 : u = 48)
    (m1 : Calls Tryd.prog 84 #[.pointer (some ⟨g, 0, none⟩)] w fun e w' => e = .returned (.int .i64 (j : Int)) ∧ RL w0 w' g S (a : Int) b) :
    Calls Tryd.prog 60 #[.pointer (some ⟨g, 0, none⟩), .int .i64 l] w fun e w' => e = .returned (.int .i64 0) ∧ RL w0 w' g S (a : Int) true := by
  have M1 := Lib.hid m1
  clear m1 hx hB
  go_enter Tryd.func60, Tryd.ntmps60
  go_wp2_with fail
  with_reducible refine M1.out.mono ?_
  rintro e w1 ⟨rfl, hx1, hB1⟩
  obtain ⟨c0, f0, c1, f1, c2, f2⟩ := Hand.hc3 hx1
  have HX := Lib.hid hx1
  have HB := Lib.hid hB1
  clear hx1 hB1
  have hap : a < S.size := hp
  have hu2 : ((S[a]'hp).toNat : Int) = (u : Int) := by rw [hu]
  subst h48
  have k1 : ((j : Int) < l) = False := eq_false (by omega)
  have k2 : (3 < (j : Int)) = False := eq_false (by omega)
  have k4 : (3 < j) = False := eq_false (by omega)
  have k3 : (l < (j : Int)) = True := eq_true (by omega)
  go_wp2_with fail
  go_quiet (fail)
  go_wp2_with fail
  go_ret
  exact ⟨rfl, by rw [Hand.q1, Hand.q6, HX.out]; rfl, (pw_below_drewN HB.out _).setCell (by dsimp only; omega) _⟩
set_option maxHeartbeats 1600000 in
set_option maxRecDepth 100000 in
theorem rhours_ok1 (S : ByteArray) (a : Nat) (b : Bool) (l : Int) (j : Nat) (v a' : Int) (b' : Bool) (g : Nat) (w0 w : World) (hg : w0.heap.size ≤ g) (hx : w.heap[g]? = some (rdr S (a : Int) b)) (hB : Below w0.heap.size w0 w) (h : l ≤ (j : Int)) (h2 : j ≤ 3) (h3 : (j : Int) ≤ l)
    (m1 : Calls Tryd.prog 84 #[.pointer (some ⟨g, 0, none⟩)] w fun e w' => e = .returned (.int .i64 (j : Int)) ∧ RL w0 w' g S (a : Int) b)
    (m2 : ∀ w, w.heap[g]? = some (rdr S (a : Int) b) → Below w0.heap.size w0 w → Calls Tryd.prog 63 #[.pointer (some ⟨g, 0, none⟩), .int .i64 (j : Int)] w fun e w' => e = .returned (.int .i64 v) ∧ RL w0 w' g S a' b') :
    Calls Tryd.prog 60 #[.pointer (some ⟨g, 0, none⟩), .int .i64 l] w fun e w' => e = .returned (.int .i64 v) ∧ RL w0 w' g S a' b' := by
  have M2 := Lib.hid m2
  clear m2
  have M1 := Lib.hid m1
  clear m1 hx hB
  go_enter Tryd.func60, Tryd.ntmps60
  go_wp2_with fail
  with_reducible refine M1.out.mono ?_
  rintro e w1 ⟨rfl, hx1, hB1⟩
  obtain ⟨c0, f0, c1, f1, c2, f2⟩ := Hand.hc3 hx1
  have HX := Lib.hid hx1
  have HB := Lib.hid hB1
  clear hx1 hB1
  have k1 : ((j : Int) < l) = False := eq_false (by omega)
  have k2 : (3 < (j : Int)) = False := eq_false (by omega)
  have k4 : (3 < j) = False := eq_false (by omega)
  have k3 : (l < (j : Int)) = False := eq_false (by omega)
  go_wp2_with fail
  go_quiet (fail)
  go_wp2_with fail
  with_reducible refine (M2.out _ (bk HX.out) (bw HB.out)).mono ?_
  rintro e w2 ⟨rfl, hx2, hB2⟩
  go_wp2
  go_ret
  exact ⟨rfl, hx2, hB2⟩
set_option maxHeartbeats 1600000 in
set_option maxRecDepth 100000 in
theorem rhours_ok2 (S : ByteArray) (a : Nat) (b : Bool) (l : Int) (j : Nat) (v a' : Int) (b' : Bool) (u : Nat) (g : Nat) (w0 w : World) (hg : w0.heap.size ≤ g) (hx : w.heap[g]? = some (rdr S (a : Int) b)) (hB : Below w0.heap.size w0 w) (h : l ≤ (j : Int)) (h2 : j ≤ 3) (h3 : l < (j : Int)) (hp : a < S.size) (hu : (S[a]'hp).toNat = u) (h48 : ((u : Int) == 48) = false)
    (m1 : Calls Tryd.prog 84 #[.pointer (some ⟨g, 0, none⟩)] w fun e w' => e = .returned (.int .i64 (j : Int)) ∧ RL w0 w' g S (a : Int) b)
    (m2 : ∀ w, w.heap[g]? = some (rdr S (a : Int) b) → Below w0.heap.size w0 w → Calls Tryd.prog 63 #[.pointer (some ⟨g, 0, none⟩), .int .i64 (j : Int)] w fun e w' => e = .returned (.int .i64 v) ∧ RL w0 w' g S a' b') :
    Calls Tryd.prog 60 #[.pointer (some ⟨g, 0, none⟩), .int .i64 l] w fun e w' => e = .returned (.int .i64 v) ∧ RL w0 w' g S a' b' := by
  have M2 := Lib.hid m2
  clear m2
  have M1 := Lib.hid m1
  clear m1 hx hB
  go_enter Tryd.func60, Tryd.ntmps60
  go_wp2_with fail
  with_reducible refine M1.out.mono ?_
  rintro e w1 ⟨rfl, hx1, hB1⟩
  obtain ⟨c0, f0, c1, f1, c2, f2⟩ := Hand.hc3 hx1
  have HX := Lib.hid hx1
  have HB := Lib.hid hB1
  clear hx1 hB1
  have hap : a < S.size := hp
  have hu2 : ((S[a]'hp).toNat : Int) = (u : Int) := by rw [hu]
  have k1 : ((j : Int) < l) = False := eq_false (by omega)
  have k2 : (3 < (j : Int)) = False := eq_false (by omega)
  have k4 : (3 < j) = False := eq_false (by omega)
  have k3 : (l < (j : Int)) = True := eq_true (by omega)
  go_wp2_with fail
  go_quiet (fail)
  go_wp2_with fail
  with_reducible refine (M2.out _ (bk HX.out) (bw HB.out)).mono ?_
  rintro e w2 ⟨rfl, hx2, hB2⟩
  go_wp2
  go_ret
  exact ⟨rfl, hx2, hB2⟩
set_option maxHeartbeats 1600000 in
set_option maxRecDepth 100000 in
theorem rsixty_ok (S : ByteArray) (a : Nat) (b : Bool) (v : Int) (a' : Int) (b' : Bool) (g : Nat) (w0 w : World) (hg : w0.heap.size ≤ g) (hx : w.heap[g]? = some (rdr S (a : Int) b)) (hB : Below w0.heap.size w0 w) (h : v < 60)
    (m1 : Calls Tryd.prog 63 #[.pointer (some ⟨g, 0, none⟩), .int .i64 2] w fun e w' => e = .returned (.int .i64 v) ∧ RL w0 w' g S a' b') :
    Calls Tryd.prog 62 #[.pointer (some ⟨g, 0, none⟩)] w fun e w' => e = .returned (.int .i64 v) ∧ RL w0 w' g S a' b' := by
  have M1 := Lib.hid m1
  clear m1 hx hB
  go_enter Tryd.func62, Tryd.ntmps62
  go_wp2_with fail
  with_reducible refine M1.out.mono ?_
  rintro e w1 ⟨rfl, hx1, hB1⟩
  obtain ⟨c0, f0, c1, f1, c2, f2⟩ := Hand.hc3 hx1
  have HX := Lib.hid hx1
  have HB := Lib.hid hB1
  clear hx1 hB1
  go_wp2
  go_ret
  exact ⟨rfl, HX.out, HB.out⟩
set_option maxHeartbeats 1600000 in
set_option maxRecDepth 100000 in
theorem rsixty_no (S : ByteArray) (a : Nat) (b : Bool) (v : Int) (a' : Int) (b' : Bool) (g : Nat) (w0 w : World) (hg : w0.heap.size ≤ g) (hx : w.heap[g]? = some (rdr S (a : Int) b)) (hB : Below w0.heap.size w0 w) (h : 60 ≤ v)
    (m1 : Calls Tryd.prog 63 #[.pointer (some ⟨g, 0, none⟩), .int .i64 2] w fun e w' => e = .returned (.int .i64 v) ∧ RL w0 w' g S a' b') :
    Calls Tryd.prog 62 #[.pointer (some ⟨g, 0, none⟩)] w fun e w' => e = .returned (.int .i64 v) ∧ RL w0 w' g S a' true := by
  have M1 := Lib.hid m1
  clear m1 hx hB
  go_enter Tryd.func62, Tryd.ntmps62
  go_wp2_with fail
  with_reducible refine M1.out.mono ?_
  rintro e w1 ⟨rfl, hx1, hB1⟩
  obtain ⟨c0, f0, c1, f1, c2, f2⟩ := Hand.hc3 hx1
  have HX := Lib.hid hx1
  have HB := Lib.hid hB1
  clear hx1 hB1
  go_wp2
  go_ret
  exact ⟨rfl, by rw [Hand.q1, HX.out]; rfl, HB.out.setCell (by dsimp only; omega) _⟩
end Go.Proofs.YtghiibdhibcbaaaDoor.PA
