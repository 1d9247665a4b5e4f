/- CodeReads: a clock's text, a rate's text, as code and the reference read them. -/
import Derived.Test.YtghiibdhibcbaaaGreatDoorKn5
import Derived.Test.YtghiibdhibcbaaaGreatDoorMN
import Derived.Test.YtghiibdhibcbaaaGreatDoorM1
import Derived.Test.YtghiibdhibcbaaaGreatDoorM2
import Derived.OpenShut
namespace Go.Proofs.YtghiibdhibcbaaaGreatDoor.PA
open Go Go.RowKit Go.Proofs.YtghiibdhibcbaaaGreatDoorW.PrintWords Go.Proofs.YtghiibdhibcbaaaGreatDoorW.PrintLast Go.Proofs.YtghiibdhibcbaaaGreatDoorW.PrintMore Go.Proofs.YtghiibdhibcbaaaGreatDoor.CS
attribute [local go_sem high] eqA30 eqA23
set_option linter.unusedSimpArgs false
set_option linter.unusedVariables false
set_option maxHeartbeats 800000 in
set_option maxRecDepth 100000 in
theorem reads_of (f x y ze n d q : Int) (dr : Bool) (S : ByteArray) (w : World) (ht : TabN w)
    (m0 : ∀ w, TabN w → Calls Tryz.prog 5 #[] w fun e w' => e = .returned (.bool true) ∧ Below w.heap.size w w')
    (m1 : ∀ w, Calls Tryz.prog 13 #[.int .i64 f, .string S] w fun e w' => e = .returned (.tuple #[.agg #[.int .i64 x, .int .i64 y], .int .i64 ze]) ∧ Below w.heap.size w w')
    (m2 : ∀ w, Calls Tryz.prog 58 #[.int .i64 f, .string S] w fun e w' => e = .returned (.tuple #[.agg #[.int .i64 x, .int .i64 y], .int .i64 ze]) ∧ Below w.heap.size w w')
    (m3 : ∀ w, Calls Tryz.prog 17 #[.string S] w fun e w' => e = .returned (.tuple #[.agg #[.int .i64 n, .int .i64 d, .bool dr], .int .i64 q]) ∧ Below w.heap.size w w')
    (m4 : ∀ w, Calls Tryz.prog 59 #[.string S] w fun e w' => e = .returned (.tuple #[.agg #[.int .i64 n, .int .i64 d, .bool dr], .int .i64 q]) ∧ Below w.heap.size w w') :
    Calls Tryz.prog 30 #[.int .i64 f, .string S] w fun e w' => e = .returned (.bool true) ∧ Below w.heap.size w w' := by
  have HT0 := Lib.hid ht
  have M0 := Lib.hid m0
  have M1 := Lib.hid m1
  have M2 := Lib.hid m2
  have M3 := Lib.hid m3
  have M4 := Lib.hid m4
  clear m0 m1 m2 m3 m4 ht
  go_enter Tryz.func30, Tryz.ntmps30
  go_wp2_with fail
  with_reducible refine (M0.out _ HT0.out).mono ?_
  rintro e w1 ⟨rfl, hb1⟩
  have hB' : Below w.heap.size w w1 := Hand.stepB hb1 (by repeat (with_reducible first | apply Below.refl _ _ | apply Below.drew | apply pw_below_drewN | (apply Below.setCell; rotate_left; (dsimp only; omega)) | (apply Below.alloc; rotate_left; (first | omega | (simp only [Hand.sa, Hand.ss, Hand.sd, Hand.sn]; omega))))) (Nat.le_refl _)
  clear hb1
  have hB := hB'
  clear hB' 
  have zw : w.heap.size ≤ w1.heap.size := hB.size
  have HG := Lib.hid (hB)
  clear  hB
  go_wp2_with fail
  with_reducible refine (M1.out _).mono ?_
  rintro e w2 ⟨rfl, hb2⟩
  have hB := HG.out
  have hB' : Below w.heap.size w w2 := Hand.stepB hb2 (by repeat (with_reducible first | apply hB | apply Below.drew | apply pw_below_drewN | (apply Below.setCell; rotate_left; (dsimp only; omega)) | (apply Below.alloc; rotate_left; (first | omega | (simp only [Hand.sa, Hand.ss, Hand.sd, Hand.sn]; omega))))) (Nat.le_refl _)
  clear HG hB zw
  clear hb2
  have hB := hB'
  clear hB' 
  have zw : w.heap.size ≤ w2.heap.size := hB.size
  have HG := Lib.hid (hB)
  clear  hB
  go_wp2_with fail
  with_reducible refine (M2.out _).mono ?_
  rintro e w3 ⟨rfl, hb3⟩
  have hB := HG.out
  have h_X : w3.heap[w2.heap.size]? = some (.cells #[.int .i64 x, .int .i64 y] 30 (0, 0)) := by
    refine Hand.kb hb3 ?_; simp (disch := first | omega | (simp only [Hand.sa, Hand.ss, Hand.sd, Hand.sn]; first | done | omega)) only [Hand.q2, Hand.q1, Hand.q5, Hand.q6, Hand.q4, Hand.q3] <;> rfl
  have hB' : Below w.heap.size w w3 := Hand.stepB hb3 (by repeat (with_reducible first | apply hB | apply Below.drew | apply pw_below_drewN | (apply Below.setCell; rotate_left; (dsimp only; omega)) | (apply Below.alloc; rotate_left; (first | omega | (simp only [Hand.sa, Hand.ss, Hand.sd, Hand.sn]; omega))))) (Nat.le_refl _)
  clear HG hB zw
  clear hb3
  have g_X := h_X
  have hB := hB'
  clear hB' h_X
  obtain ⟨z_X, z1_X, z2_X, y0_X, y1_X⟩ := Hand.hz g_X
  obtain ⟨c_X_0, f_X_0, c_X_1, f_X_1⟩ := Hand.hc2 g_X
  have zw : w.heap.size ≤ w3.heap.size := hB.size
  have HG := Lib.hid (And.intro g_X (hB))
  clear g_X hB
  go_wp2_with fail
  with_reducible refine (M3.out _).mono ?_
  rintro e w4 ⟨rfl, hb4⟩
  obtain ⟨g_X, hB⟩ := HG.out
  have h_X : w4.heap[w2.heap.size]? = some (.cells #[.int .i64 x, .int .i64 y] 30 (0, 0)) := by
    refine Hand.kb hb4 ?_; first | with_reducible exact g_X | (simp (disch := first | omega | (simp only [Hand.sa, Hand.ss, Hand.sd, Hand.sn]; first | done | omega)) only [Hand.q2, Hand.q1, Hand.q5, Hand.q6, Hand.q4, Hand.q3, g_X] <;> rfl)
  have h_Y : w4.heap[w3.heap.size]? = some (.cells #[.int .i64 x, .int .i64 y] 30 (0, 0)) := by
    refine Hand.kb hb4 ?_; simp (disch := first | omega | (simp only [Hand.sa, Hand.ss, Hand.sd, Hand.sn]; first | done | omega)) only [Hand.q2, Hand.q1, Hand.q5, Hand.q6, Hand.q4, Hand.q3] <;> rfl
  have hB' : Below w.heap.size w w4 := Hand.stepB hb4 (by repeat (with_reducible first | apply hB | apply Below.drew | apply pw_below_drewN | (apply Below.setCell; rotate_left; (dsimp only; omega)) | (apply Below.alloc; rotate_left; (first | omega | (simp only [Hand.sa, Hand.ss, Hand.sd, Hand.sn]; omega))))) (Nat.le_refl _)
  clear HG hB g_X zw z_X z1_X z2_X y0_X y1_X c_X_0 f_X_0 c_X_1 f_X_1
  clear hb4
  have g_X := h_X
  have g_Y := h_Y
  have hB := hB'
  clear hB' h_X h_Y
  obtain ⟨z_X, z1_X, z2_X, y0_X, y1_X⟩ := Hand.hz g_X
  obtain ⟨c_X_0, f_X_0, c_X_1, f_X_1⟩ := Hand.hc2 g_X
  obtain ⟨z_Y, z1_Y, z2_Y, y0_Y, y1_Y⟩ := Hand.hz g_Y
  obtain ⟨c_Y_0, f_Y_0, c_Y_1, f_Y_1⟩ := Hand.hc2 g_Y
  have zw : w.heap.size ≤ w4.heap.size := hB.size
  have HG := Lib.hid (And.intro g_X (And.intro g_Y (hB)))
  clear g_X g_Y hB
  go_wp2_with fail
  with_reducible refine (M4.out _).mono ?_
  rintro e w5 ⟨rfl, hb5⟩
  obtain ⟨g_X, g_Y, hB⟩ := HG.out
  have h_X : w5.heap[w2.heap.size]? = some (.cells #[.int .i64 x, .int .i64 y] 30 (0, 0)) := by
    refine Hand.kb hb5 ?_; first | with_reducible exact g_X | (simp (disch := first | omega | (simp only [Hand.sa, Hand.ss, Hand.sd, Hand.sn]; first | done | omega)) only [Hand.q2, Hand.q1, Hand.q5, Hand.q6, Hand.q4, Hand.q3, g_X] <;> rfl)
  have h_Y : w5.heap[w3.heap.size]? = some (.cells #[.int .i64 x, .int .i64 y] 30 (0, 0)) := by
    refine Hand.kb hb5 ?_; first | with_reducible exact g_Y | (simp (disch := first | omega | (simp only [Hand.sa, Hand.ss, Hand.sd, Hand.sn]; first | done | omega)) only [Hand.q2, Hand.q1, Hand.q5, Hand.q6, Hand.q4, Hand.q3, g_Y] <;> rfl)
  have h_Z : w5.heap[w4.heap.size]? = some (.cells #[.int .i64 n, .int .i64 d, .bool dr] 23 (0, 0)) := by
    refine Hand.kb hb5 ?_; simp (disch := first | omega | (simp only [Hand.sa, Hand.ss, Hand.sd, Hand.sn]; first | done | omega)) only [Hand.q2, Hand.q1, Hand.q5, Hand.q6, Hand.q4, Hand.q3] <;> rfl
  have hB' : Below w.heap.size w w5 := Hand.stepB hb5 (by repeat (with_reducible first | apply hB | apply Below.drew | apply pw_below_drewN | (apply Below.setCell; rotate_left; (dsimp only; omega)) | (apply Below.alloc; rotate_left; (first | omega | (simp only [Hand.sa, Hand.ss, Hand.sd, Hand.sn]; omega))))) (Nat.le_refl _)
  clear HG hB g_X g_Y zw z_X z1_X z2_X y0_X y1_X c_X_0 f_X_0 c_X_1 f_X_1 z_Y z1_Y z2_Y y0_Y y1_Y c_Y_0 f_Y_0 c_Y_1 f_Y_1
  clear hb5
  have g_X := h_X
  have g_Y := h_Y
  have g_Z := h_Z
  have hB := hB'
  clear hB' h_X h_Y h_Z
  obtain ⟨z_X, z1_X, z2_X, y0_X, y1_X⟩ := Hand.hz g_X
  obtain ⟨c_X_0, f_X_0, c_X_1, f_X_1⟩ := Hand.hc2 g_X
  obtain ⟨z_Y, z1_Y, z2_Y, y0_Y, y1_Y⟩ := Hand.hz g_Y
  obtain ⟨c_Y_0, f_Y_0, c_Y_1, f_Y_1⟩ := Hand.hc2 g_Y
  obtain ⟨z_Z, z1_Z, z2_Z, y0_Z, y1_Z⟩ := Hand.hz g_Z
  obtain ⟨c_Z_0, f_Z_0, c_Z_1, f_Z_1, c_Z_2, f_Z_2⟩ := Hand.hc3 g_Z
  have zw : w.heap.size ≤ w5.heap.size := hB.size
  have HG := Lib.hid (And.intro g_X (And.intro g_Y (And.intro g_Z (hB))))
  clear g_X g_Y g_Z hB
  go_wp2
  go_ret
  obtain ⟨g_X, g_Y, g_Z, hB⟩ := HG.out
  exact ⟨by first | rfl | (simp; done) | (simp; decide) | (simp; rfl) | (simp [Lib.toList_data]; done), by first | exact hB | exact bw hB⟩
theorem reads5_true (f : Int) (S : ByteArray) (hf : (Lit.int .i64 f).wf = true) (hS : S.size ≤ maxLen) (w : World) (ht : TabN w) :
    Calls Tryz.prog 30 #[.int .i64 f, .string S] w fun e w' => e = .returned (.bool true) ∧ Below w.heap.size w w' := by
  have h63 : S.size ≤ 9223372036854775807 := hS
  have hl : S.data.toList.length ≤ 9223372036854775807 := by rw [Array.length_toList]; exact h63
  exact reads_of f _ _ _ _ _ _ _ S w ht known_any (fun w => by have := cparse_any f S.data.toList w; rwa [bs_of] at this) (rparse_any f S h63) (fun w => by have := crate_any S.data.toList hl w; rwa [bs_of] at this) (rrate_any S h63)
end Go.Proofs.YtghiibdhibcbaaaGreatDoor.PA
