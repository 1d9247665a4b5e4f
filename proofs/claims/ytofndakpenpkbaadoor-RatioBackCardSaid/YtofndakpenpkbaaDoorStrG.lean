/- Parse at texts that are numbers or quotients of numbers. -/
import Derived.Test.YtofndakpenpkbaaDoorStrF
namespace Go.Proofs.YtofndakpenpkbaaDoor.PA
open Go.RowKit Go.Proofs.YtofndakpenpkbaaDoorW.PrintWords Go.Proofs.YtofndakpenpkbaaDoorW.PrintLast Go.Proofs.YtofndakpenpkbaaDoorW.PrintMore
attribute [local go_sem high] eqA67
set_option linter.unusedSimpArgs false
set_option linter.unusedVariables false
set_option maxHeartbeats 8000000 in
set_option maxRecDepth 100000 in
theorem parse_np (s h T : ByteArray) (vh : Nat) (x y z : Int) (w : World)
    (m1 : ∀ w, Calls Tryd.prog 76 #[.string s, .string ⟨#[45]⟩] w fun e w' => e = .returned (.tuple #[.string h, .bool false]) ∧ Below w.heap.size w w')
    (m2 : ∀ w, Calls Tryd.prog 77 #[.string h, .string ⟨#[47]⟩] w fun e w' => e = .returned (.tuple #[.string h, .string ⟨#[]⟩, .bool false]) ∧ Below w.heap.size w w')
    (m3 : ∀ w, Calls Tryd.prog 77 #[.string h, .string ⟨#[46]⟩] w fun e w' => e = .returned (.tuple #[.string h, .string ⟨#[]⟩, .bool false]) ∧ Below w.heap.size w w')
    (ecat : h ++ (⟨#[]⟩ : ByteArray) = h)
    (m4 : ∀ w, Calls Tryd.prog 78 #[.string h, .string ⟨#[48]⟩] w fun e w' => e = .returned (.string T) ∧ Below w.heap.size w w')
    (m5 : ∀ w, Calls Tryd.prog 79 #[.string h] w fun e w' => e = .returned (.bool true) ∧ Below w.heap.size w w')
    (hs : h.size ≤ 19)
    (m7 : ∀ w, Calls Tryd.prog 81 #[.string h] w fun e w' => e = .returned (.agg #[.int .u64 (hiN vh), .int .u64 (loN vh)]) ∧ Below w.heap.size w w')
    (m11 : ∀ w, Calls Tryd.prog 51 #[.agg #[.bool false, .int .u64 (hiN vh), .int .u64 (loN vh), .int .u64 0, .int .u64 1]] w fun e w' => e = .returned (.tuple #[.agg #[.int .i64 x, .int .i64 y], .int .i64 z]) ∧ Below w.heap.size w w') :
    Calls Tryd.prog 47 #[.string s] w fun e w' => e = .returned (.tuple #[.agg #[.int .i64 x, .int .i64 y], .int .i64 z]) ∧ Below w.heap.size w w' := by
  have M1 := Lib.hid m1
  have M2 := Lib.hid m2
  have M3 := Lib.hid m3
  have M4 := Lib.hid m4
  have M5 := Lib.hid m5
  have M7 := Lib.hid m7
  have M11 := Lib.hid m11
  have M8 := Lib.hid pc61
  have hs1 : decide ((h.size : Int) > 19) = false := decide_eq_false (by omega)
  have hs2 : decide (19 < h.size) = false := decide_eq_false (by omega)
  clear m1 m2 m3 m4 m5 m7 m11
  go_enter Tryd.func47, Tryd.ntmps47
  go_wp2_with fail
  with_reducible refine (M1.out _).mono ?_
  rintro e w1 ⟨rfl, hb1⟩
  have h_R : w1.heap[w.heap.size]? = some (.cells #[.int .i64 0, .int .i64 0] 24 (0, 0)) := by
    refine Hand.kb hb1 ?_; simp (disch := first | omega | (simp only [Hand.sa, Hand.ss, Hand.sd, Hand.sn]; first | done | omega)) only [Hand.q2, Hand.q1, Hand.q5, Hand.q6, Hand.q4, Hand.q3] <;> rfl
  have hB' : Below w.heap.size w w1 := Hand.stepB hb1 (by repeat (with_reducible first | apply Below.refl _ _ | apply Below.drew | apply pw_below_drewN | (apply Below.setCell; rotate_left; (dsimp only; omega)) | (apply Below.alloc; rotate_left; (first | omega | (simp only [Hand.sa, Hand.ss, Hand.sd, Hand.sn]; omega))))) (Nat.le_refl _)
  clear hb1
  have g_R := h_R
  have hB := hB'
  clear hB' h_R
  obtain ⟨z_R, z1_R, z2_R, y0_R, y1_R⟩ := Hand.hz g_R
  obtain ⟨c_R_0, f_R_0, c_R_1, f_R_1⟩ := Hand.hc2 g_R
  have zw : w.heap.size ≤ w1.heap.size := hB.size
  have HG := Lib.hid (And.intro g_R (hB))
  clear g_R hB
  go_wp2_with fail
  with_reducible refine (M2.out _).mono ?_
  rintro e w2 ⟨rfl, hb2⟩
  obtain ⟨g_R, hB⟩ := HG.out
  have h_R : w2.heap[w.heap.size]? = some (.cells #[.int .i64 0, .int .i64 0] 24 (0, 0)) := by
    refine Hand.kb hb2 ?_; first | with_reducible exact g_R | (simp (disch := first | omega | (simp only [Hand.sa, Hand.ss, Hand.sd, Hand.sn]; first | done | omega)) only [Hand.q2, Hand.q1, Hand.q5, Hand.q6, Hand.q4, Hand.q3, g_R] <;> rfl)
  have hB' : Below w.heap.size w w2 := Hand.stepB hb2 (by repeat (with_reducible first | apply hB | apply Below.drew | apply pw_below_drewN | (apply Below.setCell; rotate_left; (dsimp only; omega)) | (apply Below.alloc; rotate_left; (first | omega | (simp only [Hand.sa, Hand.ss, Hand.sd, Hand.sn]; omega))))) (Nat.le_refl _)
  clear HG hB g_R zw z_R z1_R z2_R y0_R y1_R c_R_0 f_R_0 c_R_1 f_R_1
  clear hb2
  have g_R := h_R
  have hB := hB'
  clear hB' h_R
  obtain ⟨z_R, z1_R, z2_R, y0_R, y1_R⟩ := Hand.hz g_R
  obtain ⟨c_R_0, f_R_0, c_R_1, f_R_1⟩ := Hand.hc2 g_R
  have zw : w.heap.size ≤ w2.heap.size := hB.size
  have HG := Lib.hid (And.intro g_R (hB))
  clear g_R hB
  go_wp2_with fail
  with_reducible refine (M3.out _).mono ?_
  rintro e w3 ⟨rfl, hb3⟩
  obtain ⟨g_R, hB⟩ := HG.out
  have h_R : w3.heap[w.heap.size]? = some (.cells #[.int .i64 0, .int .i64 0] 24 (0, 0)) := by
    refine Hand.kb hb3 ?_; first | with_reducible exact g_R | (simp (disch := first | omega | (simp only [Hand.sa, Hand.ss, Hand.sd, Hand.sn]; first | done | omega)) only [Hand.q2, Hand.q1, Hand.q5, Hand.q6, Hand.q4, Hand.q3, g_R] <;> rfl)
  have hB' : Below w.heap.size w w3 := Hand.stepB hb3 (by repeat (with_reducible first | apply hB | apply Below.drew | apply pw_below_drewN | (apply Below.setCell; rotate_left; (dsimp only; omega)) | (apply Below.alloc; rotate_left; (first | omega | (simp only [Hand.sa, Hand.ss, Hand.sd, Hand.sn]; omega))))) (Nat.le_refl _)
  clear HG hB g_R zw z_R z1_R z2_R y0_R y1_R c_R_0 f_R_0 c_R_1 f_R_1
  clear hb3
  have g_R := h_R
  have hB := hB'
  clear hB' h_R
  obtain ⟨z_R, z1_R, z2_R, y0_R, y1_R⟩ := Hand.hz g_R
  obtain ⟨c_R_0, f_R_0, c_R_1, f_R_1⟩ := Hand.hc2 g_R
  have zw : w.heap.size ≤ w3.heap.size := hB.size
  have HG := Lib.hid (And.intro g_R (hB))
  clear g_R hB
  go_wp2_with fail
  with_reducible refine (M4.out _).mono ?_
  rintro e w4 ⟨rfl, hb4⟩
  obtain ⟨g_R, hB⟩ := HG.out
  have h_R : w4.heap[w.heap.size]? = some (.cells #[.int .i64 0, .int .i64 0] 24 (0, 0)) := by
    refine Hand.kb hb4 ?_; first | with_reducible exact g_R | (simp (disch := first | omega | (simp only [Hand.sa, Hand.ss, Hand.sd, Hand.sn]; first | done | omega)) only [Hand.q2, Hand.q1, Hand.q5, Hand.q6, Hand.q4, Hand.q3, g_R] <;> rfl)
  have hB' : Below w.heap.size w w4 := Hand.stepB hb4 (by repeat (with_reducible first | apply hB | apply Below.drew | apply pw_below_drewN | (apply Below.setCell; rotate_left; (dsimp only; omega)) | (apply Below.alloc; rotate_left; (first | omega | (simp only [Hand.sa, Hand.ss, Hand.sd, Hand.sn]; omega))))) (Nat.le_refl _)
  clear HG hB g_R zw z_R z1_R z2_R y0_R y1_R c_R_0 f_R_0 c_R_1 f_R_1
  clear hb4
  have g_R := h_R
  have hB := hB'
  clear hB' h_R
  obtain ⟨z_R, z1_R, z2_R, y0_R, y1_R⟩ := Hand.hz g_R
  obtain ⟨c_R_0, f_R_0, c_R_1, f_R_1⟩ := Hand.hc2 g_R
  have zw : w.heap.size ≤ w4.heap.size := hB.size
  have HG := Lib.hid (And.intro g_R (hB))
  clear g_R hB
  go_wp2_with fail
  with_reducible refine (M5.out _).mono ?_
  rintro e w5 ⟨rfl, hb5⟩
  obtain ⟨g_R, hB⟩ := HG.out
  have h_R : w5.heap[w.heap.size]? = some (.cells #[.int .i64 0, .int .i64 0] 24 (0, 0)) := by
    refine Hand.kb hb5 ?_; first | with_reducible exact g_R | (simp (disch := first | omega | (simp only [Hand.sa, Hand.ss, Hand.sd, Hand.sn]; first | done | omega)) only [Hand.q2, Hand.q1, Hand.q5, Hand.q6, Hand.q4, Hand.q3, g_R] <;> rfl)
  have hB' : Below w.heap.size w w5 := Hand.stepB hb5 (by repeat (with_reducible first | apply hB | apply Below.drew | apply pw_below_drewN | (apply Below.setCell; rotate_left; (dsimp only; omega)) | (apply Below.alloc; rotate_left; (first | omega | (simp only [Hand.sa, Hand.ss, Hand.sd, Hand.sn]; omega))))) (Nat.le_refl _)
  clear HG hB g_R zw z_R z1_R z2_R y0_R y1_R c_R_0 f_R_0 c_R_1 f_R_1
  clear hb5
  have g_R := h_R
  have hB := hB'
  clear hB' h_R
  obtain ⟨z_R, z1_R, z2_R, y0_R, y1_R⟩ := Hand.hz g_R
  obtain ⟨c_R_0, f_R_0, c_R_1, f_R_1⟩ := Hand.hc2 g_R
  have zw : w.heap.size ≤ w5.heap.size := hB.size
  have HG := Lib.hid (And.intro g_R (hB))
  clear g_R hB
  go_wp2_with fail
  with_reducible refine (M7.out _).mono ?_
  rintro e w6 ⟨rfl, hb6⟩
  obtain ⟨g_R, hB⟩ := HG.out
  have h_R : w6.heap[w.heap.size]? = some (.cells #[.int .i64 0, .int .i64 0] 24 (0, 0)) := by
    refine Hand.kb hb6 ?_; first | with_reducible exact g_R | (simp (disch := first | omega | (simp only [Hand.sa, Hand.ss, Hand.sd, Hand.sn]; first | done | omega)) only [Hand.q2, Hand.q1, Hand.q5, Hand.q6, Hand.q4, Hand.q3, g_R] <;> rfl)
  have hB' : Below w.heap.size w w6 := Hand.stepB hb6 (by repeat (with_reducible first | apply hB | apply Below.drew | apply pw_below_drewN | (apply Below.setCell; rotate_left; (dsimp only; omega)) | (apply Below.alloc; rotate_left; (first | omega | (simp only [Hand.sa, Hand.ss, Hand.sd, Hand.sn]; omega))))) (Nat.le_refl _)
  clear HG hB g_R zw z_R z1_R z2_R y0_R y1_R c_R_0 f_R_0 c_R_1 f_R_1
  clear hb6
  have g_R := h_R
  have hB := hB'
  clear hB' h_R
  obtain ⟨z_R, z1_R, z2_R, y0_R, y1_R⟩ := Hand.hz g_R
  obtain ⟨c_R_0, f_R_0, c_R_1, f_R_1⟩ := Hand.hc2 g_R
  have zw : w.heap.size ≤ w6.heap.size := hB.size
  have HG := Lib.hid (And.intro g_R (hB))
  clear g_R hB
  go_wp2_with fail
  with_reducible refine (M8.out _).mono ?_
  rintro e w7 ⟨rfl, hb7⟩
  obtain ⟨g_R, hB⟩ := HG.out
  have h_R : w7.heap[w.heap.size]? = some (.cells #[.int .i64 0, .int .i64 0] 24 (0, 0)) := by
    refine Hand.kb hb7 ?_; first | with_reducible exact g_R | (simp (disch := first | omega | (simp only [Hand.sa, Hand.ss, Hand.sd, Hand.sn]; first | done | omega)) only [Hand.q2, Hand.q1, Hand.q5, Hand.q6, Hand.q4, Hand.q3, g_R] <;> rfl)
  have hB' : Below w.heap.size w w7 := Hand.stepB hb7 (by repeat (with_reducible first | apply hB | apply Below.drew | apply pw_below_drewN | (apply Below.setCell; rotate_left; (dsimp only; omega)) | (apply Below.alloc; rotate_left; (first | omega | (simp only [Hand.sa, Hand.ss, Hand.sd, Hand.sn]; omega))))) (Nat.le_refl _)
  clear HG hB g_R zw z_R z1_R z2_R y0_R y1_R c_R_0 f_R_0 c_R_1 f_R_1
  clear hb7
  have g_R := h_R
  have hB := hB'
  clear hB' h_R
  obtain ⟨z_R, z1_R, z2_R, y0_R, y1_R⟩ := Hand.hz g_R
  obtain ⟨c_R_0, f_R_0, c_R_1, f_R_1⟩ := Hand.hc2 g_R
  have zw : w.heap.size ≤ w7.heap.size := hB.size
  have HG := Lib.hid (And.intro g_R (hB))
  clear g_R hB
  go_wp2_with fail
  obtain ⟨g_R, hB⟩ := HG.out
  have k8 : w.heap.size < w7.heap.size := z_R
  have G8 := Lib.hid (And.intro g_R (And.intro hB trivial))
  go_loopw [93] (fun _ wr => wr.heap[w.heap.size]? = some (.cells #[.int .i64 0, .int .i64 0] 24 (0, 0)) ∧ wr.heap[w7.heap.size]? = some (.cells #[.bool false, .int .u64 (hiN vh), .int .u64 (loN vh), .int .u64 0, .int .u64 1] 71 (0, 0)) ∧ wr.heap[w7.heap.size + 1]? = some (.stringIter ⟨#[]⟩ 0) ∧ Below w.heap.size w wr) (fun _ wr => 0 - posOf (wr.heap[w7.heap.size + 1]?))
  case atStart =>
    refine ⟨?_, ?_, ?_, ?_⟩
    · simp (disch := first | omega | (simp only [World.size_alloc, World.size_setCell, World.size_drew]; first | done | omega)) only [World.iter, Hand.q2, Hand.q5, Hand.q4, Hand.q3, G8.out.1]
    · simp (disch := first | omega | (simp only [World.size_alloc, World.size_setCell, World.size_drew]; first | done | omega)) only [World.iter, Hand.q1, Hand.q2, Hand.q5, Hand.q4, Hand.q3] <;> rfl
    · simp (disch := first | omega | (simp only [World.size_alloc, World.size_setCell, World.size_drew]; first | done | omega)) only [World.iter, Hand.q1, Hand.q2, Hand.q5, Hand.q4, Hand.q3]
    · unfold World.iter
      repeat (first | exact G8.out.2.1 | (with_reducible first | apply Below.drew | refine Below.setCell ?_ (by dsimp only; omega) _ | refine Below.alloc ?_ (by first | omega | (simp only [Hand.sa, Hand.ss, Hand.sd, Hand.sn]; omega)) _))
  case round =>
    obtain ⟨q_R, q_F, q_I, hB0⟩ := hrel
    clear HG G8 zw
    have hn1 := next_end Tryd.prog q_I (by decide)
    have g_R := q_R
    have g_F := q_F
    have hB := hB0
    clear q_R q_F q_I hB0
    obtain ⟨z_R, z1_R, z2_R, y0_R, y1_R⟩ := Hand.hz g_R
    obtain ⟨c_R_0, f_R_0, c_R_1, f_R_1⟩ := Hand.hc2 g_R
    obtain ⟨z_F, z1_F, z2_F, y0_F, y1_F⟩ := Hand.hz g_F
    obtain ⟨c_F_0, f_F_0, c_F_1, f_F_1, c_F_2, f_F_2, c_F_3, f_F_3, c_F_4, f_F_4⟩ := Hand.hc5 g_F
    have zw : w.heap.size ≤ wr.heap.size := hB.size
    have HG := Lib.hid (And.intro g_R (And.intro g_F (hB)))
    clear g_R g_F hB
    go_wp2_with fail
    with_reducible refine (M11.out _).mono ?_
    rintro e w20 ⟨rfl, hb20⟩
    obtain ⟨g_R, g_F, hB⟩ := HG.out
    have h_R : w20.heap[w.heap.size]? = some (.cells #[.int .i64 0, .int .i64 0] 24 (0, 0)) := by
      refine Hand.kb hb20 ?_; first | with_reducible exact g_R | (simp (disch := first | omega | (simp only [Hand.sa, Hand.ss, Hand.sd, Hand.sn]; first | done | omega)) only [Hand.q2, Hand.q1, Hand.q5, Hand.q6, Hand.q4, Hand.q3, g_R] <;> rfl)
    have h_F : w20.heap[w7.heap.size]? = some (.cells #[.bool false, .int .u64 (hiN vh), .int .u64 (loN vh), .int .u64 0, .int .u64 1] 71 (0, 0)) := by
      refine Hand.kb hb20 ?_; first | with_reducible exact g_F | (simp (disch := first | omega | (simp only [Hand.sa, Hand.ss, Hand.sd, Hand.sn]; first | done | omega)) only [Hand.q2, Hand.q1, Hand.q5, Hand.q6, Hand.q4, Hand.q3, g_F] <;> rfl)
    have hB' : Below w.heap.size w w20 := Hand.stepB hb20 (by repeat (with_reducible first | apply hB | apply Below.drew | apply pw_below_drewN | (apply Below.setCell; rotate_left; (dsimp only; omega)) | (apply Below.alloc; rotate_left; (first | omega | (simp only [Hand.sa, Hand.ss, Hand.sd, Hand.sn]; omega))))) (Nat.le_refl _)
    clear HG hB g_R g_F zw z_R z1_R z2_R y0_R y1_R c_R_0 f_R_0 c_R_1 f_R_1 z_F z1_F z2_F y0_F y1_F c_F_0 f_F_0 c_F_1 f_F_1 c_F_2 f_F_2 c_F_3 f_F_3 c_F_4 f_F_4
    clear hb20
    have g_R := h_R
    have g_F := h_F
    have hB := hB'
    clear hB' h_R h_F
    obtain ⟨z_R, z1_R, z2_R, y0_R, y1_R⟩ := Hand.hz g_R
    obtain ⟨c_R_0, f_R_0, c_R_1, f_R_1⟩ := Hand.hc2 g_R
    obtain ⟨z_F, z1_F, z2_F, y0_F, y1_F⟩ := Hand.hz g_F
    obtain ⟨c_F_0, f_F_0, c_F_1, f_F_1, c_F_2, f_F_2, c_F_3, f_F_3, c_F_4, f_F_4⟩ := Hand.hc5 g_F
    have zw : w.heap.size ≤ w20.heap.size := hB.size
    have HG := Lib.hid (And.intro g_R (And.intro g_F (hB)))
    clear g_R g_F hB
    go_wp2
    obtain ⟨g_R, g_F, hB⟩ := HG.out
    refine bodyPost_ret (results_ct rfl _ _ (w.heap.size) 24 #[.int .i64 x, .int .i64 y] (0, 0) _ rfl ?_ Tryd.underlying24 rfl (by kernel_rfl)) rfl ⟨rfl, ?_⟩
    · simp (disch := omega) only [Hand.q1, g_R]; rfl
    · exact (hB.setCell (by dsimp only; omega) _).setCell (by dsimp only; omega) _
set_option maxHeartbeats 8000000 in
set_option maxRecDepth 100000 in
theorem parse_nm (s h T : ByteArray) (vh : Nat) (x y z : Int) (w : World)
    (m1 : ∀ w, Calls Tryd.prog 76 #[.string s, .string ⟨#[45]⟩] w fun e w' => e = .returned (.tuple #[.string h, .bool true]) ∧ Below w.heap.size w w')
    (m2 : ∀ w, Calls Tryd.prog 77 #[.string h, .string ⟨#[47]⟩] w fun e w' => e = .returned (.tuple #[.string h, .string ⟨#[]⟩, .bool false]) ∧ Below w.heap.size w w')
    (m3 : ∀ w, Calls Tryd.prog 77 #[.string h, .string ⟨#[46]⟩] w fun e w' => e = .returned (.tuple #[.string h, .string ⟨#[]⟩, .bool false]) ∧ Below w.heap.size w w')
    (ecat : h ++ (⟨#[]⟩ : ByteArray) = h)
    (m4 : ∀ w, Calls Tryd.prog 78 #[.string h, .string ⟨#[48]⟩] w fun e w' => e = .returned (.string T) ∧ Below w.heap.size w w')
    (m5 : ∀ w, Calls Tryd.prog 79 #[.string h] w fun e w' => e = .returned (.bool true) ∧ Below w.heap.size w w')
    (ht : T.toList.isEmpty = false)
    (hs : h.size ≤ 19)
    (m7 : ∀ w, Calls Tryd.prog 81 #[.string h] w fun e w' => e = .returned (.agg #[.int .u64 (hiN vh), .int .u64 (loN vh)]) ∧ Below w.heap.size w w')
    (m11 : ∀ w, Calls Tryd.prog 51 #[.agg #[.bool true, .int .u64 (hiN vh), .int .u64 (loN vh), .int .u64 0, .int .u64 1]] w fun e w' => e = .returned (.tuple #[.agg #[.int .i64 x, .int .i64 y], .int .i64 z]) ∧ Below w.heap.size w w') :
    Calls Tryd.prog 47 #[.string s] w fun e w' => e = .returned (.tuple #[.agg #[.int .i64 x, .int .i64 y], .int .i64 z]) ∧ Below w.heap.size w w' := by
  have M1 := Lib.hid m1
  have M2 := Lib.hid m2
  have M3 := Lib.hid m3
  have M4 := Lib.hid m4
  have M5 := Lib.hid m5
  have M7 := Lib.hid m7
  have M11 := Lib.hid m11
  have M8 := Lib.hid pc61
  have ht1 : ¬ T.toList = [] := by intro e; rw [e] at ht; exact absurd ht (by decide)
  have hs1 : decide ((h.size : Int) > 19) = false := decide_eq_false (by omega)
  have hs2 : decide (19 < h.size) = false := decide_eq_false (by omega)
  clear m1 m2 m3 m4 m5 m7 m11
  go_enter Tryd.func47, Tryd.ntmps47
  go_wp2_with fail
  with_reducible refine (M1.out _).mono ?_
  rintro e w1 ⟨rfl, hb1⟩
  have h_R : w1.heap[w.heap.size]? = some (.cells #[.int .i64 0, .int .i64 0] 24 (0, 0)) := by
    refine Hand.kb hb1 ?_; simp (disch := first | omega | (simp only [Hand.sa, Hand.ss, Hand.sd, Hand.sn]; first | done | omega)) only [Hand.q2, Hand.q1, Hand.q5, Hand.q6, Hand.q4, Hand.q3] <;> rfl
  have hB' : Below w.heap.size w w1 := Hand.stepB hb1 (by repeat (with_reducible first | apply Below.refl _ _ | apply Below.drew | apply pw_below_drewN | (apply Below.setCell; rotate_left; (dsimp only; omega)) | (apply Below.alloc; rotate_left; (first | omega | (simp only [Hand.sa, Hand.ss, Hand.sd, Hand.sn]; omega))))) (Nat.le_refl _)
  clear hb1
  have g_R := h_R
  have hB := hB'
  clear hB' h_R
  obtain ⟨z_R, z1_R, z2_R, y0_R, y1_R⟩ := Hand.hz g_R
  obtain ⟨c_R_0, f_R_0, c_R_1, f_R_1⟩ := Hand.hc2 g_R
  have zw : w.heap.size ≤ w1.heap.size := hB.size
  have HG := Lib.hid (And.intro g_R (hB))
  clear g_R hB
  go_wp2_with fail
  with_reducible refine (M2.out _).mono ?_
  rintro e w2 ⟨rfl, hb2⟩
  obtain ⟨g_R, hB⟩ := HG.out
  have h_R : w2.heap[w.heap.size]? = some (.cells #[.int .i64 0, .int .i64 0] 24 (0, 0)) := by
    refine Hand.kb hb2 ?_; first | with_reducible exact g_R | (simp (disch := first | omega | (simp only [Hand.sa, Hand.ss, Hand.sd, Hand.sn]; first | done | omega)) only [Hand.q2, Hand.q1, Hand.q5, Hand.q6, Hand.q4, Hand.q3, g_R] <;> rfl)
  have hB' : Below w.heap.size w w2 := Hand.stepB hb2 (by repeat (with_reducible first | apply hB | apply Below.drew | apply pw_below_drewN | (apply Below.setCell; rotate_left; (dsimp only; omega)) | (apply Below.alloc; rotate_left; (first | omega | (simp only [Hand.sa, Hand.ss, Hand.sd, Hand.sn]; omega))))) (Nat.le_refl _)
  clear HG hB g_R zw z_R z1_R z2_R y0_R y1_R c_R_0 f_R_0 c_R_1 f_R_1
  clear hb2
  have g_R := h_R
  have hB := hB'
  clear hB' h_R
  obtain ⟨z_R, z1_R, z2_R, y0_R, y1_R⟩ := Hand.hz g_R
  obtain ⟨c_R_0, f_R_0, c_R_1, f_R_1⟩ := Hand.hc2 g_R
  have zw : w.heap.size ≤ w2.heap.size := hB.size
  have HG := Lib.hid (And.intro g_R (hB))
  clear g_R hB
  go_wp2_with fail
  with_reducible refine (M3.out _).mono ?_
  rintro e w3 ⟨rfl, hb3⟩
  obtain ⟨g_R, hB⟩ := HG.out
  have h_R : w3.heap[w.heap.size]? = some (.cells #[.int .i64 0, .int .i64 0] 24 (0, 0)) := by
    refine Hand.kb hb3 ?_; first | with_reducible exact g_R | (simp (disch := first | omega | (simp only [Hand.sa, Hand.ss, Hand.sd, Hand.sn]; first | done | omega)) only [Hand.q2, Hand.q1, Hand.q5, Hand.q6, Hand.q4, Hand.q3, g_R] <;> rfl)
  have hB' : Below w.heap.size w w3 := Hand.stepB hb3 (by repeat (with_reducible first | apply hB | apply Below.drew | apply pw_below_drewN | (apply Below.setCell; rotate_left; (dsimp only; omega)) | (apply Below.alloc; rotate_left; (first | omega | (simp only [Hand.sa, Hand.ss, Hand.sd, Hand.sn]; omega))))) (Nat.le_refl _)
  clear HG hB g_R zw z_R z1_R z2_R y0_R y1_R c_R_0 f_R_0 c_R_1 f_R_1
  clear hb3
  have g_R := h_R
  have hB := hB'
  clear hB' h_R
  obtain ⟨z_R, z1_R, z2_R, y0_R, y1_R⟩ := Hand.hz g_R
  obtain ⟨c_R_0, f_R_0, c_R_1, f_R_1⟩ := Hand.hc2 g_R
  have zw : w.heap.size ≤ w3.heap.size := hB.size
  have HG := Lib.hid (And.intro g_R (hB))
  clear g_R hB
  go_wp2_with fail
  with_reducible refine (M4.out _).mono ?_
  rintro e w4 ⟨rfl, hb4⟩
  obtain ⟨g_R, hB⟩ := HG.out
  have h_R : w4.heap[w.heap.size]? = some (.cells #[.int .i64 0, .int .i64 0] 24 (0, 0)) := by
    refine Hand.kb hb4 ?_; first | with_reducible exact g_R | (simp (disch := first | omega | (simp only [Hand.sa, Hand.ss, Hand.sd, Hand.sn]; first | done | omega)) only [Hand.q2, Hand.q1, Hand.q5, Hand.q6, Hand.q4, Hand.q3, g_R] <;> rfl)
  have hB' : Below w.heap.size w w4 := Hand.stepB hb4 (by repeat (with_reducible first | apply hB | apply Below.drew | apply pw_below_drewN | (apply Below.setCell; rotate_left; (dsimp only; omega)) | (apply Below.alloc; rotate_left; (first | omega | (simp only [Hand.sa, Hand.ss, Hand.sd, Hand.sn]; omega))))) (Nat.le_refl _)
  clear HG hB g_R zw z_R z1_R z2_R y0_R y1_R c_R_0 f_R_0 c_R_1 f_R_1
  clear hb4
  have g_R := h_R
  have hB := hB'
  clear hB' h_R
  obtain ⟨z_R, z1_R, z2_R, y0_R, y1_R⟩ := Hand.hz g_R
  obtain ⟨c_R_0, f_R_0, c_R_1, f_R_1⟩ := Hand.hc2 g_R
  have zw : w.heap.size ≤ w4.heap.size := hB.size
  have HG := Lib.hid (And.intro g_R (hB))
  clear g_R hB
  go_wp2_with fail
  with_reducible refine (M5.out _).mono ?_
  rintro e w5 ⟨rfl, hb5⟩
  obtain ⟨g_R, hB⟩ := HG.out
  have h_R : w5.heap[w.heap.size]? = some (.cells #[.int .i64 0, .int .i64 0] 24 (0, 0)) := by
    refine Hand.kb hb5 ?_; first | with_reducible exact g_R | (simp (disch := first | omega | (simp only [Hand.sa, Hand.ss, Hand.sd, Hand.sn]; first | done | omega)) only [Hand.q2, Hand.q1, Hand.q5, Hand.q6, Hand.q4, Hand.q3, g_R] <;> rfl)
  have hB' : Below w.heap.size w w5 := Hand.stepB hb5 (by repeat (with_reducible first | apply hB | apply Below.drew | apply pw_below_drewN | (apply Below.setCell; rotate_left; (dsimp only; omega)) | (apply Below.alloc; rotate_left; (first | omega | (simp only [Hand.sa, Hand.ss, Hand.sd, Hand.sn]; omega))))) (Nat.le_refl _)
  clear HG hB g_R zw z_R z1_R z2_R y0_R y1_R c_R_0 f_R_0 c_R_1 f_R_1
  clear hb5
  have g_R := h_R
  have hB := hB'
  clear hB' h_R
  obtain ⟨z_R, z1_R, z2_R, y0_R, y1_R⟩ := Hand.hz g_R
  obtain ⟨c_R_0, f_R_0, c_R_1, f_R_1⟩ := Hand.hc2 g_R
  have zw : w.heap.size ≤ w5.heap.size := hB.size
  have HG := Lib.hid (And.intro g_R (hB))
  clear g_R hB
  go_wp2_with fail
  with_reducible refine (M7.out _).mono ?_
  rintro e w6 ⟨rfl, hb6⟩
  obtain ⟨g_R, hB⟩ := HG.out
  have h_R : w6.heap[w.heap.size]? = some (.cells #[.int .i64 0, .int .i64 0] 24 (0, 0)) := by
    refine Hand.kb hb6 ?_; first | with_reducible exact g_R | (simp (disch := first | omega | (simp only [Hand.sa, Hand.ss, Hand.sd, Hand.sn]; first | done | omega)) only [Hand.q2, Hand.q1, Hand.q5, Hand.q6, Hand.q4, Hand.q3, g_R] <;> rfl)
  have hB' : Below w.heap.size w w6 := Hand.stepB hb6 (by repeat (with_reducible first | apply hB | apply Below.drew | apply pw_below_drewN | (apply Below.setCell; rotate_left; (dsimp only; omega)) | (apply Below.alloc; rotate_left; (first | omega | (simp only [Hand.sa, Hand.ss, Hand.sd, Hand.sn]; omega))))) (Nat.le_refl _)
  clear HG hB g_R zw z_R z1_R z2_R y0_R y1_R c_R_0 f_R_0 c_R_1 f_R_1
  clear hb6
  have g_R := h_R
  have hB := hB'
  clear hB' h_R
  obtain ⟨z_R, z1_R, z2_R, y0_R, y1_R⟩ := Hand.hz g_R
  obtain ⟨c_R_0, f_R_0, c_R_1, f_R_1⟩ := Hand.hc2 g_R
  have zw : w.heap.size ≤ w6.heap.size := hB.size
  have HG := Lib.hid (And.intro g_R (hB))
  clear g_R hB
  go_wp2_with fail
  with_reducible refine (M8.out _).mono ?_
  rintro e w7 ⟨rfl, hb7⟩
  obtain ⟨g_R, hB⟩ := HG.out
  have h_R : w7.heap[w.heap.size]? = some (.cells #[.int .i64 0, .int .i64 0] 24 (0, 0)) := by
    refine Hand.kb hb7 ?_; first | with_reducible exact g_R | (simp (disch := first | omega | (simp only [Hand.sa, Hand.ss, Hand.sd, Hand.sn]; first | done | omega)) only [Hand.q2, Hand.q1, Hand.q5, Hand.q6, Hand.q4, Hand.q3, g_R] <;> rfl)
  have hB' : Below w.heap.size w w7 := Hand.stepB hb7 (by repeat (with_reducible first | apply hB | apply Below.drew | apply pw_below_drewN | (apply Below.setCell; rotate_left; (dsimp only; omega)) | (apply Below.alloc; rotate_left; (first | omega | (simp only [Hand.sa, Hand.ss, Hand.sd, Hand.sn]; omega))))) (Nat.le_refl _)
  clear HG hB g_R zw z_R z1_R z2_R y0_R y1_R c_R_0 f_R_0 c_R_1 f_R_1
  clear hb7
  have g_R := h_R
  have hB := hB'
  clear hB' h_R
  obtain ⟨z_R, z1_R, z2_R, y0_R, y1_R⟩ := Hand.hz g_R
  obtain ⟨c_R_0, f_R_0, c_R_1, f_R_1⟩ := Hand.hc2 g_R
  have zw : w.heap.size ≤ w7.heap.size := hB.size
  have HG := Lib.hid (And.intro g_R (hB))
  clear g_R hB
  go_wp2_with fail
  obtain ⟨g_R, hB⟩ := HG.out
  have k8 : w.heap.size < w7.heap.size := z_R
  have G8 := Lib.hid (And.intro g_R (And.intro hB trivial))
  go_loopw [93] (fun _ wr => wr.heap[w.heap.size]? = some (.cells #[.int .i64 0, .int .i64 0] 24 (0, 0)) ∧ wr.heap[w7.heap.size]? = some (.cells #[.bool true, .int .u64 (hiN vh), .int .u64 (loN vh), .int .u64 0, .int .u64 1] 71 (0, 0)) ∧ wr.heap[w7.heap.size + 1]? = some (.stringIter ⟨#[]⟩ 0) ∧ Below w.heap.size w wr) (fun _ wr => 0 - posOf (wr.heap[w7.heap.size + 1]?))
  case atStart =>
    refine ⟨?_, ?_, ?_, ?_⟩
    · simp (disch := first | omega | (simp only [World.size_alloc, World.size_setCell, World.size_drew]; first | done | omega)) only [World.iter, Hand.q2, Hand.q5, Hand.q4, Hand.q3, G8.out.1]
    · simp (disch := first | omega | (simp only [World.size_alloc, World.size_setCell, World.size_drew]; first | done | omega)) only [World.iter, Hand.q1, Hand.q2, Hand.q5, Hand.q4, Hand.q3] <;> rfl
    · simp (disch := first | omega | (simp only [World.size_alloc, World.size_setCell, World.size_drew]; first | done | omega)) only [World.iter, Hand.q1, Hand.q2, Hand.q5, Hand.q4, Hand.q3]
    · unfold World.iter
      repeat (first | exact G8.out.2.1 | (with_reducible first | apply Below.drew | refine Below.setCell ?_ (by dsimp only; omega) _ | refine Below.alloc ?_ (by first | omega | (simp only [Hand.sa, Hand.ss, Hand.sd, Hand.sn]; omega)) _))
  case round =>
    obtain ⟨q_R, q_F, q_I, hB0⟩ := hrel
    clear HG G8 zw
    have hn1 := next_end Tryd.prog q_I (by decide)
    have g_R := q_R
    have g_F := q_F
    have hB := hB0
    clear q_R q_F q_I hB0
    obtain ⟨z_R, z1_R, z2_R, y0_R, y1_R⟩ := Hand.hz g_R
    obtain ⟨c_R_0, f_R_0, c_R_1, f_R_1⟩ := Hand.hc2 g_R
    obtain ⟨z_F, z1_F, z2_F, y0_F, y1_F⟩ := Hand.hz g_F
    obtain ⟨c_F_0, f_F_0, c_F_1, f_F_1, c_F_2, f_F_2, c_F_3, f_F_3, c_F_4, f_F_4⟩ := Hand.hc5 g_F
    have zw : w.heap.size ≤ wr.heap.size := hB.size
    have HG := Lib.hid (And.intro g_R (And.intro g_F (hB)))
    clear g_R g_F hB
    go_wp2_with fail
    with_reducible refine (M11.out _).mono ?_
    rintro e w20 ⟨rfl, hb20⟩
    obtain ⟨g_R, g_F, hB⟩ := HG.out
    have h_R : w20.heap[w.heap.size]? = some (.cells #[.int .i64 0, .int .i64 0] 24 (0, 0)) := by
      refine Hand.kb hb20 ?_; first | with_reducible exact g_R | (simp (disch := first | omega | (simp only [Hand.sa, Hand.ss, Hand.sd, Hand.sn]; first | done | omega)) only [Hand.q2, Hand.q1, Hand.q5, Hand.q6, Hand.q4, Hand.q3, g_R] <;> rfl)
    have h_F : w20.heap[w7.heap.size]? = some (.cells #[.bool true, .int .u64 (hiN vh), .int .u64 (loN vh), .int .u64 0, .int .u64 1] 71 (0, 0)) := by
      refine Hand.kb hb20 ?_; first | with_reducible exact g_F | (simp (disch := first | omega | (simp only [Hand.sa, Hand.ss, Hand.sd, Hand.sn]; first | done | omega)) only [Hand.q2, Hand.q1, Hand.q5, Hand.q6, Hand.q4, Hand.q3, g_F] <;> rfl)
    have hB' : Below w.heap.size w w20 := Hand.stepB hb20 (by repeat (with_reducible first | apply hB | apply Below.drew | apply pw_below_drewN | (apply Below.setCell; rotate_left; (dsimp only; omega)) | (apply Below.alloc; rotate_left; (first | omega | (simp only [Hand.sa, Hand.ss, Hand.sd, Hand.sn]; omega))))) (Nat.le_refl _)
    clear HG hB g_R g_F zw z_R z1_R z2_R y0_R y1_R c_R_0 f_R_0 c_R_1 f_R_1 z_F z1_F z2_F y0_F y1_F c_F_0 f_F_0 c_F_1 f_F_1 c_F_2 f_F_2 c_F_3 f_F_3 c_F_4 f_F_4
    clear hb20
    have g_R := h_R
    have g_F := h_F
    have hB := hB'
    clear hB' h_R h_F
    obtain ⟨z_R, z1_R, z2_R, y0_R, y1_R⟩ := Hand.hz g_R
    obtain ⟨c_R_0, f_R_0, c_R_1, f_R_1⟩ := Hand.hc2 g_R
    obtain ⟨z_F, z1_F, z2_F, y0_F, y1_F⟩ := Hand.hz g_F
    obtain ⟨c_F_0, f_F_0, c_F_1, f_F_1, c_F_2, f_F_2, c_F_3, f_F_3, c_F_4, f_F_4⟩ := Hand.hc5 g_F
    have zw : w.heap.size ≤ w20.heap.size := hB.size
    have HG := Lib.hid (And.intro g_R (And.intro g_F (hB)))
    clear g_R g_F hB
    go_wp2
    obtain ⟨g_R, g_F, hB⟩ := HG.out
    refine bodyPost_ret (results_ct rfl _ _ (w.heap.size) 24 #[.int .i64 x, .int .i64 y] (0, 0) _ rfl ?_ Tryd.underlying24 rfl (by kernel_rfl)) rfl ⟨rfl, ?_⟩
    · simp (disch := omega) only [Hand.q1, g_R]; rfl
    · exact (hB.setCell (by dsimp only; omega) _).setCell (by dsimp only; omega) _
set_option maxHeartbeats 8000000 in
set_option maxRecDepth 100000 in
theorem parse_qp (s h T u q : ByteArray) (vh vd : Nat) (x y z : Int) (w : World)
    (m1 : ∀ w, Calls Tryd.prog 76 #[.string s, .string ⟨#[45]⟩] w fun e w' => e = .returned (.tuple #[.string u, .bool false]) ∧ Below w.heap.size w w')
    (m2 : ∀ w, Calls Tryd.prog 77 #[.string u, .string ⟨#[47]⟩] w fun e w' => e = .returned (.tuple #[.string h, .string q, .bool true]) ∧ Below w.heap.size w w')
    (m3 : ∀ w, Calls Tryd.prog 77 #[.string h, .string ⟨#[46]⟩] w fun e w' => e = .returned (.tuple #[.string h, .string ⟨#[]⟩, .bool false]) ∧ Below w.heap.size w w')
    (ecat : h ++ (⟨#[]⟩ : ByteArray) = h)
    (m4 : ∀ w, Calls Tryd.prog 78 #[.string h, .string ⟨#[48]⟩] w fun e w' => e = .returned (.string T) ∧ Below w.heap.size w w')
    (m5 : ∀ w, Calls Tryd.prog 79 #[.string h] w fun e w' => e = .returned (.bool true) ∧ Below w.heap.size w w')
    (m6 : ∀ w, Calls Tryd.prog 79 #[.string q] w fun e w' => e = .returned (.bool true) ∧ Below w.heap.size w w')
    (hs : h.size ≤ 19) (hq : q.size ≤ 19) (hz : (hiN vd == 0 && loN vd == 0) = false)
    (m7 : ∀ w, Calls Tryd.prog 81 #[.string h] w fun e w' => e = .returned (.agg #[.int .u64 (hiN vh), .int .u64 (loN vh)]) ∧ Below w.heap.size w w')
    (m9 : ∀ w, Calls Tryd.prog 81 #[.string q] w fun e w' => e = .returned (.agg #[.int .u64 (hiN vd), .int .u64 (loN vd)]) ∧ Below w.heap.size w w')
    (m11 : ∀ w, Calls Tryd.prog 51 #[.agg #[.bool false, .int .u64 (hiN vh), .int .u64 (loN vh), .int .u64 (hiN vd), .int .u64 (loN vd)]] w fun e w' => e = .returned (.tuple #[.agg #[.int .i64 x, .int .i64 y], .int .i64 z]) ∧ Below w.heap.size w w') :
    Calls Tryd.prog 47 #[.string s] w fun e w' => e = .returned (.tuple #[.agg #[.int .i64 x, .int .i64 y], .int .i64 z]) ∧ Below w.heap.size w w' := by
  have M1 := Lib.hid m1
  have M2 := Lib.hid m2
  have M3 := Lib.hid m3
  have M4 := Lib.hid m4
  have M5 := Lib.hid m5
  have M7 := Lib.hid m7
  have M11 := Lib.hid m11
  have M6 := Lib.hid m6
  have M9 := Lib.hid m9
  have M8 := Lib.hid pc61
  have hs1 : decide ((h.size : Int) > 19) = false := decide_eq_false (by omega)
  have hs2 : decide (19 < h.size) = false := decide_eq_false (by omega)
  have hq1 : decide ((q.size : Int) > 19) = false := decide_eq_false (by omega)
  have hq2 : decide (19 < q.size) = false := decide_eq_false (by omega)
  clear m1 m2 m3 m4 m5 m7 m11 m6 m9
  go_enter Tryd.func47, Tryd.ntmps47
  go_wp2_with fail
  with_reducible refine (M1.out _).mono ?_
  rintro e w1 ⟨rfl, hb1⟩
  have h_R : w1.heap[w.heap.size]? = some (.cells #[.int .i64 0, .int .i64 0] 24 (0, 0)) := by
    refine Hand.kb hb1 ?_; simp (disch := first | omega | (simp only [Hand.sa, Hand.ss, Hand.sd, Hand.sn]; first | done | omega)) only [Hand.q2, Hand.q1, Hand.q5, Hand.q6, Hand.q4, Hand.q3] <;> rfl
  have hB' : Below w.heap.size w w1 := Hand.stepB hb1 (by repeat (with_reducible first | apply Below.refl _ _ | apply Below.drew | apply pw_below_drewN | (apply Below.setCell; rotate_left; (dsimp only; omega)) | (apply Below.alloc; rotate_left; (first | omega | (simp only [Hand.sa, Hand.ss, Hand.sd, Hand.sn]; omega))))) (Nat.le_refl _)
  clear hb1
  have g_R := h_R
  have hB := hB'
  clear hB' h_R
  obtain ⟨z_R, z1_R, z2_R, y0_R, y1_R⟩ := Hand.hz g_R
  obtain ⟨c_R_0, f_R_0, c_R_1, f_R_1⟩ := Hand.hc2 g_R
  have zw : w.heap.size ≤ w1.heap.size := hB.size
  have HG := Lib.hid (And.intro g_R (hB))
  clear g_R hB
  go_wp2_with fail
  with_reducible refine (M2.out _).mono ?_
  rintro e w2 ⟨rfl, hb2⟩
  obtain ⟨g_R, hB⟩ := HG.out
  have h_R : w2.heap[w.heap.size]? = some (.cells #[.int .i64 0, .int .i64 0] 24 (0, 0)) := by
    refine Hand.kb hb2 ?_; first | with_reducible exact g_R | (simp (disch := first | omega | (simp only [Hand.sa, Hand.ss, Hand.sd, Hand.sn]; first | done | omega)) only [Hand.q2, Hand.q1, Hand.q5, Hand.q6, Hand.q4, Hand.q3, g_R] <;> rfl)
  have hB' : Below w.heap.size w w2 := Hand.stepB hb2 (by repeat (with_reducible first | apply hB | apply Below.drew | apply pw_below_drewN | (apply Below.setCell; rotate_left; (dsimp only; omega)) | (apply Below.alloc; rotate_left; (first | omega | (simp only [Hand.sa, Hand.ss, Hand.sd, Hand.sn]; omega))))) (Nat.le_refl _)
  clear HG hB g_R zw z_R z1_R z2_R y0_R y1_R c_R_0 f_R_0 c_R_1 f_R_1
  clear hb2
  have g_R := h_R
  have hB := hB'
  clear hB' h_R
  obtain ⟨z_R, z1_R, z2_R, y0_R, y1_R⟩ := Hand.hz g_R
  obtain ⟨c_R_0, f_R_0, c_R_1, f_R_1⟩ := Hand.hc2 g_R
  have zw : w.heap.size ≤ w2.heap.size := hB.size
  have HG := Lib.hid (And.intro g_R (hB))
  clear g_R hB
  go_wp2_with fail
  with_reducible refine (M3.out _).mono ?_
  rintro e w3 ⟨rfl, hb3⟩
  obtain ⟨g_R, hB⟩ := HG.out
  have h_R : w3.heap[w.heap.size]? = some (.cells #[.int .i64 0, .int .i64 0] 24 (0, 0)) := by
    refine Hand.kb hb3 ?_; first | with_reducible exact g_R | (simp (disch := first | omega | (simp only [Hand.sa, Hand.ss, Hand.sd, Hand.sn]; first | done | omega)) only [Hand.q2, Hand.q1, Hand.q5, Hand.q6, Hand.q4, Hand.q3, g_R] <;> rfl)
  have hB' : Below w.heap.size w w3 := Hand.stepB hb3 (by repeat (with_reducible first | apply hB | apply Below.drew | apply pw_below_drewN | (apply Below.setCell; rotate_left; (dsimp only; omega)) | (apply Below.alloc; rotate_left; (first | omega | (simp only [Hand.sa, Hand.ss, Hand.sd, Hand.sn]; omega))))) (Nat.le_refl _)
  clear HG hB g_R zw z_R z1_R z2_R y0_R y1_R c_R_0 f_R_0 c_R_1 f_R_1
  clear hb3
  have g_R := h_R
  have hB := hB'
  clear hB' h_R
  obtain ⟨z_R, z1_R, z2_R, y0_R, y1_R⟩ := Hand.hz g_R
  obtain ⟨c_R_0, f_R_0, c_R_1, f_R_1⟩ := Hand.hc2 g_R
  have zw : w.heap.size ≤ w3.heap.size := hB.size
  have HG := Lib.hid (And.intro g_R (hB))
  clear g_R hB
  go_wp2_with fail
  with_reducible refine (M4.out _).mono ?_
  rintro e w4 ⟨rfl, hb4⟩
  obtain ⟨g_R, hB⟩ := HG.out
  have h_R : w4.heap[w.heap.size]? = some (.cells #[.int .i64 0, .int .i64 0] 24 (0, 0)) := by
    refine Hand.kb hb4 ?_; first | with_reducible exact g_R | (simp (disch := first | omega | (simp only [Hand.sa, Hand.ss, Hand.sd, Hand.sn]; first | done | omega)) only [Hand.q2, Hand.q1, Hand.q5, Hand.q6, Hand.q4, Hand.q3, g_R] <;> rfl)
  have hB' : Below w.heap.size w w4 := Hand.stepB hb4 (by repeat (with_reducible first | apply hB | apply Below.drew | apply pw_below_drewN | (apply Below.setCell; rotate_left; (dsimp only; omega)) | (apply Below.alloc; rotate_left; (first | omega | (simp only [Hand.sa, Hand.ss, Hand.sd, Hand.sn]; omega))))) (Nat.le_refl _)
  clear HG hB g_R zw z_R z1_R z2_R y0_R y1_R c_R_0 f_R_0 c_R_1 f_R_1
  clear hb4
  have g_R := h_R
  have hB := hB'
  clear hB' h_R
  obtain ⟨z_R, z1_R, z2_R, y0_R, y1_R⟩ := Hand.hz g_R
  obtain ⟨c_R_0, f_R_0, c_R_1, f_R_1⟩ := Hand.hc2 g_R
  have zw : w.heap.size ≤ w4.heap.size := hB.size
  have HG := Lib.hid (And.intro g_R (hB))
  clear g_R hB
  go_wp2_with fail
  with_reducible refine (M5.out _).mono ?_
  rintro e w5 ⟨rfl, hb5⟩
  obtain ⟨g_R, hB⟩ := HG.out
  have h_R : w5.heap[w.heap.size]? = some (.cells #[.int .i64 0, .int .i64 0] 24 (0, 0)) := by
    refine Hand.kb hb5 ?_; first | with_reducible exact g_R | (simp (disch := first | omega | (simp only [Hand.sa, Hand.ss, Hand.sd, Hand.sn]; first | done | omega)) only [Hand.q2, Hand.q1, Hand.q5, Hand.q6, Hand.q4, Hand.q3, g_R] <;> rfl)
  have hB' : Below w.heap.size w w5 := Hand.stepB hb5 (by repeat (with_reducible first | apply hB | apply Below.drew | apply pw_below_drewN | (apply Below.setCell; rotate_left; (dsimp only; omega)) | (apply Below.alloc; rotate_left; (first | omega | (simp only [Hand.sa, Hand.ss, Hand.sd, Hand.sn]; omega))))) (Nat.le_refl _)
  clear HG hB g_R zw z_R z1_R z2_R y0_R y1_R c_R_0 f_R_0 c_R_1 f_R_1
  clear hb5
  have g_R := h_R
  have hB := hB'
  clear hB' h_R
  obtain ⟨z_R, z1_R, z2_R, y0_R, y1_R⟩ := Hand.hz g_R
  obtain ⟨c_R_0, f_R_0, c_R_1, f_R_1⟩ := Hand.hc2 g_R
  have zw : w.heap.size ≤ w5.heap.size := hB.size
  have HG := Lib.hid (And.intro g_R (hB))
  clear g_R hB
  go_wp2_with fail
  with_reducible refine (M6.out _).mono ?_
  rintro e w6 ⟨rfl, hb6⟩
  obtain ⟨g_R, hB⟩ := HG.out
  have h_R : w6.heap[w.heap.size]? = some (.cells #[.int .i64 0, .int .i64 0] 24 (0, 0)) := by
    refine Hand.kb hb6 ?_; first | with_reducible exact g_R | (simp (disch := first | omega | (simp only [Hand.sa, Hand.ss, Hand.sd, Hand.sn]; first | done | omega)) only [Hand.q2, Hand.q1, Hand.q5, Hand.q6, Hand.q4, Hand.q3, g_R] <;> rfl)
  have hB' : Below w.heap.size w w6 := Hand.stepB hb6 (by repeat (with_reducible first | apply hB | apply Below.drew | apply pw_below_drewN | (apply Below.setCell; rotate_left; (dsimp only; omega)) | (apply Below.alloc; rotate_left; (first | omega | (simp only [Hand.sa, Hand.ss, Hand.sd, Hand.sn]; omega))))) (Nat.le_refl _)
  clear HG hB g_R zw z_R z1_R z2_R y0_R y1_R c_R_0 f_R_0 c_R_1 f_R_1
  clear hb6
  have g_R := h_R
  have hB := hB'
  clear hB' h_R
  obtain ⟨z_R, z1_R, z2_R, y0_R, y1_R⟩ := Hand.hz g_R
  obtain ⟨c_R_0, f_R_0, c_R_1, f_R_1⟩ := Hand.hc2 g_R
  have zw : w.heap.size ≤ w6.heap.size := hB.size
  have HG := Lib.hid (And.intro g_R (hB))
  clear g_R hB
  go_wp2_with fail
  with_reducible refine (M7.out _).mono ?_
  rintro e w7 ⟨rfl, hb7⟩
  obtain ⟨g_R, hB⟩ := HG.out
  have h_R : w7.heap[w.heap.size]? = some (.cells #[.int .i64 0, .int .i64 0] 24 (0, 0)) := by
    refine Hand.kb hb7 ?_; first | with_reducible exact g_R | (simp (disch := first | omega | (simp only [Hand.sa, Hand.ss, Hand.sd, Hand.sn]; first | done | omega)) only [Hand.q2, Hand.q1, Hand.q5, Hand.q6, Hand.q4, Hand.q3, g_R] <;> rfl)
  have hB' : Below w.heap.size w w7 := Hand.stepB hb7 (by repeat (with_reducible first | apply hB | apply Below.drew | apply pw_below_drewN | (apply Below.setCell; rotate_left; (dsimp only; omega)) | (apply Below.alloc; rotate_left; (first | omega | (simp only [Hand.sa, Hand.ss, Hand.sd, Hand.sn]; omega))))) (Nat.le_refl _)
  clear HG hB g_R zw z_R z1_R z2_R y0_R y1_R c_R_0 f_R_0 c_R_1 f_R_1
  clear hb7
  have g_R := h_R
  have hB := hB'
  clear hB' h_R
  obtain ⟨z_R, z1_R, z2_R, y0_R, y1_R⟩ := Hand.hz g_R
  obtain ⟨c_R_0, f_R_0, c_R_1, f_R_1⟩ := Hand.hc2 g_R
  have zw : w.heap.size ≤ w7.heap.size := hB.size
  have HG := Lib.hid (And.intro g_R (hB))
  clear g_R hB
  go_wp2_with fail
  with_reducible refine (M8.out _).mono ?_
  rintro e w8 ⟨rfl, hb8⟩
  obtain ⟨g_R, hB⟩ := HG.out
  have h_R : w8.heap[w.heap.size]? = some (.cells #[.int .i64 0, .int .i64 0] 24 (0, 0)) := by
    refine Hand.kb hb8 ?_; first | with_reducible exact g_R | (simp (disch := first | omega | (simp only [Hand.sa, Hand.ss, Hand.sd, Hand.sn]; first | done | omega)) only [Hand.q2, Hand.q1, Hand.q5, Hand.q6, Hand.q4, Hand.q3, g_R] <;> rfl)
  have hB' : Below w.heap.size w w8 := Hand.stepB hb8 (by repeat (with_reducible first | apply hB | apply Below.drew | apply pw_below_drewN | (apply Below.setCell; rotate_left; (dsimp only; omega)) | (apply Below.alloc; rotate_left; (first | omega | (simp only [Hand.sa, Hand.ss, Hand.sd, Hand.sn]; omega))))) (Nat.le_refl _)
  clear HG hB g_R zw z_R z1_R z2_R y0_R y1_R c_R_0 f_R_0 c_R_1 f_R_1
  clear hb8
  have g_R := h_R
  have hB := hB'
  clear hB' h_R
  obtain ⟨z_R, z1_R, z2_R, y0_R, y1_R⟩ := Hand.hz g_R
  obtain ⟨c_R_0, f_R_0, c_R_1, f_R_1⟩ := Hand.hc2 g_R
  have zw : w.heap.size ≤ w8.heap.size := hB.size
  have HG := Lib.hid (And.intro g_R (hB))
  clear g_R hB
  go_wp2_with fail
  with_reducible refine (M9.out _).mono ?_
  rintro e w9 ⟨rfl, hb9⟩
  have KR := Lib.hid (show w.heap.size < w8.heap.size from z_R)
  obtain ⟨g_R, hB⟩ := HG.out
  have h_R : w9.heap[w.heap.size]? = some (.cells #[.int .i64 0, .int .i64 0] 24 (0, 0)) := by
    refine Hand.kb hb9 ?_; first | with_reducible exact g_R | (simp (disch := first | omega | (simp only [Hand.sa, Hand.ss, Hand.sd, Hand.sn]; first | done | omega)) only [Hand.q2, Hand.q1, Hand.q5, Hand.q6, Hand.q4, Hand.q3, g_R] <;> rfl)
  have h_F : w9.heap[w8.heap.size]? = some (.cells #[.bool false, .int .u64 (hiN vh), .int .u64 (loN vh), .int .u64 0, .int .u64 1] 71 (0, 0)) := by
    refine Hand.kb hb9 ?_; simp (disch := first | omega | (simp only [Hand.sa, Hand.ss, Hand.sd, Hand.sn]; first | done | omega)) only [Hand.q2, Hand.q1, Hand.q5, Hand.q6, Hand.q4, Hand.q3] <;> rfl
  have hB' : Below w.heap.size w w9 := Hand.stepB hb9 (by repeat (with_reducible first | apply hB | apply Below.drew | apply pw_below_drewN | (apply Below.setCell; rotate_left; (dsimp only; omega)) | (apply Below.alloc; rotate_left; (first | omega | (simp only [Hand.sa, Hand.ss, Hand.sd, Hand.sn]; omega))))) (Nat.le_refl _)
  clear HG hB g_R zw z_R z1_R z2_R y0_R y1_R c_R_0 f_R_0 c_R_1 f_R_1
  clear hb9
  have g_R := h_R
  have g_F := h_F
  have hB := hB'
  clear hB' h_R h_F
  obtain ⟨z_R, z1_R, z2_R, y0_R, y1_R⟩ := Hand.hz g_R
  obtain ⟨c_R_0, f_R_0, c_R_1, f_R_1⟩ := Hand.hc2 g_R
  obtain ⟨z_F, z1_F, z2_F, y0_F, y1_F⟩ := Hand.hz g_F
  obtain ⟨c_F_0, f_F_0, c_F_1, f_F_1, c_F_2, f_F_2, c_F_3, f_F_3, c_F_4, f_F_4⟩ := Hand.hc5 g_F
  have zw : w.heap.size ≤ w9.heap.size := hB.size
  have HG := Lib.hid (And.intro g_R (And.intro g_F (hB)))
  clear g_R g_F hB
  go_wp2_with fail
  obtain ⟨g_R, g_F, hB⟩ := HG.out
  have k8 : w.heap.size < w8.heap.size := KR.out
  have G8 := Lib.hid (And.intro g_R (And.intro hB g_F))
  go_loopw [93] (fun _ wr => wr.heap[w.heap.size]? = some (.cells #[.int .i64 0, .int .i64 0] 24 (0, 0)) ∧ wr.heap[w8.heap.size]? = some (.cells #[.bool false, .int .u64 (hiN vh), .int .u64 (loN vh), .int .u64 (hiN vd), .int .u64 (loN vd)] 71 (0, 0)) ∧ wr.heap[w9.heap.size]? = some (.stringIter ⟨#[]⟩ 0) ∧ Below w.heap.size w wr) (fun _ wr => 0 - posOf (wr.heap[w9.heap.size]?))
  case atStart =>
    refine ⟨?_, ?_, ?_, ?_⟩
    · simp (disch := first | omega | (simp only [World.size_alloc, World.size_setCell, World.size_drew]; first | done | omega)) only [World.iter, Hand.q2, Hand.q5, Hand.q4, Hand.q3, G8.out.1]
    · simp (disch := first | omega | (simp only [World.size_alloc, World.size_setCell, World.size_drew]; first | done | omega)) only [World.iter, Hand.q1, Hand.q2, Hand.q5, Hand.q4, Hand.q3, G8.out.2.2] <;> rfl
    · simp (disch := first | omega | (simp only [World.size_alloc, World.size_setCell, World.size_drew]; first | done | omega)) only [World.iter, Hand.q1, Hand.q2, Hand.q5, Hand.q4, Hand.q3]
    · unfold World.iter
      repeat (first | exact G8.out.2.1 | (with_reducible first | apply Below.drew | refine Below.setCell ?_ (by dsimp only; omega) _ | refine Below.alloc ?_ (by first | omega | (simp only [Hand.sa, Hand.ss, Hand.sd, Hand.sn]; omega)) _))
  case round =>
    obtain ⟨q_R, q_F, q_I, hB0⟩ := hrel
    clear HG G8 zw
    have hn1 := next_end Tryd.prog q_I (by decide)
    have g_R := q_R
    have g_F := q_F
    have hB := hB0
    clear q_R q_F q_I hB0
    obtain ⟨z_R, z1_R, z2_R, y0_R, y1_R⟩ := Hand.hz g_R
    obtain ⟨c_R_0, f_R_0, c_R_1, f_R_1⟩ := Hand.hc2 g_R
    obtain ⟨z_F, z1_F, z2_F, y0_F, y1_F⟩ := Hand.hz g_F
    obtain ⟨c_F_0, f_F_0, c_F_1, f_F_1, c_F_2, f_F_2, c_F_3, f_F_3, c_F_4, f_F_4⟩ := Hand.hc5 g_F
    have zw : w.heap.size ≤ wr.heap.size := hB.size
    have HG := Lib.hid (And.intro g_R (And.intro g_F (hB)))
    clear g_R g_F hB
    go_wp2_with fail
    with_reducible refine (M11.out _).mono ?_
    rintro e w20 ⟨rfl, hb20⟩
    obtain ⟨g_R, g_F, hB⟩ := HG.out
    have h_R : w20.heap[w.heap.size]? = some (.cells #[.int .i64 0, .int .i64 0] 24 (0, 0)) := by
      refine Hand.kb hb20 ?_; first | with_reducible exact g_R | (simp (disch := first | omega | (simp only [Hand.sa, Hand.ss, Hand.sd, Hand.sn]; first | done | omega)) only [Hand.q2, Hand.q1, Hand.q5, Hand.q6, Hand.q4, Hand.q3, g_R] <;> rfl)
    have h_F : w20.heap[w8.heap.size]? = some (.cells #[.bool false, .int .u64 (hiN vh), .int .u64 (loN vh), .int .u64 (hiN vd), .int .u64 (loN vd)] 71 (0, 0)) := by
      refine Hand.kb hb20 ?_; first | with_reducible exact g_F | (simp (disch := first | omega | (simp only [Hand.sa, Hand.ss, Hand.sd, Hand.sn]; first | done | omega)) only [Hand.q2, Hand.q1, Hand.q5, Hand.q6, Hand.q4, Hand.q3, g_F] <;> rfl)
    have hB' : Below w.heap.size w w20 := Hand.stepB hb20 (by repeat (with_reducible first | apply hB | apply Below.drew | apply pw_below_drewN | (apply Below.setCell; rotate_left; (dsimp only; omega)) | (apply Below.alloc; rotate_left; (first | omega | (simp only [Hand.sa, Hand.ss, Hand.sd, Hand.sn]; omega))))) (Nat.le_refl _)
    clear HG hB g_R g_F zw z_R z1_R z2_R y0_R y1_R c_R_0 f_R_0 c_R_1 f_R_1 z_F z1_F z2_F y0_F y1_F c_F_0 f_F_0 c_F_1 f_F_1 c_F_2 f_F_2 c_F_3 f_F_3 c_F_4 f_F_4
    clear hb20
    have g_R := h_R
    have g_F := h_F
    have hB := hB'
    clear hB' h_R h_F
    obtain ⟨z_R, z1_R, z2_R, y0_R, y1_R⟩ := Hand.hz g_R
    obtain ⟨c_R_0, f_R_0, c_R_1, f_R_1⟩ := Hand.hc2 g_R
    obtain ⟨z_F, z1_F, z2_F, y0_F, y1_F⟩ := Hand.hz g_F
    obtain ⟨c_F_0, f_F_0, c_F_1, f_F_1, c_F_2, f_F_2, c_F_3, f_F_3, c_F_4, f_F_4⟩ := Hand.hc5 g_F
    have zw : w.heap.size ≤ w20.heap.size := hB.size
    have HG := Lib.hid (And.intro g_R (And.intro g_F (hB)))
    clear g_R g_F hB
    go_wp2
    obtain ⟨g_R, g_F, hB⟩ := HG.out
    refine bodyPost_ret (results_ct rfl _ _ (w.heap.size) 24 #[.int .i64 x, .int .i64 y] (0, 0) _ rfl ?_ Tryd.underlying24 rfl (by kernel_rfl)) rfl ⟨rfl, ?_⟩
    · simp (disch := omega) only [Hand.q1, g_R]; rfl
    · exact (hB.setCell (by dsimp only; omega) _).setCell (by dsimp only; omega) _
set_option maxHeartbeats 8000000 in
set_option maxRecDepth 100000 in
theorem parse_qm (s h T u q : ByteArray) (vh vd : Nat) (x y z : Int) (w : World)
    (m1 : ∀ w, Calls Tryd.prog 76 #[.string s, .string ⟨#[45]⟩] w fun e w' => e = .returned (.tuple #[.string u, .bool true]) ∧ Below w.heap.size w w')
    (m2 : ∀ w, Calls Tryd.prog 77 #[.string u, .string ⟨#[47]⟩] w fun e w' => e = .returned (.tuple #[.string h, .string q, .bool true]) ∧ Below w.heap.size w w')
    (m3 : ∀ w, Calls Tryd.prog 77 #[.string h, .string ⟨#[46]⟩] w fun e w' => e = .returned (.tuple #[.string h, .string ⟨#[]⟩, .bool false]) ∧ Below w.heap.size w w')
    (ecat : h ++ (⟨#[]⟩ : ByteArray) = h)
    (m4 : ∀ w, Calls Tryd.prog 78 #[.string h, .string ⟨#[48]⟩] w fun e w' => e = .returned (.string T) ∧ Below w.heap.size w w')
    (m5 : ∀ w, Calls Tryd.prog 79 #[.string h] w fun e w' => e = .returned (.bool true) ∧ Below w.heap.size w w')
    (m6 : ∀ w, Calls Tryd.prog 79 #[.string q] w fun e w' => e = .returned (.bool true) ∧ Below w.heap.size w w')
    (ht : T.toList.isEmpty = false)
    (hs : h.size ≤ 19) (hq : q.size ≤ 19) (hz : (hiN vd == 0 && loN vd == 0) = false)
    (m7 : ∀ w, Calls Tryd.prog 81 #[.string h] w fun e w' => e = .returned (.agg #[.int .u64 (hiN vh), .int .u64 (loN vh)]) ∧ Below w.heap.size w w')
    (m9 : ∀ w, Calls Tryd.prog 81 #[.string q] w fun e w' => e = .returned (.agg #[.int .u64 (hiN vd), .int .u64 (loN vd)]) ∧ Below w.heap.size w w')
    (m11 : ∀ w, Calls Tryd.prog 51 #[.agg #[.bool true, .int .u64 (hiN vh), .int .u64 (loN vh), .int .u64 (hiN vd), .int .u64 (loN vd)]] w fun e w' => e = .returned (.tuple #[.agg #[.int .i64 x, .int .i64 y], .int .i64 z]) ∧ Below w.heap.size w w') :
    Calls Tryd.prog 47 #[.string s] w fun e w' => e = .returned (.tuple #[.agg #[.int .i64 x, .int .i64 y], .int .i64 z]) ∧ Below w.heap.size w w' := by
  have M1 := Lib.hid m1
  have M2 := Lib.hid m2
  have M3 := Lib.hid m3
  have M4 := Lib.hid m4
  have M5 := Lib.hid m5
  have M7 := Lib.hid m7
  have M11 := Lib.hid m11
  have M6 := Lib.hid m6
  have M9 := Lib.hid m9
  have M8 := Lib.hid pc61
  have ht1 : ¬ T.toList = [] := by intro e; rw [e] at ht; exact absurd ht (by decide)
  have hs1 : decide ((h.size : Int) > 19) = false := decide_eq_false (by omega)
  have hs2 : decide (19 < h.size) = false := decide_eq_false (by omega)
  have hq1 : decide ((q.size : Int) > 19) = false := decide_eq_false (by omega)
  have hq2 : decide (19 < q.size) = false := decide_eq_false (by omega)
  clear m1 m2 m3 m4 m5 m7 m11 m6 m9
  go_enter Tryd.func47, Tryd.ntmps47
  go_wp2_with fail
  with_reducible refine (M1.out _).mono ?_
  rintro e w1 ⟨rfl, hb1⟩
  have h_R : w1.heap[w.heap.size]? = some (.cells #[.int .i64 0, .int .i64 0] 24 (0, 0)) := by
    refine Hand.kb hb1 ?_; simp (disch := first | omega | (simp only [Hand.sa, Hand.ss, Hand.sd, Hand.sn]; first | done | omega)) only [Hand.q2, Hand.q1, Hand.q5, Hand.q6, Hand.q4, Hand.q3] <;> rfl
  have hB' : Below w.heap.size w w1 := Hand.stepB hb1 (by repeat (with_reducible first | apply Below.refl _ _ | apply Below.drew | apply pw_below_drewN | (apply Below.setCell; rotate_left; (dsimp only; omega)) | (apply Below.alloc; rotate_left; (first | omega | (simp only [Hand.sa, Hand.ss, Hand.sd, Hand.sn]; omega))))) (Nat.le_refl _)
  clear hb1
  have g_R := h_R
  have hB := hB'
  clear hB' h_R
  obtain ⟨z_R, z1_R, z2_R, y0_R, y1_R⟩ := Hand.hz g_R
  obtain ⟨c_R_0, f_R_0, c_R_1, f_R_1⟩ := Hand.hc2 g_R
  have zw : w.heap.size ≤ w1.heap.size := hB.size
  have HG := Lib.hid (And.intro g_R (hB))
  clear g_R hB
  go_wp2_with fail
  with_reducible refine (M2.out _).mono ?_
  rintro e w2 ⟨rfl, hb2⟩
  obtain ⟨g_R, hB⟩ := HG.out
  have h_R : w2.heap[w.heap.size]? = some (.cells #[.int .i64 0, .int .i64 0] 24 (0, 0)) := by
    refine Hand.kb hb2 ?_; first | with_reducible exact g_R | (simp (disch := first | omega | (simp only [Hand.sa, Hand.ss, Hand.sd, Hand.sn]; first | done | omega)) only [Hand.q2, Hand.q1, Hand.q5, Hand.q6, Hand.q4, Hand.q3, g_R] <;> rfl)
  have hB' : Below w.heap.size w w2 := Hand.stepB hb2 (by repeat (with_reducible first | apply hB | apply Below.drew | apply pw_below_drewN | (apply Below.setCell; rotate_left; (dsimp only; omega)) | (apply Below.alloc; rotate_left; (first | omega | (simp only [Hand.sa, Hand.ss, Hand.sd, Hand.sn]; omega))))) (Nat.le_refl _)
  clear HG hB g_R zw z_R z1_R z2_R y0_R y1_R c_R_0 f_R_0 c_R_1 f_R_1
  clear hb2
  have g_R := h_R
  have hB := hB'
  clear hB' h_R
  obtain ⟨z_R, z1_R, z2_R, y0_R, y1_R⟩ := Hand.hz g_R
  obtain ⟨c_R_0, f_R_0, c_R_1, f_R_1⟩ := Hand.hc2 g_R
  have zw : w.heap.size ≤ w2.heap.size := hB.size
  have HG := Lib.hid (And.intro g_R (hB))
  clear g_R hB
  go_wp2_with fail
  with_reducible refine (M3.out _).mono ?_
  rintro e w3 ⟨rfl, hb3⟩
  obtain ⟨g_R, hB⟩ := HG.out
  have h_R : w3.heap[w.heap.size]? = some (.cells #[.int .i64 0, .int .i64 0] 24 (0, 0)) := by
    refine Hand.kb hb3 ?_; first | with_reducible exact g_R | (simp (disch := first | omega | (simp only [Hand.sa, Hand.ss, Hand.sd, Hand.sn]; first | done | omega)) only [Hand.q2, Hand.q1, Hand.q5, Hand.q6, Hand.q4, Hand.q3, g_R] <;> rfl)
  have hB' : Below w.heap.size w w3 := Hand.stepB hb3 (by repeat (with_reducible first | apply hB | apply Below.drew | apply pw_below_drewN | (apply Below.setCell; rotate_left; (dsimp only; omega)) | (apply Below.alloc; rotate_left; (first | omega | (simp only [Hand.sa, Hand.ss, Hand.sd, Hand.sn]; omega))))) (Nat.le_refl _)
  clear HG hB g_R zw z_R z1_R z2_R y0_R y1_R c_R_0 f_R_0 c_R_1 f_R_1
  clear hb3
  have g_R := h_R
  have hB := hB'
  clear hB' h_R
  obtain ⟨z_R, z1_R, z2_R, y0_R, y1_R⟩ := Hand.hz g_R
  obtain ⟨c_R_0, f_R_0, c_R_1, f_R_1⟩ := Hand.hc2 g_R
  have zw : w.heap.size ≤ w3.heap.size := hB.size
  have HG := Lib.hid (And.intro g_R (hB))
  clear g_R hB
  go_wp2_with fail
  with_reducible refine (M4.out _).mono ?_
  rintro e w4 ⟨rfl, hb4⟩
  obtain ⟨g_R, hB⟩ := HG.out
  have h_R : w4.heap[w.heap.size]? = some (.cells #[.int .i64 0, .int .i64 0] 24 (0, 0)) := by
    refine Hand.kb hb4 ?_; first | with_reducible exact g_R | (simp (disch := first | omega | (simp only [Hand.sa, Hand.ss, Hand.sd, Hand.sn]; first | done | omega)) only [Hand.q2, Hand.q1, Hand.q5, Hand.q6, Hand.q4, Hand.q3, g_R] <;> rfl)
  have hB' : Below w.heap.size w w4 := Hand.stepB hb4 (by repeat (with_reducible first | apply hB | apply Below.drew | apply pw_below_drewN | (apply Below.setCell; rotate_left; (dsimp only; omega)) | (apply Below.alloc; rotate_left; (first | omega | (simp only [Hand.sa, Hand.ss, Hand.sd, Hand.sn]; omega))))) (Nat.le_refl _)
  clear HG hB g_R zw z_R z1_R z2_R y0_R y1_R c_R_0 f_R_0 c_R_1 f_R_1
  clear hb4
  have g_R := h_R
  have hB := hB'
  clear hB' h_R
  obtain ⟨z_R, z1_R, z2_R, y0_R, y1_R⟩ := Hand.hz g_R
  obtain ⟨c_R_0, f_R_0, c_R_1, f_R_1⟩ := Hand.hc2 g_R
  have zw : w.heap.size ≤ w4.heap.size := hB.size
  have HG := Lib.hid (And.intro g_R (hB))
  clear g_R hB
  go_wp2_with fail
  with_reducible refine (M5.out _).mono ?_
  rintro e w5 ⟨rfl, hb5⟩
  obtain ⟨g_R, hB⟩ := HG.out
  have h_R : w5.heap[w.heap.size]? = some (.cells #[.int .i64 0, .int .i64 0] 24 (0, 0)) := by
    refine Hand.kb hb5 ?_; first | with_reducible exact g_R | (simp (disch := first | omega | (simp only [Hand.sa, Hand.ss, Hand.sd, Hand.sn]; first | done | omega)) only [Hand.q2, Hand.q1, Hand.q5, Hand.q6, Hand.q4, Hand.q3, g_R] <;> rfl)
  have hB' : Below w.heap.size w w5 := Hand.stepB hb5 (by repeat (with_reducible first | apply hB | apply Below.drew | apply pw_below_drewN | (apply Below.setCell; rotate_left; (dsimp only; omega)) | (apply Below.alloc; rotate_left; (first | omega | (simp only [Hand.sa, Hand.ss, Hand.sd, Hand.sn]; omega))))) (Nat.le_refl _)
  clear HG hB g_R zw z_R z1_R z2_R y0_R y1_R c_R_0 f_R_0 c_R_1 f_R_1
  clear hb5
  have g_R := h_R
  have hB := hB'
  clear hB' h_R
  obtain ⟨z_R, z1_R, z2_R, y0_R, y1_R⟩ := Hand.hz g_R
  obtain ⟨c_R_0, f_R_0, c_R_1, f_R_1⟩ := Hand.hc2 g_R
  have zw : w.heap.size ≤ w5.heap.size := hB.size
  have HG := Lib.hid (And.intro g_R (hB))
  clear g_R hB
  go_wp2_with fail
  with_reducible refine (M6.out _).mono ?_
  rintro e w6 ⟨rfl, hb6⟩
  obtain ⟨g_R, hB⟩ := HG.out
  have h_R : w6.heap[w.heap.size]? = some (.cells #[.int .i64 0, .int .i64 0] 24 (0, 0)) := by
    refine Hand.kb hb6 ?_; first | with_reducible exact g_R | (simp (disch := first | omega | (simp only [Hand.sa, Hand.ss, Hand.sd, Hand.sn]; first | done | omega)) only [Hand.q2, Hand.q1, Hand.q5, Hand.q6, Hand.q4, Hand.q3, g_R] <;> rfl)
  have hB' : Below w.heap.size w w6 := Hand.stepB hb6 (by repeat (with_reducible first | apply hB | apply Below.drew | apply pw_below_drewN | (apply Below.setCell; rotate_left; (dsimp only; omega)) | (apply Below.alloc; rotate_left; (first | omega | (simp only [Hand.sa, Hand.ss, Hand.sd, Hand.sn]; omega))))) (Nat.le_refl _)
  clear HG hB g_R zw z_R z1_R z2_R y0_R y1_R c_R_0 f_R_0 c_R_1 f_R_1
  clear hb6
  have g_R := h_R
  have hB := hB'
  clear hB' h_R
  obtain ⟨z_R, z1_R, z2_R, y0_R, y1_R⟩ := Hand.hz g_R
  obtain ⟨c_R_0, f_R_0, c_R_1, f_R_1⟩ := Hand.hc2 g_R
  have zw : w.heap.size ≤ w6.heap.size := hB.size
  have HG := Lib.hid (And.intro g_R (hB))
  clear g_R hB
  go_wp2_with fail
  with_reducible refine (M7.out _).mono ?_
  rintro e w7 ⟨rfl, hb7⟩
  obtain ⟨g_R, hB⟩ := HG.out
  have h_R : w7.heap[w.heap.size]? = some (.cells #[.int .i64 0, .int .i64 0] 24 (0, 0)) := by
    refine Hand.kb hb7 ?_; first | with_reducible exact g_R | (simp (disch := first | omega | (simp only [Hand.sa, Hand.ss, Hand.sd, Hand.sn]; first | done | omega)) only [Hand.q2, Hand.q1, Hand.q5, Hand.q6, Hand.q4, Hand.q3, g_R] <;> rfl)
  have hB' : Below w.heap.size w w7 := Hand.stepB hb7 (by repeat (with_reducible first | apply hB | apply Below.drew | apply pw_below_drewN | (apply Below.setCell; rotate_left; (dsimp only; omega)) | (apply Below.alloc; rotate_left; (first | omega | (simp only [Hand.sa, Hand.ss, Hand.sd, Hand.sn]; omega))))) (Nat.le_refl _)
  clear HG hB g_R zw z_R z1_R z2_R y0_R y1_R c_R_0 f_R_0 c_R_1 f_R_1
  clear hb7
  have g_R := h_R
  have hB := hB'
  clear hB' h_R
  obtain ⟨z_R, z1_R, z2_R, y0_R, y1_R⟩ := Hand.hz g_R
  obtain ⟨c_R_0, f_R_0, c_R_1, f_R_1⟩ := Hand.hc2 g_R
  have zw : w.heap.size ≤ w7.heap.size := hB.size
  have HG := Lib.hid (And.intro g_R (hB))
  clear g_R hB
  go_wp2_with fail
  with_reducible refine (M8.out _).mono ?_
  rintro e w8 ⟨rfl, hb8⟩
  obtain ⟨g_R, hB⟩ := HG.out
  have h_R : w8.heap[w.heap.size]? = some (.cells #[.int .i64 0, .int .i64 0] 24 (0, 0)) := by
    refine Hand.kb hb8 ?_; first | with_reducible exact g_R | (simp (disch := first | omega | (simp only [Hand.sa, Hand.ss, Hand.sd, Hand.sn]; first | done | omega)) only [Hand.q2, Hand.q1, Hand.q5, Hand.q6, Hand.q4, Hand.q3, g_R] <;> rfl)
  have hB' : Below w.heap.size w w8 := Hand.stepB hb8 (by repeat (with_reducible first | apply hB | apply Below.drew | apply pw_below_drewN | (apply Below.setCell; rotate_left; (dsimp only; omega)) | (apply Below.alloc; rotate_left; (first | omega | (simp only [Hand.sa, Hand.ss, Hand.sd, Hand.sn]; omega))))) (Nat.le_refl _)
  clear HG hB g_R zw z_R z1_R z2_R y0_R y1_R c_R_0 f_R_0 c_R_1 f_R_1
  clear hb8
  have g_R := h_R
  have hB := hB'
  clear hB' h_R
  obtain ⟨z_R, z1_R, z2_R, y0_R, y1_R⟩ := Hand.hz g_R
  obtain ⟨c_R_0, f_R_0, c_R_1, f_R_1⟩ := Hand.hc2 g_R
  have zw : w.heap.size ≤ w8.heap.size := hB.size
  have HG := Lib.hid (And.intro g_R (hB))
  clear g_R hB
  go_wp2_with fail
  with_reducible refine (M9.out _).mono ?_
  rintro e w9 ⟨rfl, hb9⟩
  have KR := Lib.hid (show w.heap.size < w8.heap.size from z_R)
  obtain ⟨g_R, hB⟩ := HG.out
  have h_R : w9.heap[w.heap.size]? = some (.cells #[.int .i64 0, .int .i64 0] 24 (0, 0)) := by
    refine Hand.kb hb9 ?_; first | with_reducible exact g_R | (simp (disch := first | omega | (simp only [Hand.sa, Hand.ss, Hand.sd, Hand.sn]; first | done | omega)) only [Hand.q2, Hand.q1, Hand.q5, Hand.q6, Hand.q4, Hand.q3, g_R] <;> rfl)
  have h_F : w9.heap[w8.heap.size]? = some (.cells #[.bool true, .int .u64 (hiN vh), .int .u64 (loN vh), .int .u64 0, .int .u64 1] 71 (0, 0)) := by
    refine Hand.kb hb9 ?_; simp (disch := first | omega | (simp only [Hand.sa, Hand.ss, Hand.sd, Hand.sn]; first | done | omega)) only [Hand.q2, Hand.q1, Hand.q5, Hand.q6, Hand.q4, Hand.q3] <;> rfl
  have hB' : Below w.heap.size w w9 := Hand.stepB hb9 (by repeat (with_reducible first | apply hB | apply Below.drew | apply pw_below_drewN | (apply Below.setCell; rotate_left; (dsimp only; omega)) | (apply Below.alloc; rotate_left; (first | omega | (simp only [Hand.sa, Hand.ss, Hand.sd, Hand.sn]; omega))))) (Nat.le_refl _)
  clear HG hB g_R zw z_R z1_R z2_R y0_R y1_R c_R_0 f_R_0 c_R_1 f_R_1
  clear hb9
  have g_R := h_R
  have g_F := h_F
  have hB := hB'
  clear hB' h_R h_F
  obtain ⟨z_R, z1_R, z2_R, y0_R, y1_R⟩ := Hand.hz g_R
  obtain ⟨c_R_0, f_R_0, c_R_1, f_R_1⟩ := Hand.hc2 g_R
  obtain ⟨z_F, z1_F, z2_F, y0_F, y1_F⟩ := Hand.hz g_F
  obtain ⟨c_F_0, f_F_0, c_F_1, f_F_1, c_F_2, f_F_2, c_F_3, f_F_3, c_F_4, f_F_4⟩ := Hand.hc5 g_F
  have zw : w.heap.size ≤ w9.heap.size := hB.size
  have HG := Lib.hid (And.intro g_R (And.intro g_F (hB)))
  clear g_R g_F hB
  go_wp2_with fail
  obtain ⟨g_R, g_F, hB⟩ := HG.out
  have k8 : w.heap.size < w8.heap.size := KR.out
  have G8 := Lib.hid (And.intro g_R (And.intro hB g_F))
  go_loopw [93] (fun _ wr => wr.heap[w.heap.size]? = some (.cells #[.int .i64 0, .int .i64 0] 24 (0, 0)) ∧ wr.heap[w8.heap.size]? = some (.cells #[.bool true, .int .u64 (hiN vh), .int .u64 (loN vh), .int .u64 (hiN vd), .int .u64 (loN vd)] 71 (0, 0)) ∧ wr.heap[w9.heap.size]? = some (.stringIter ⟨#[]⟩ 0) ∧ Below w.heap.size w wr) (fun _ wr => 0 - posOf (wr.heap[w9.heap.size]?))
  case atStart =>
    refine ⟨?_, ?_, ?_, ?_⟩
    · simp (disch := first | omega | (simp only [World.size_alloc, World.size_setCell, World.size_drew]; first | done | omega)) only [World.iter, Hand.q2, Hand.q5, Hand.q4, Hand.q3, G8.out.1]
    · simp (disch := first | omega | (simp only [World.size_alloc, World.size_setCell, World.size_drew]; first | done | omega)) only [World.iter, Hand.q1, Hand.q2, Hand.q5, Hand.q4, Hand.q3, G8.out.2.2] <;> rfl
    · simp (disch := first | omega | (simp only [World.size_alloc, World.size_setCell, World.size_drew]; first | done | omega)) only [World.iter, Hand.q1, Hand.q2, Hand.q5, Hand.q4, Hand.q3]
    · unfold World.iter
      repeat (first | exact G8.out.2.1 | (with_reducible first | apply Below.drew | refine Below.setCell ?_ (by dsimp only; omega) _ | refine Below.alloc ?_ (by first | omega | (simp only [Hand.sa, Hand.ss, Hand.sd, Hand.sn]; omega)) _))
  case round =>
    obtain ⟨q_R, q_F, q_I, hB0⟩ := hrel
    clear HG G8 zw
    have hn1 := next_end Tryd.prog q_I (by decide)
    have g_R := q_R
    have g_F := q_F
    have hB := hB0
    clear q_R q_F q_I hB0
    obtain ⟨z_R, z1_R, z2_R, y0_R, y1_R⟩ := Hand.hz g_R
    obtain ⟨c_R_0, f_R_0, c_R_1, f_R_1⟩ := Hand.hc2 g_R
    obtain ⟨z_F, z1_F, z2_F, y0_F, y1_F⟩ := Hand.hz g_F
    obtain ⟨c_F_0, f_F_0, c_F_1, f_F_1, c_F_2, f_F_2, c_F_3, f_F_3, c_F_4, f_F_4⟩ := Hand.hc5 g_F
    have zw : w.heap.size ≤ wr.heap.size := hB.size
    have HG := Lib.hid (And.intro g_R (And.intro g_F (hB)))
    clear g_R g_F hB
    go_wp2_with fail
    with_reducible refine (M11.out _).mono ?_
    rintro e w20 ⟨rfl, hb20⟩
    obtain ⟨g_R, g_F, hB⟩ := HG.out
    have h_R : w20.heap[w.heap.size]? = some (.cells #[.int .i64 0, .int .i64 0] 24 (0, 0)) := by
      refine Hand.kb hb20 ?_; first | with_reducible exact g_R | (simp (disch := first | omega | (simp only [Hand.sa, Hand.ss, Hand.sd, Hand.sn]; first | done | omega)) only [Hand.q2, Hand.q1, Hand.q5, Hand.q6, Hand.q4, Hand.q3, g_R] <;> rfl)
    have h_F : w20.heap[w8.heap.size]? = some (.cells #[.bool true, .int .u64 (hiN vh), .int .u64 (loN vh), .int .u64 (hiN vd), .int .u64 (loN vd)] 71 (0, 0)) := by
      refine Hand.kb hb20 ?_; first | with_reducible exact g_F | (simp (disch := first | omega | (simp only [Hand.sa, Hand.ss, Hand.sd, Hand.sn]; first | done | omega)) only [Hand.q2, Hand.q1, Hand.q5, Hand.q6, Hand.q4, Hand.q3, g_F] <;> rfl)
    have hB' : Below w.heap.size w w20 := Hand.stepB hb20 (by repeat (with_reducible first | apply hB | apply Below.drew | apply pw_below_drewN | (apply Below.setCell; rotate_left; (dsimp only; omega)) | (apply Below.alloc; rotate_left; (first | omega | (simp only [Hand.sa, Hand.ss, Hand.sd, Hand.sn]; omega))))) (Nat.le_refl _)
    clear HG hB g_R g_F zw z_R z1_R z2_R y0_R y1_R c_R_0 f_R_0 c_R_1 f_R_1 z_F z1_F z2_F y0_F y1_F c_F_0 f_F_0 c_F_1 f_F_1 c_F_2 f_F_2 c_F_3 f_F_3 c_F_4 f_F_4
    clear hb20
    have g_R := h_R
    have g_F := h_F
    have hB := hB'
    clear hB' h_R h_F
    obtain ⟨z_R, z1_R, z2_R, y0_R, y1_R⟩ := Hand.hz g_R
    obtain ⟨c_R_0, f_R_0, c_R_1, f_R_1⟩ := Hand.hc2 g_R
    obtain ⟨z_F, z1_F, z2_F, y0_F, y1_F⟩ := Hand.hz g_F
    obtain ⟨c_F_0, f_F_0, c_F_1, f_F_1, c_F_2, f_F_2, c_F_3, f_F_3, c_F_4, f_F_4⟩ := Hand.hc5 g_F
    have zw : w.heap.size ≤ w20.heap.size := hB.size
    have HG := Lib.hid (And.intro g_R (And.intro g_F (hB)))
    clear g_R g_F hB
    go_wp2
    obtain ⟨g_R, g_F, hB⟩ := HG.out
    refine bodyPost_ret (results_ct rfl _ _ (w.heap.size) 24 #[.int .i64 x, .int .i64 y] (0, 0) _ rfl ?_ Tryd.underlying24 rfl (by kernel_rfl)) rfl ⟨rfl, ?_⟩
    · simp (disch := omega) only [Hand.q1, g_R]; rfl
    · exact (hB.setCell (by dsimp only; omega) _).setCell (by dsimp only; omega) _
end Go.Proofs.YtofndakpenpkbaaDoor.PA
