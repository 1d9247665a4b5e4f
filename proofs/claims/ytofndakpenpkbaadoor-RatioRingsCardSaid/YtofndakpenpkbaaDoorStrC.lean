/- Parse at '0.25'. -/
import Derived.Test.YtofndakpenpkbaaDoorStrB
import Derived.Test.YtofndakpenpkbaaDoorRatC
namespace Go.Proofs.YtofndakpenpkbaaDoor.PA
open Go.RowKit Go.Proofs.YtofndakpenpkbaaDoorW.PrintWords Go.Proofs.YtofndakpenpkbaaDoorW.PrintLast Go.Proofs.YtofndakpenpkbaaDoorW.PrintMore
attribute [local go_sem high] eqA67
set_option linter.unusedSimpArgs false
set_option linter.unusedVariables false
theorem digits_0 (w : World) : Calls Tryd.prog 80 #[.string ⟨#[48]⟩] w fun e w' => e = .returned (.bool true) ∧ Below w.heap.size w w' :=
  digits_yes ⟨#[48]⟩ w (by decide) (by rw [Lib.toList_data]; decide) (by decide)
theorem digits_25 (w : World) : Calls Tryd.prog 80 #[.string ⟨#[50, 53]⟩] w fun e w' => e = .returned (.bool true) ∧ Below w.heap.size w w' :=
  digits_yes ⟨#[50, 53]⟩ w (by decide) (by rw [Lib.toList_data]; decide) (by decide)
set_option maxHeartbeats 800000 in
set_option maxRecDepth 100000 in
theorem number_0 (w : World) : Calls Tryd.prog 79 #[.string ⟨#[48]⟩] w fun e w' => e = .returned (.bool true) ∧ Below w.heap.size w w' := by
  have H1 := Lib.hid digits_0
  go_enter Tryd.func79, Tryd.ntmps79
  go_wp2_with fail
  with_reducible refine (H1.out _).mono ?_
  rintro e w1 ⟨rfl, hb1⟩
  go_wp2
  go_ret
  exact ⟨rfl, hb1⟩
theorem pc1 (w : World) : Calls Tryd.prog 76 #[.string ⟨#[48, 46, 50, 53]⟩, .string ⟨#[45]⟩] w fun e w' => e = .returned (.tuple #[.string ⟨#[48, 46, 50, 53]⟩, .bool false]) ∧ Below w.heap.size w w' := by
  have h := Tryd.strings_CutPrefix ⟨#[48, 46, 50, 53]⟩ ⟨#[45]⟩ w
  rw [show Lib.trimPrefix (⟨#[48, 46, 50, 53]⟩ : ByteArray).data.toList (⟨#[45]⟩ : ByteArray).data.toList = [48, 46, 50, 53] from by decide, show Lib.hasPrefix (⟨#[48, 46, 50, 53]⟩ : ByteArray).data.toList (⟨#[45]⟩ : ByteArray).data.toList = false from by decide] at h
  exact h.mono fun e w' ⟨a, b⟩ => ⟨a, by rw [b]; exact Below.refl _ _⟩
theorem pc2 (w : World) : Calls Tryd.prog 77 #[.string ⟨#[48, 46, 50, 53]⟩, .string ⟨#[47]⟩] w fun e w' => e = .returned (.tuple #[.string ⟨#[48, 46, 50, 53]⟩, .string ⟨#[]⟩, .bool false]) ∧ Below w.heap.size w w' := by
  have h := cut_one ⟨#[48, 46, 50, 53]⟩ 47 w (by decide)
  rw [show Lib.cut (⟨#[48, 46, 50, 53]⟩ : ByteArray).data.toList [47] = ([48, 46, 50, 53], [], false) from by decide] at h
  exact h
theorem pc3 (w : World) : Calls Tryd.prog 77 #[.string ⟨#[48, 46, 50, 53]⟩, .string ⟨#[46]⟩] w fun e w' => e = .returned (.tuple #[.string ⟨#[48]⟩, .string ⟨#[50, 53]⟩, .bool true]) ∧ Below w.heap.size w w' := by
  have h := cut_one ⟨#[48, 46, 50, 53]⟩ 46 w (by decide)
  rw [show Lib.cut (⟨#[48, 46, 50, 53]⟩ : ByteArray).data.toList [46] = ([48], [50, 53], true) from by decide] at h
  exact h
theorem pc4 (w : World) : Calls Tryd.prog 78 #[.string ⟨#[48, 50, 53]⟩, .string ⟨#[48]⟩] w fun e w' => e = .returned (.string ⟨#[50, 53]⟩) ∧ Below w.heap.size w w' := by
  have h := Tryd.strings_Trim_one ⟨#[48, 50, 53]⟩ 48 (by decide) w (by decide)
  rw [show Lib.trimB (⟨#[48, 50, 53]⟩ : ByteArray).data.toList 48 = [50, 53] from by decide] at h
  refine h.mono fun e w' ⟨a, b⟩ => ⟨a, ?_⟩
  rcases b with rfl | rfl
  · exact Below.refl _ _
  · exact (Below.refl _ _).drew
theorem pc5 (w : World) : Calls Tryd.prog 81 #[.string ⟨#[48, 50, 53]⟩] w fun e w' => e = .returned (.agg #[.int .u64 (hiN 25), .int .u64 (loN 25)]) ∧ Below w.heap.size w w' :=
  read_any ⟨#[48, 50, 53]⟩ w (by decide) (by decide)
theorem pc6 (x : Nat) (hx : x < 1000) (w : World) : Calls Tryd.prog 49 #[.int .u64 (x : Int)] w fun e w' => e = .returned (.agg #[.int .u64 0, .int .u64 (x : Int)]) ∧ Below w.heap.size w w' := by
  have h := small_any x (by omega) w
  rw [hiN_small (by omega), loN_small (by omega)] at h
  exact h
theorem pc61 (w : World) : Calls Tryd.prog 49 #[.int .u64 1] w fun e w' => e = .returned (.agg #[.int .u64 0, .int .u64 1]) ∧ Below w.heap.size w w' := pc6 1 (by decide) w
theorem pc610 (w : World) : Calls Tryd.prog 49 #[.int .u64 10] w fun e w' => e = .returned (.agg #[.int .u64 0, .int .u64 10]) ∧ Below w.heap.size w w' := pc6 10 (by decide) w
theorem pc6100 (w : World) : Calls Tryd.prog 49 #[.int .u64 100] w fun e w' => e = .returned (.agg #[.int .u64 0, .int .u64 100]) ∧ Below w.heap.size w w' := pc6 100 (by decide) w
theorem pc7 (w : World) : Calls Tryd.prog 51 #[.agg #[.bool false, .int .u64 (hiN 25), .int .u64 (loN 25), .int .u64 0, .int .u64 100]] w fun e w' => e = .returned (.tuple #[.agg #[.int .i64 1, .int .i64 4], .int .i64 0]) ∧ Below w.heap.size w w' := by
  have h := fit_any false 25 100 (by decide) (by decide) (by decide) w
  rw [show hiN 100 = 0 from by decide, show loN 100 = 100 from by decide, show fitS false 25 100 = (1, 4, 0) from by decide] at h
  exact h
def tenN : Nat → Int
  | 0 => 1
  | 1 => 10
  | _ => 100
set_option maxHeartbeats 4000000 in
set_option maxRecDepth 100000 in
theorem parse_known (w : World) :
    Calls Tryd.prog 47 #[.string ⟨#[48, 46, 50, 53]⟩] w fun e w' => e = .returned (.tuple #[.agg #[.int .i64 1, .int .i64 4], .int .i64 0]) ∧ Below w.heap.size w w' := by
  have M1 := Lib.hid pc1
  have M2 := Lib.hid pc2
  have M3 := Lib.hid pc3
  have M4 := Lib.hid pc4
  have M5 := Lib.hid number_0
  have M6 := Lib.hid digits_25
  have M7 := Lib.hid pc5
  have M8 := Lib.hid pc61
  have M9 := Lib.hid pc610
  have M10 := Lib.hid pc6100
  have M11 := Lib.hid pc7
  have ecat : ((⟨#[48]⟩ : ByteArray) ++ ⟨#[50, 53]⟩) = ⟨#[48, 50, 53]⟩ := by decide
  go_enter Tryd.func47, Tryd.ntmps47
  go_wp2_with fail
  with_reducible refine (M1.out _).mono ?_
  rintro e w1 ⟨rfl, hb1⟩
  have h_R : w1.heap[w.heap.size]? = some (.cells #[.int .i64 0, .int .i64 0] 24 (0, 0)) := by
    refine Hand.kb hb1 ?_; simp (disch := first | omega | (simp only [Hand.sa, Hand.ss, Hand.sd, Hand.sn]; first | done | omega)) only [Hand.q2, Hand.q1, Hand.q5, Hand.q6, Hand.q4, Hand.q3] <;> rfl
  have hB' : Below w.heap.size w w1 := Hand.stepB hb1 (by repeat (with_reducible first | apply Below.refl _ _ | apply Below.drew | apply pw_below_drewN | (apply Below.setCell; rotate_left; (dsimp only; omega)) | (apply Below.alloc; rotate_left; (first | omega | (simp only [Hand.sa, Hand.ss, Hand.sd, Hand.sn]; omega))))) (Nat.le_refl _)
  clear hb1
  have g_R := h_R
  have hB := hB'
  clear hB' h_R
  obtain ⟨z_R, z1_R, z2_R, y0_R, y1_R⟩ := Hand.hz g_R
  obtain ⟨c_R_0, f_R_0, c_R_1, f_R_1⟩ := Hand.hc2 g_R
  have zw : w.heap.size ≤ w1.heap.size := hB.size
  have HG := Lib.hid (And.intro g_R (hB))
  clear g_R hB
  go_wp2_with fail
  with_reducible refine (M2.out _).mono ?_
  rintro e w2 ⟨rfl, hb2⟩
  obtain ⟨g_R, hB⟩ := HG.out
  have h_R : w2.heap[w.heap.size]? = some (.cells #[.int .i64 0, .int .i64 0] 24 (0, 0)) := by
    refine Hand.kb hb2 ?_; first | with_reducible exact g_R | (simp (disch := first | omega | (simp only [Hand.sa, Hand.ss, Hand.sd, Hand.sn]; first | done | omega)) only [Hand.q2, Hand.q1, Hand.q5, Hand.q6, Hand.q4, Hand.q3, g_R] <;> rfl)
  have hB' : Below w.heap.size w w2 := Hand.stepB hb2 (by repeat (with_reducible first | apply hB | apply Below.drew | apply pw_below_drewN | (apply Below.setCell; rotate_left; (dsimp only; omega)) | (apply Below.alloc; rotate_left; (first | omega | (simp only [Hand.sa, Hand.ss, Hand.sd, Hand.sn]; omega))))) (Nat.le_refl _)
  clear HG hB g_R zw z_R z1_R z2_R y0_R y1_R c_R_0 f_R_0 c_R_1 f_R_1
  clear hb2
  have g_R := h_R
  have hB := hB'
  clear hB' h_R
  obtain ⟨z_R, z1_R, z2_R, y0_R, y1_R⟩ := Hand.hz g_R
  obtain ⟨c_R_0, f_R_0, c_R_1, f_R_1⟩ := Hand.hc2 g_R
  have zw : w.heap.size ≤ w2.heap.size := hB.size
  have HG := Lib.hid (And.intro g_R (hB))
  clear g_R hB
  go_wp2_with fail
  with_reducible refine (M3.out _).mono ?_
  rintro e w3 ⟨rfl, hb3⟩
  obtain ⟨g_R, hB⟩ := HG.out
  have h_R : w3.heap[w.heap.size]? = some (.cells #[.int .i64 0, .int .i64 0] 24 (0, 0)) := by
    refine Hand.kb hb3 ?_; first | with_reducible exact g_R | (simp (disch := first | omega | (simp only [Hand.sa, Hand.ss, Hand.sd, Hand.sn]; first | done | omega)) only [Hand.q2, Hand.q1, Hand.q5, Hand.q6, Hand.q4, Hand.q3, g_R] <;> rfl)
  have hB' : Below w.heap.size w w3 := Hand.stepB hb3 (by repeat (with_reducible first | apply hB | apply Below.drew | apply pw_below_drewN | (apply Below.setCell; rotate_left; (dsimp only; omega)) | (apply Below.alloc; rotate_left; (first | omega | (simp only [Hand.sa, Hand.ss, Hand.sd, Hand.sn]; omega))))) (Nat.le_refl _)
  clear HG hB g_R zw z_R z1_R z2_R y0_R y1_R c_R_0 f_R_0 c_R_1 f_R_1
  clear hb3
  have g_R := h_R
  have hB := hB'
  clear hB' h_R
  obtain ⟨z_R, z1_R, z2_R, y0_R, y1_R⟩ := Hand.hz g_R
  obtain ⟨c_R_0, f_R_0, c_R_1, f_R_1⟩ := Hand.hc2 g_R
  have zw : w.heap.size ≤ w3.heap.size := hB.size
  have HG := Lib.hid (And.intro g_R (hB))
  clear g_R hB
  go_wp2_with fail
  with_reducible refine (M4.out _).mono ?_
  rintro e w4 ⟨rfl, hb4⟩
  obtain ⟨g_R, hB⟩ := HG.out
  have h_R : w4.heap[w.heap.size]? = some (.cells #[.int .i64 0, .int .i64 0] 24 (0, 0)) := by
    refine Hand.kb hb4 ?_; first | with_reducible exact g_R | (simp (disch := first | omega | (simp only [Hand.sa, Hand.ss, Hand.sd, Hand.sn]; first | done | omega)) only [Hand.q2, Hand.q1, Hand.q5, Hand.q6, Hand.q4, Hand.q3, g_R] <;> rfl)
  have hB' : Below w.heap.size w w4 := Hand.stepB hb4 (by repeat (with_reducible first | apply hB | apply Below.drew | apply pw_below_drewN | (apply Below.setCell; rotate_left; (dsimp only; omega)) | (apply Below.alloc; rotate_left; (first | omega | (simp only [Hand.sa, Hand.ss, Hand.sd, Hand.sn]; omega))))) (Nat.le_refl _)
  clear HG hB g_R zw z_R z1_R z2_R y0_R y1_R c_R_0 f_R_0 c_R_1 f_R_1
  clear hb4
  have g_R := h_R
  have hB := hB'
  clear hB' h_R
  obtain ⟨z_R, z1_R, z2_R, y0_R, y1_R⟩ := Hand.hz g_R
  obtain ⟨c_R_0, f_R_0, c_R_1, f_R_1⟩ := Hand.hc2 g_R
  have zw : w.heap.size ≤ w4.heap.size := hB.size
  have HG := Lib.hid (And.intro g_R (hB))
  clear g_R hB
  go_wp2_with fail
  with_reducible refine (M5.out _).mono ?_
  rintro e w5 ⟨rfl, hb5⟩
  obtain ⟨g_R, hB⟩ := HG.out
  have h_R : w5.heap[w.heap.size]? = some (.cells #[.int .i64 0, .int .i64 0] 24 (0, 0)) := by
    refine Hand.kb hb5 ?_; first | with_reducible exact g_R | (simp (disch := first | omega | (simp only [Hand.sa, Hand.ss, Hand.sd, Hand.sn]; first | done | omega)) only [Hand.q2, Hand.q1, Hand.q5, Hand.q6, Hand.q4, Hand.q3, g_R] <;> rfl)
  have hB' : Below w.heap.size w w5 := Hand.stepB hb5 (by repeat (with_reducible first | apply hB | apply Below.drew | apply pw_below_drewN | (apply Below.setCell; rotate_left; (dsimp only; omega)) | (apply Below.alloc; rotate_left; (first | omega | (simp only [Hand.sa, Hand.ss, Hand.sd, Hand.sn]; omega))))) (Nat.le_refl _)
  clear HG hB g_R zw z_R z1_R z2_R y0_R y1_R c_R_0 f_R_0 c_R_1 f_R_1
  clear hb5
  have g_R := h_R
  have hB := hB'
  clear hB' h_R
  obtain ⟨z_R, z1_R, z2_R, y0_R, y1_R⟩ := Hand.hz g_R
  obtain ⟨c_R_0, f_R_0, c_R_1, f_R_1⟩ := Hand.hc2 g_R
  have zw : w.heap.size ≤ w5.heap.size := hB.size
  have HG := Lib.hid (And.intro g_R (hB))
  clear g_R hB
  go_wp2_with fail
  with_reducible refine (M6.out _).mono ?_
  rintro e w6 ⟨rfl, hb6⟩
  obtain ⟨g_R, hB⟩ := HG.out
  have h_R : w6.heap[w.heap.size]? = some (.cells #[.int .i64 0, .int .i64 0] 24 (0, 0)) := by
    refine Hand.kb hb6 ?_; first | with_reducible exact g_R | (simp (disch := first | omega | (simp only [Hand.sa, Hand.ss, Hand.sd, Hand.sn]; first | done | omega)) only [Hand.q2, Hand.q1, Hand.q5, Hand.q6, Hand.q4, Hand.q3, g_R] <;> rfl)
  have hB' : Below w.heap.size w w6 := Hand.stepB hb6 (by repeat (with_reducible first | apply hB | apply Below.drew | apply pw_below_drewN | (apply Below.setCell; rotate_left; (dsimp only; omega)) | (apply Below.alloc; rotate_left; (first | omega | (simp only [Hand.sa, Hand.ss, Hand.sd, Hand.sn]; omega))))) (Nat.le_refl _)
  clear HG hB g_R zw z_R z1_R z2_R y0_R y1_R c_R_0 f_R_0 c_R_1 f_R_1
  clear hb6
  have g_R := h_R
  have hB := hB'
  clear hB' h_R
  obtain ⟨z_R, z1_R, z2_R, y0_R, y1_R⟩ := Hand.hz g_R
  obtain ⟨c_R_0, f_R_0, c_R_1, f_R_1⟩ := Hand.hc2 g_R
  have zw : w.heap.size ≤ w6.heap.size := hB.size
  have HG := Lib.hid (And.intro g_R (hB))
  clear g_R hB
  go_wp2_with fail
  with_reducible refine (M7.out _).mono ?_
  rintro e w7 ⟨rfl, hb7⟩
  obtain ⟨g_R, hB⟩ := HG.out
  have h_R : w7.heap[w.heap.size]? = some (.cells #[.int .i64 0, .int .i64 0] 24 (0, 0)) := by
    refine Hand.kb hb7 ?_; first | with_reducible exact g_R | (simp (disch := first | omega | (simp only [Hand.sa, Hand.ss, Hand.sd, Hand.sn]; first | done | omega)) only [Hand.q2, Hand.q1, Hand.q5, Hand.q6, Hand.q4, Hand.q3, g_R] <;> rfl)
  have hB' : Below w.heap.size w w7 := Hand.stepB hb7 (by repeat (with_reducible first | apply hB | apply Below.drew | apply pw_below_drewN | (apply Below.setCell; rotate_left; (dsimp only; omega)) | (apply Below.alloc; rotate_left; (first | omega | (simp only [Hand.sa, Hand.ss, Hand.sd, Hand.sn]; omega))))) (Nat.le_refl _)
  clear HG hB g_R zw z_R z1_R z2_R y0_R y1_R c_R_0 f_R_0 c_R_1 f_R_1
  clear hb7
  have g_R := h_R
  have hB := hB'
  clear hB' h_R
  obtain ⟨z_R, z1_R, z2_R, y0_R, y1_R⟩ := Hand.hz g_R
  obtain ⟨c_R_0, f_R_0, c_R_1, f_R_1⟩ := Hand.hc2 g_R
  have zw : w.heap.size ≤ w7.heap.size := hB.size
  have HG := Lib.hid (And.intro g_R (hB))
  clear g_R hB
  go_wp2_with fail
  with_reducible refine (M8.out _).mono ?_
  rintro e w8 ⟨rfl, hb8⟩
  obtain ⟨g_R, hB⟩ := HG.out
  have h_R : w8.heap[w.heap.size]? = some (.cells #[.int .i64 0, .int .i64 0] 24 (0, 0)) := by
    refine Hand.kb hb8 ?_; first | with_reducible exact g_R | (simp (disch := first | omega | (simp only [Hand.sa, Hand.ss, Hand.sd, Hand.sn]; first | done | omega)) only [Hand.q2, Hand.q1, Hand.q5, Hand.q6, Hand.q4, Hand.q3, g_R] <;> rfl)
  have hB' : Below w.heap.size w w8 := Hand.stepB hb8 (by repeat (with_reducible first | apply hB | apply Below.drew | apply pw_below_drewN | (apply Below.setCell; rotate_left; (dsimp only; omega)) | (apply Below.alloc; rotate_left; (first | omega | (simp only [Hand.sa, Hand.ss, Hand.sd, Hand.sn]; omega))))) (Nat.le_refl _)
  clear HG hB g_R zw z_R z1_R z2_R y0_R y1_R c_R_0 f_R_0 c_R_1 f_R_1
  clear hb8
  have g_R := h_R
  have hB := hB'
  clear hB' h_R
  obtain ⟨z_R, z1_R, z2_R, y0_R, y1_R⟩ := Hand.hz g_R
  obtain ⟨c_R_0, f_R_0, c_R_1, f_R_1⟩ := Hand.hc2 g_R
  have zw : w.heap.size ≤ w8.heap.size := hB.size
  have HG := Lib.hid (And.intro g_R (hB))
  clear g_R hB
  go_wp2_with fail
  obtain ⟨g_R, hB⟩ := HG.out
  have k8 : w.heap.size < w8.heap.size := z_R
  have G8 := Lib.hid (And.intro g_R hB)
  go_loopw [93] (fun _ wr => ∃ k : Nat, k ≤ 2 ∧ wr.heap[w.heap.size]? = some (.cells #[.int .i64 0, .int .i64 0] 24 (0, 0)) ∧ wr.heap[w8.heap.size]? = some (.cells #[.bool false, .int .u64 (hiN 25), .int .u64 (loN 25), .int .u64 0, .int .u64 (tenN k)] 71 (0, 0)) ∧ wr.heap[w8.heap.size + 1]? = some (.stringIter ⟨#[50, 53]⟩ k) ∧ Below w.heap.size w wr) (fun _ wr => 2 - posOf (wr.heap[w8.heap.size + 1]?))
  case atStart =>
    refine ⟨0, Nat.zero_le _, ?_, ?_, ?_, ?_⟩
    · simp (disch := first | omega | (simp only [World.size_alloc, World.size_setCell, World.size_drew]; omega)) only [World.iter, Hand.q2, Hand.q4, Hand.q3, G8.out.1]
    · simp (disch := first | omega | (simp only [World.size_alloc, World.size_setCell, World.size_drew]; first | done | omega)) only [World.iter, Hand.q1, Hand.q2, Hand.q4, Hand.q3]
      rfl
    · simp (disch := first | omega | (simp only [World.size_alloc, World.size_setCell, World.size_drew]; first | done | omega)) only [World.iter, Hand.q1, Hand.q2, Hand.q4, Hand.q3]
    · unfold World.iter
      repeat (first | exact G8.out.2 | (with_reducible first | apply Below.drew | refine Below.setCell ?_ (by dsimp only; omega) _ | refine Below.alloc ?_ (by first | omega | (simp only [Hand.sa, Hand.ss, Hand.sd, Hand.sn]; omega)) _))
  case round =>
    obtain ⟨k, hk, q_R, q_F, q_I, hB0⟩ := hrel
    clear HG G8 zw
    obtain rfl | rfl | rfl : k = 0 ∨ k = 1 ∨ k = 2 := by omega
    · have HIK := Lib.hid q_I
      obtain ⟨W1, hn1, g_I, hO1, hB1⟩ := next_at Tryd.prog q_I (by decide) (by decide)
      have g_R := (hO1 (w.heap.size) (by omega)).trans q_R
      have g_F : W1.heap[w8.heap.size]? = some (.cells #[.bool false, .int .u64 (hiN 25), .int .u64 (loN 25), .int .u64 0, .int .u64 1] 71 (0, 0)) := (hO1 (w8.heap.size) (by omega)).trans q_F
      have hB := hB0.trans (hB1 w.heap.size (by omega))
      clear q_R q_F q_I hO1 hB1 hB0
      obtain ⟨z_R, z1_R, z2_R, y0_R, y1_R⟩ := Hand.hz g_R
      obtain ⟨c_R_0, f_R_0, c_R_1, f_R_1⟩ := Hand.hc2 g_R
      obtain ⟨z_F, z1_F, z2_F, y0_F, y1_F⟩ := Hand.hz g_F
      obtain ⟨c_F_0, f_F_0, c_F_1, f_F_1, c_F_2, f_F_2, c_F_3, f_F_3, c_F_4, f_F_4⟩ := Hand.hc5 g_F
      obtain ⟨z_I, z1_I, z2_I, y0_I, y1_I⟩ := Hand.hz g_I
      have zw : w.heap.size ≤ W1.heap.size := hB.size
      have HG := Lib.hid (And.intro g_R (And.intro g_F (And.intro g_I (hB))))
      clear g_R g_F g_I hB
      go_wp2_with fail
      with_reducible refine (M9.out _).mono ?_
      rintro e w9 ⟨rfl, hb9⟩
      obtain ⟨g_R, g_F, g_I, hB⟩ := HG.out
      have h_R : w9.heap[w.heap.size]? = some (.cells #[.int .i64 0, .int .i64 0] 24 (0, 0)) := by
        refine Hand.kb hb9 ?_; first | with_reducible exact g_R | (simp (disch := first | omega | (simp only [Hand.sa, Hand.ss, Hand.sd, Hand.sn]; first | done | omega)) only [Hand.q2, Hand.q1, Hand.q5, Hand.q6, Hand.q4, Hand.q3, g_R] <;> rfl)
      have h_F : w9.heap[w8.heap.size]? = some (.cells #[.bool false, .int .u64 (hiN 25), .int .u64 (loN 25), .int .u64 0, .int .u64 1] 71 (0, 0)) := by
        refine Hand.kb hb9 ?_; first | with_reducible exact g_F | (simp (disch := first | omega | (simp only [Hand.sa, Hand.ss, Hand.sd, Hand.sn]; first | done | omega)) only [Hand.q2, Hand.q1, Hand.q5, Hand.q6, Hand.q4, Hand.q3, g_F] <;> rfl)
      have h_I : w9.heap[w8.heap.size + 1]? = some (.stringIter ⟨#[50, 53]⟩ 1) := by
        refine Hand.kb hb9 ?_; first | with_reducible exact g_I | (simp (disch := first | omega | (simp only [Hand.sa, Hand.ss, Hand.sd, Hand.sn]; first | done | omega)) only [Hand.q2, Hand.q1, Hand.q5, Hand.q6, Hand.q4, Hand.q3, g_I] <;> rfl)
      have hB' : Below w.heap.size w w9 := Hand.stepB hb9 (by repeat (with_reducible first | apply hB | apply Below.drew | apply pw_below_drewN | (apply Below.setCell; rotate_left; (dsimp only; omega)) | (apply Below.alloc; rotate_left; (first | omega | (simp only [Hand.sa, Hand.ss, Hand.sd, Hand.sn]; omega))))) (Nat.le_refl _)
      clear HG hB g_R g_F g_I zw z_R z1_R z2_R y0_R y1_R c_R_0 f_R_0 c_R_1 f_R_1 z_F z1_F z2_F y0_F y1_F c_F_0 f_F_0 c_F_1 f_F_1 c_F_2 f_F_2 c_F_3 f_F_3 c_F_4 f_F_4 z_I z1_I z2_I y0_I y1_I
      clear hb9
      have g_R := h_R
      have g_F := h_F
      have g_I := h_I
      have hB := hB'
      clear hB' h_R h_F h_I
      obtain ⟨z_R, z1_R, z2_R, y0_R, y1_R⟩ := Hand.hz g_R
      obtain ⟨c_R_0, f_R_0, c_R_1, f_R_1⟩ := Hand.hc2 g_R
      obtain ⟨z_F, z1_F, z2_F, y0_F, y1_F⟩ := Hand.hz g_F
      obtain ⟨c_F_0, f_F_0, c_F_1, f_F_1, c_F_2, f_F_2, c_F_3, f_F_3, c_F_4, f_F_4⟩ := Hand.hc5 g_F
      obtain ⟨z_I, z1_I, z2_I, y0_I, y1_I⟩ := Hand.hz g_I
      have zw : w.heap.size ≤ w9.heap.size := hB.size
      have HG := Lib.hid (And.intro g_R (And.intro g_F (And.intro g_I (hB))))
      clear g_R g_F g_I hB
      go_wp2
      go_roundw
      case rel =>
        obtain ⟨g_R, g_F, g_I, hB⟩ := HG.out
        refine ⟨1, by omega, ?_, ?_, ?_, ?_⟩
        · simp (disch := omega) only [Hand.q2, Hand.q5, g_R]
        · simp (disch := omega) only [Hand.q1, Hand.q5, g_F]; rfl
        · simp (disch := omega) only [Hand.q2, Hand.q5, g_I]
        · exact (hB.setCell (by dsimp only; omega) _).setCell (by dsimp only; omega) _
      case measure =>
        obtain ⟨g_R, g_F, g_I, hB⟩ := HG.out
        simp (disch := omega) only [Hand.q2, Hand.q5, g_I, HIK.out, posOf]
        omega
    · have HIK := Lib.hid q_I
      obtain ⟨W1, hn1, g_I, hO1, hB1⟩ := next_at Tryd.prog q_I (by decide) (by decide)
      have g_R := (hO1 (w.heap.size) (by omega)).trans q_R
      have g_F : W1.heap[w8.heap.size]? = some (.cells #[.bool false, .int .u64 (hiN 25), .int .u64 (loN 25), .int .u64 0, .int .u64 10] 71 (0, 0)) := (hO1 (w8.heap.size) (by omega)).trans q_F
      have hB := hB0.trans (hB1 w.heap.size (by omega))
      clear q_R q_F q_I hO1 hB1 hB0
      obtain ⟨z_R, z1_R, z2_R, y0_R, y1_R⟩ := Hand.hz g_R
      obtain ⟨c_R_0, f_R_0, c_R_1, f_R_1⟩ := Hand.hc2 g_R
      obtain ⟨z_F, z1_F, z2_F, y0_F, y1_F⟩ := Hand.hz g_F
      obtain ⟨c_F_0, f_F_0, c_F_1, f_F_1, c_F_2, f_F_2, c_F_3, f_F_3, c_F_4, f_F_4⟩ := Hand.hc5 g_F
      obtain ⟨z_I, z1_I, z2_I, y0_I, y1_I⟩ := Hand.hz g_I
      have zw : w.heap.size ≤ W1.heap.size := hB.size
      have HG := Lib.hid (And.intro g_R (And.intro g_F (And.intro g_I (hB))))
      clear g_R g_F g_I hB
      go_wp2_with fail
      with_reducible refine (M10.out _).mono ?_
      rintro e w9 ⟨rfl, hb9⟩
      obtain ⟨g_R, g_F, g_I, hB⟩ := HG.out
      have h_R : w9.heap[w.heap.size]? = some (.cells #[.int .i64 0, .int .i64 0] 24 (0, 0)) := by
        refine Hand.kb hb9 ?_; first | with_reducible exact g_R | (simp (disch := first | omega | (simp only [Hand.sa, Hand.ss, Hand.sd, Hand.sn]; first | done | omega)) only [Hand.q2, Hand.q1, Hand.q5, Hand.q6, Hand.q4, Hand.q3, g_R] <;> rfl)
      have h_F : w9.heap[w8.heap.size]? = some (.cells #[.bool false, .int .u64 (hiN 25), .int .u64 (loN 25), .int .u64 0, .int .u64 10] 71 (0, 0)) := by
        refine Hand.kb hb9 ?_; first | with_reducible exact g_F | (simp (disch := first | omega | (simp only [Hand.sa, Hand.ss, Hand.sd, Hand.sn]; first | done | omega)) only [Hand.q2, Hand.q1, Hand.q5, Hand.q6, Hand.q4, Hand.q3, g_F] <;> rfl)
      have h_I : w9.heap[w8.heap.size + 1]? = some (.stringIter ⟨#[50, 53]⟩ 2) := by
        refine Hand.kb hb9 ?_; first | with_reducible exact g_I | (simp (disch := first | omega | (simp only [Hand.sa, Hand.ss, Hand.sd, Hand.sn]; first | done | omega)) only [Hand.q2, Hand.q1, Hand.q5, Hand.q6, Hand.q4, Hand.q3, g_I] <;> rfl)
      have hB' : Below w.heap.size w w9 := Hand.stepB hb9 (by repeat (with_reducible first | apply hB | apply Below.drew | apply pw_below_drewN | (apply Below.setCell; rotate_left; (dsimp only; omega)) | (apply Below.alloc; rotate_left; (first | omega | (simp only [Hand.sa, Hand.ss, Hand.sd, Hand.sn]; omega))))) (Nat.le_refl _)
      clear HG hB g_R g_F g_I zw z_R z1_R z2_R y0_R y1_R c_R_0 f_R_0 c_R_1 f_R_1 z_F z1_F z2_F y0_F y1_F c_F_0 f_F_0 c_F_1 f_F_1 c_F_2 f_F_2 c_F_3 f_F_3 c_F_4 f_F_4 z_I z1_I z2_I y0_I y1_I
      clear hb9
      have g_R := h_R
      have g_F := h_F
      have g_I := h_I
      have hB := hB'
      clear hB' h_R h_F h_I
      obtain ⟨z_R, z1_R, z2_R, y0_R, y1_R⟩ := Hand.hz g_R
      obtain ⟨c_R_0, f_R_0, c_R_1, f_R_1⟩ := Hand.hc2 g_R
      obtain ⟨z_F, z1_F, z2_F, y0_F, y1_F⟩ := Hand.hz g_F
      obtain ⟨c_F_0, f_F_0, c_F_1, f_F_1, c_F_2, f_F_2, c_F_3, f_F_3, c_F_4, f_F_4⟩ := Hand.hc5 g_F
      obtain ⟨z_I, z1_I, z2_I, y0_I, y1_I⟩ := Hand.hz g_I
      have zw : w.heap.size ≤ w9.heap.size := hB.size
      have HG := Lib.hid (And.intro g_R (And.intro g_F (And.intro g_I (hB))))
      clear g_R g_F g_I hB
      go_wp2
      go_roundw
      case rel =>
        obtain ⟨g_R, g_F, g_I, hB⟩ := HG.out
        refine ⟨2, by omega, ?_, ?_, ?_, ?_⟩
        · simp (disch := omega) only [Hand.q2, Hand.q5, g_R]
        · simp (disch := omega) only [Hand.q1, Hand.q5, g_F]; rfl
        · simp (disch := omega) only [Hand.q2, Hand.q5, g_I]
        · exact (hB.setCell (by dsimp only; omega) _).setCell (by dsimp only; omega) _
      case measure =>
        obtain ⟨g_R, g_F, g_I, hB⟩ := HG.out
        simp (disch := omega) only [Hand.q2, Hand.q5, g_I, HIK.out, posOf]
        omega
    · have hn1 := next_end Tryd.prog q_I (by decide)
      have g_R := q_R
      have g_F : wr.heap[w8.heap.size]? = some (.cells #[.bool false, .int .u64 (hiN 25), .int .u64 (loN 25), .int .u64 0, .int .u64 100] 71 (0, 0)) := q_F
      have hB := hB0
      clear q_R q_F q_I hB0
      obtain ⟨z_R, z1_R, z2_R, y0_R, y1_R⟩ := Hand.hz g_R
      obtain ⟨c_R_0, f_R_0, c_R_1, f_R_1⟩ := Hand.hc2 g_R
      obtain ⟨z_F, z1_F, z2_F, y0_F, y1_F⟩ := Hand.hz g_F
      obtain ⟨c_F_0, f_F_0, c_F_1, f_F_1, c_F_2, f_F_2, c_F_3, f_F_3, c_F_4, f_F_4⟩ := Hand.hc5 g_F
      have zw : w.heap.size ≤ wr.heap.size := hB.size
      have HG := Lib.hid (And.intro g_R (And.intro g_F (hB)))
      clear g_R g_F hB
      go_wp2_with fail
      with_reducible refine (M11.out _).mono ?_
      rintro e w9 ⟨rfl, hb9⟩
      obtain ⟨g_R, g_F, hB⟩ := HG.out
      have h_R : w9.heap[w.heap.size]? = some (.cells #[.int .i64 0, .int .i64 0] 24 (0, 0)) := by
        refine Hand.kb hb9 ?_; first | with_reducible exact g_R | (simp (disch := first | omega | (simp only [Hand.sa, Hand.ss, Hand.sd, Hand.sn]; first | done | omega)) only [Hand.q2, Hand.q1, Hand.q5, Hand.q6, Hand.q4, Hand.q3, g_R] <;> rfl)
      have h_F : w9.heap[w8.heap.size]? = some (.cells #[.bool false, .int .u64 (hiN 25), .int .u64 (loN 25), .int .u64 0, .int .u64 100] 71 (0, 0)) := by
        refine Hand.kb hb9 ?_; first | with_reducible exact g_F | (simp (disch := first | omega | (simp only [Hand.sa, Hand.ss, Hand.sd, Hand.sn]; first | done | omega)) only [Hand.q2, Hand.q1, Hand.q5, Hand.q6, Hand.q4, Hand.q3, g_F] <;> rfl)
      have hB' : Below w.heap.size w w9 := Hand.stepB hb9 (by repeat (with_reducible first | apply hB | apply Below.drew | apply pw_below_drewN | (apply Below.setCell; rotate_left; (dsimp only; omega)) | (apply Below.alloc; rotate_left; (first | omega | (simp only [Hand.sa, Hand.ss, Hand.sd, Hand.sn]; omega))))) (Nat.le_refl _)
      clear HG hB g_R g_F zw z_R z1_R z2_R y0_R y1_R c_R_0 f_R_0 c_R_1 f_R_1 z_F z1_F z2_F y0_F y1_F c_F_0 f_F_0 c_F_1 f_F_1 c_F_2 f_F_2 c_F_3 f_F_3 c_F_4 f_F_4
      clear hb9
      have g_R := h_R
      have g_F := h_F
      have hB := hB'
      clear hB' h_R h_F
      obtain ⟨z_R, z1_R, z2_R, y0_R, y1_R⟩ := Hand.hz g_R
      obtain ⟨c_R_0, f_R_0, c_R_1, f_R_1⟩ := Hand.hc2 g_R
      obtain ⟨z_F, z1_F, z2_F, y0_F, y1_F⟩ := Hand.hz g_F
      obtain ⟨c_F_0, f_F_0, c_F_1, f_F_1, c_F_2, f_F_2, c_F_3, f_F_3, c_F_4, f_F_4⟩ := Hand.hc5 g_F
      have zw : w.heap.size ≤ w9.heap.size := hB.size
      have HG := Lib.hid (And.intro g_R (And.intro g_F (hB)))
      clear g_R g_F hB
      go_wp2
      obtain ⟨g_R, g_F, hB⟩ := HG.out
      refine bodyPost_ret (results_ct rfl _ _ (w.heap.size) 24 #[.int .i64 1, .int .i64 4] (0, 0) _ rfl ?_ Tryd.underlying24 rfl (by kernel_rfl)) rfl ⟨rfl, ?_⟩
      · simp (disch := omega) only [Hand.q1, g_R]; rfl
      · exact (hB.setCell (by dsimp only; omega) _).setCell (by dsimp only; omega) _
end Go.Proofs.YtofndakpenpkbaaDoor.PA
