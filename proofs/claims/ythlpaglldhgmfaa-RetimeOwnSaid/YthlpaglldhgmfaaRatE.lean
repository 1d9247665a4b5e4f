/- right of two; Mul, Div, Cmp. -/
import Derived.Test.YthlpaglldhgmfaaRatD
namespace Go.Proofs.Ythlpaglldhgmfaa.PA
open Go.RowKit Go.Proofs.YthlpaglldhgmfaaW.PrintWords Go.Proofs.YthlpaglldhgmfaaW.PrintLast Go.Proofs.YthlpaglldhgmfaaW.PrintMore
attribute [local go_sem high] eqA85 eqA31
set_option linter.unusedSimpArgs false
set_option linter.unusedVariables false
set_option maxHeartbeats 2000000 in
set_option maxRecDepth 100000 in
theorem right_two (a b c d : Int) (g : Nat) (w : World) (ha0 : -9223372036854775808 ≤ a) (ha1 : a ≤ 9223372036854775807) (hb0 : -9223372036854775808 ≤ b) (hb1 : b ≤ 9223372036854775807)
    (hc0 : -9223372036854775808 ≤ c) (hc1 : c ≤ 9223372036854775807) (hd0 : -9223372036854775808 ≤ d) (hd1 : d ≤ 9223372036854775807)
    (hg : w.heap[g]? = some (.cells #[.int .i64 a, .int .i64 b, .int .i64 c, .int .i64 d] 31 (0, 0))) :
    Calls Try.prog 81 #[.slice (some ⟨g, 0, none⟩) 2 2] w fun e w' => e = .returned (.bool (rightS a b && rightS c d)) ∧ Below w.heap.size w w' := by
  have hgl : g < w.heap.size := World.block_lt_of_cell? w _ (Hand.cell_of hg 0 _ rfl)
  have HH := Lib.hid hg
  clear hg
  go_enter Try.func81, Try.ntmps81
  go_wp2
  go_loopw [7] (fun i wr => ∃ k : Nat, k ≤ 2 ∧ i = .int .i64 k ∧ (1 ≤ k → rightS a b = true) ∧ (2 ≤ k → rightS c d = true) ∧ Below w.heap.size w wr) (fun i _ => 2 - (intOf i).toNat)
  case atStart => exact ⟨0, by omega, rfl, fun h => by omega, fun h => by omega, Below.refl _ _⟩
  case round =>
    obtain ⟨k, hk, rfl, h1, h2, hB⟩ := hrel
    have g_A := (Hand.hp_below hB hgl).trans HH.out
    have H12 := Lib.hid (And.intro h1 h2)
    clear h1 h2
    obtain ⟨z_A, z1_A, z2_A, y0_A, y1_A⟩ := Hand.hz g_A
    obtain ⟨c_A_0, f_A_0, c_A_1, f_A_1, c_A_2, f_A_2, c_A_3, f_A_3⟩ := Hand.hc4 g_A
    have zw : w.heap.size ≤ wr.heap.size := hB.size
    have HG := Lib.hid (And.intro g_A (hB))
    clear g_A hB
    by_cases k0 : k = 0
    · subst k0
      by_cases hr : rightS a b = true
      · go_wp2_with fail
        with_reducible refine (right_any a b _ ha0 ha1 hb0 hb1).mono ?_
        rintro e w1 ⟨rfl, hb9⟩
        obtain ⟨g_A, hB⟩ := HG.out
        have h_A : w1.heap[g]? = some (.cells #[.int .i64 a, .int .i64 b, .int .i64 c, .int .i64 d] 31 (0, 0)) := by
          refine Hand.kb hb9 ?_; first | with_reducible exact g_A | (simp (disch := first | omega | (simp only [Hand.sa, Hand.ss, Hand.sd, Hand.sn]; first | done | omega)) only [Hand.q2, Hand.q1, Hand.q5, Hand.q6, Hand.q4, Hand.q3, g_A] <;> rfl)
        have hB' : Below w.heap.size w w1 := Hand.stepB hb9 (by repeat (with_reducible first | apply hB | apply Below.drew | apply pw_below_drewN | (apply Below.setCell; rotate_left; (dsimp only; omega)) | (apply Below.alloc; rotate_left; (first | omega | (simp only [Hand.sa, Hand.ss, Hand.sd, Hand.sn]; omega))))) (Nat.le_refl _)
        clear HG hB g_A zw z_A z1_A z2_A y0_A y1_A c_A_0 f_A_0 c_A_1 f_A_1 c_A_2 f_A_2 c_A_3 f_A_3
        clear hb9
        have g_A := h_A
        have hB := hB'
        clear hB' h_A
        obtain ⟨z_A, z1_A, z2_A, y0_A, y1_A⟩ := Hand.hz g_A
        obtain ⟨c_A_0, f_A_0, c_A_1, f_A_1, c_A_2, f_A_2, c_A_3, f_A_3⟩ := Hand.hc4 g_A
        have zw : w.heap.size ≤ w1.heap.size := hB.size
        have HG := Lib.hid (And.intro g_A (hB))
        clear g_A hB
        go_wp2
        go_roundw
        case rel =>
          obtain ⟨g_A, hB⟩ := HG.out
          exact ⟨1, by omega, rfl, fun _ => hr, fun h => by omega, hB⟩
        case measure => simp [intOf]
      · have hr' : rightS a b = false := by simpa using hr
        clear hr
        go_wp2_with fail
        with_reducible refine (right_any a b _ ha0 ha1 hb0 hb1).mono ?_
        rintro e w1 ⟨rfl, hb9⟩
        obtain ⟨g_A, hB⟩ := HG.out
        have h_A : w1.heap[g]? = some (.cells #[.int .i64 a, .int .i64 b, .int .i64 c, .int .i64 d] 31 (0, 0)) := by
          refine Hand.kb hb9 ?_; first | with_reducible exact g_A | (simp (disch := first | omega | (simp only [Hand.sa, Hand.ss, Hand.sd, Hand.sn]; first | done | omega)) only [Hand.q2, Hand.q1, Hand.q5, Hand.q6, Hand.q4, Hand.q3, g_A] <;> rfl)
        have hB' : Below w.heap.size w w1 := Hand.stepB hb9 (by repeat (with_reducible first | apply hB | apply Below.drew | apply pw_below_drewN | (apply Below.setCell; rotate_left; (dsimp only; omega)) | (apply Below.alloc; rotate_left; (first | omega | (simp only [Hand.sa, Hand.ss, Hand.sd, Hand.sn]; omega))))) (Nat.le_refl _)
        clear HG hB g_A zw z_A z1_A z2_A y0_A y1_A c_A_0 f_A_0 c_A_1 f_A_1 c_A_2 f_A_2 c_A_3 f_A_3
        clear hb9
        have g_A := h_A
        have hB := hB'
        clear hB' h_A
        obtain ⟨z_A, z1_A, z2_A, y0_A, y1_A⟩ := Hand.hz g_A
        obtain ⟨c_A_0, f_A_0, c_A_1, f_A_1, c_A_2, f_A_2, c_A_3, f_A_3⟩ := Hand.hc4 g_A
        have zw : w.heap.size ≤ w1.heap.size := hB.size
        have HG := Lib.hid (And.intro g_A (hB))
        clear g_A hB
        go_wp2
        obtain ⟨g_A, hB⟩ := HG.out
        go_ret
        exact ⟨by rw [hr']; rfl, hB⟩
    · by_cases k1 : k = 1
      · subst k1
        by_cases hr : rightS c d = true
        · go_wp2_with fail
          with_reducible refine (right_any c d _ hc0 hc1 hd0 hd1).mono ?_
          rintro e w1 ⟨rfl, hb9⟩
          obtain ⟨g_A, hB⟩ := HG.out
          have h_A : w1.heap[g]? = some (.cells #[.int .i64 a, .int .i64 b, .int .i64 c, .int .i64 d] 31 (0, 0)) := by
            refine Hand.kb hb9 ?_; first | with_reducible exact g_A | (simp (disch := first | omega | (simp only [Hand.sa, Hand.ss, Hand.sd, Hand.sn]; first | done | omega)) only [Hand.q2, Hand.q1, Hand.q5, Hand.q6, Hand.q4, Hand.q3, g_A] <;> rfl)
          have hB' : Below w.heap.size w w1 := Hand.stepB hb9 (by repeat (with_reducible first | apply hB | apply Below.drew | apply pw_below_drewN | (apply Below.setCell; rotate_left; (dsimp only; omega)) | (apply Below.alloc; rotate_left; (first | omega | (simp only [Hand.sa, Hand.ss, Hand.sd, Hand.sn]; omega))))) (Nat.le_refl _)
          clear HG hB g_A zw z_A z1_A z2_A y0_A y1_A c_A_0 f_A_0 c_A_1 f_A_1 c_A_2 f_A_2 c_A_3 f_A_3
          clear hb9
          have g_A := h_A
          have hB := hB'
          clear hB' h_A
          obtain ⟨z_A, z1_A, z2_A, y0_A, y1_A⟩ := Hand.hz g_A
          obtain ⟨c_A_0, f_A_0, c_A_1, f_A_1, c_A_2, f_A_2, c_A_3, f_A_3⟩ := Hand.hc4 g_A
          have zw : w.heap.size ≤ w1.heap.size := hB.size
          have HG := Lib.hid (And.intro g_A (hB))
          clear g_A hB
          go_wp2
          go_roundw
          case rel =>
            obtain ⟨g_A, hB⟩ := HG.out
            exact ⟨2, by omega, rfl, fun _ => H12.out.1 (by omega), fun _ => hr, hB⟩
          case measure => simp [intOf]
        · have hr' : rightS c d = false := by simpa using hr
          clear hr
          go_wp2_with fail
          with_reducible refine (right_any c d _ hc0 hc1 hd0 hd1).mono ?_
          rintro e w1 ⟨rfl, hb9⟩
          obtain ⟨g_A, hB⟩ := HG.out
          have h_A : w1.heap[g]? = some (.cells #[.int .i64 a, .int .i64 b, .int .i64 c, .int .i64 d] 31 (0, 0)) := by
            refine Hand.kb hb9 ?_; first | with_reducible exact g_A | (simp (disch := first | omega | (simp only [Hand.sa, Hand.ss, Hand.sd, Hand.sn]; first | done | omega)) only [Hand.q2, Hand.q1, Hand.q5, Hand.q6, Hand.q4, Hand.q3, g_A] <;> rfl)
          have hB' : Below w.heap.size w w1 := Hand.stepB hb9 (by repeat (with_reducible first | apply hB | apply Below.drew | apply pw_below_drewN | (apply Below.setCell; rotate_left; (dsimp only; omega)) | (apply Below.alloc; rotate_left; (first | omega | (simp only [Hand.sa, Hand.ss, Hand.sd, Hand.sn]; omega))))) (Nat.le_refl _)
          clear HG hB g_A zw z_A z1_A z2_A y0_A y1_A c_A_0 f_A_0 c_A_1 f_A_1 c_A_2 f_A_2 c_A_3 f_A_3
          clear hb9
          have g_A := h_A
          have hB := hB'
          clear hB' h_A
          obtain ⟨z_A, z1_A, z2_A, y0_A, y1_A⟩ := Hand.hz g_A
          obtain ⟨c_A_0, f_A_0, c_A_1, f_A_1, c_A_2, f_A_2, c_A_3, f_A_3⟩ := Hand.hc4 g_A
          have zw : w.heap.size ≤ w1.heap.size := hB.size
          have HG := Lib.hid (And.intro g_A (hB))
          clear g_A hB
          go_wp2
          obtain ⟨g_A, hB⟩ := HG.out
          go_ret
          exact ⟨by rw [hr', Bool.and_false]; rfl, hB⟩
      · obtain rfl : k = 2 := by omega
        go_wp2
        obtain ⟨g_A, hB⟩ := HG.out
        go_ret
        exact ⟨by rw [H12.out.1 (by omega), H12.out.2 (by omega)]; rfl, hB⟩
end Go.Proofs.Ythlpaglldhgmfaa.PA
