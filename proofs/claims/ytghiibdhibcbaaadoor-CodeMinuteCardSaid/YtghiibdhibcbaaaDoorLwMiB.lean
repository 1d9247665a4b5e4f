/- CodeMinute: the loops. -/
import Derived.Test.YtghiibdhibcbaaaDoorLwMin
namespace Go.Proofs.YtghiibdhibcbaaaDoor.PA
open Go Go.RowKit Go.Proofs.YtghiibdhibcbaaaDoorW.PrintWords Go.Proofs.YtghiibdhibcbaaaDoorW.PrintLast Go.Proofs.YtghiibdhibcbaaaDoorW.PrintMore Go.Proofs.YtghiibdhibcbaaaDoor.CS
set_option linter.unusedSimpArgs false
set_option linter.unusedVariables false
def minO (w wr : World) (n d : Int) (dr : Bool) (lv sv : Value) : Prop :=
  ∃ s : Int, 0 ≤ s ∧ s ≤ 100 ∧ lv = .int .i64 (-1) ∧ sv = .int .i64 s ∧ wr.heap[w.heap.size]? = some (.cells #[.int .i64 n, .int .i64 d, .bool dr] 24 (0, 0)) ∧ Below w.heap.size w wr
def minI (w wr : World) (n d : Int) (dr : Bool) (F b s D : Int) (lv kv : Value) : Prop :=
  ∃ k l : Int, 0 ≤ k ∧ k ≤ F ∧ -1 ≤ l ∧ l ≤ 1000000000 ∧ (l = -1 ∨ (l = b + k - 1 ∧ 0 < k)) ∧ (s = 0 → k ≤ D → l = -1) ∧ lv = .int .i64 l ∧ kv = .int .i64 k ∧ wr.heap[w.heap.size]? = some (.cells #[.int .i64 n, .int .i64 d, .bool dr] 24 (0, 0)) ∧ Below w.heap.size w wr
theorem w59_ex (s : Int) (h : 0 ≤ s) : ∃ j : Int, 0 ≤ j ∧ j ≤ 18 ∧ ∀ w, Calls Tryd.prog 28 #[.int .i64 s] w fun e w' => e = .returned (.int .i64 j) ∧ Below w.heap.size w w' := by
  rcases (by omega : s = 0 ∨ 1 ≤ s) with rfl | h1
  · exact ⟨0, by decide, by decide, w59_0⟩
  · exact ⟨18, by decide, by decide, w59_1 s h1⟩
set_option maxHeartbeats 800000 in
set_option maxRecDepth 100000 in
theorem min_no (n d v c : Int) (dr : Bool) (hc : (c == 0) = false) (w : World) (ht : TabN w)
    (m0 : ∀ w, TabN w → Calls Tryd.prog 16 #[] w fun e w' => e = .returned (.bool true) ∧ Below w.heap.size w w')
    (m1 : ∀ w, Calls Tryd.prog 25 #[rate n d dr] w fun e w' => e = .returned (.int .i64 c) ∧ Below w.heap.size w w') :
    Calls Tryd.prog 8 #[rate n d dr, .int .i64 v] w fun e w' => e = .returned (.bool true) ∧ Below w.heap.size w w' := by
  have HT0 := Lib.hid ht
  have M0 := Lib.hid m0
  have M1 := Lib.hid m1
  clear m0 m1 ht
  go_enter Tryd.func8, Tryd.ntmps8
  go_wp2_with fail
  with_reducible refine (M0.out _ (tab_below HT0.out (bw (Below.refl _ _)))).mono ?_
  rintro e w1 ⟨rfl, hb1⟩
  have h_A : w1.heap[w.heap.size]? = some (.cells #[.int .i64 n, .int .i64 d, .bool dr] 24 (0, 0)) := by
    refine Hand.kb hb1 ?_; simp (disch := first | omega | (simp only [Hand.sa, Hand.ss, Hand.sd, Hand.sn]; first | done | omega)) only [Hand.q2, Hand.q1, Hand.q5, Hand.q6, Hand.q4, Hand.q3] <;> rfl
  have hB' : Below w.heap.size w w1 := Hand.stepB hb1 (by repeat (with_reducible first | apply Below.refl _ _ | apply Below.drew | apply pw_below_drewN | (apply Below.setCell; rotate_left; (dsimp only; omega)) | (apply Below.alloc; rotate_left; (first | omega | (simp only [Hand.sa, Hand.ss, Hand.sd, Hand.sn]; omega))))) (Nat.le_refl _)
  clear hb1
  have g_A := h_A
  have hB := hB'
  clear hB' h_A
  obtain ⟨z_A, z1_A, z2_A, y0_A, y1_A⟩ := Hand.hz g_A
  obtain ⟨c_A_0, f_A_0, c_A_1, f_A_1, c_A_2, f_A_2⟩ := Hand.hc3 g_A
  have zw : w.heap.size ≤ w1.heap.size := hB.size
  have HG := Lib.hid (And.intro g_A (hB))
  clear g_A hB
  go_wp2_with fail
  with_reducible refine (M1.out _).mono ?_
  rintro e w2 ⟨rfl, hb2⟩
  obtain ⟨g_A, hB⟩ := HG.out
  have h_A : w2.heap[w.heap.size]? = some (.cells #[.int .i64 n, .int .i64 d, .bool dr] 24 (0, 0)) := by
    refine Hand.kb hb2 ?_; first | with_reducible exact g_A | (simp (disch := first | omega | (simp only [Hand.sa, Hand.ss, Hand.sd, Hand.sn]; first | done | omega)) only [Hand.q2, Hand.q1, Hand.q5, Hand.q6, Hand.q4, Hand.q3, g_A] <;> rfl)
  have hB' : Below w.heap.size w w2 := Hand.stepB hb2 (by repeat (with_reducible first | apply hB | apply Below.drew | apply pw_below_drewN | (apply Below.setCell; rotate_left; (dsimp only; omega)) | (apply Below.alloc; rotate_left; (first | omega | (simp only [Hand.sa, Hand.ss, Hand.sd, Hand.sn]; omega))))) (Nat.le_refl _)
  clear HG hB g_A zw z_A z1_A z2_A y0_A y1_A c_A_0 f_A_0 c_A_1 f_A_1 c_A_2 f_A_2
  clear hb2
  have g_A := h_A
  have hB := hB'
  clear hB' h_A
  obtain ⟨z_A, z1_A, z2_A, y0_A, y1_A⟩ := Hand.hz g_A
  obtain ⟨c_A_0, f_A_0, c_A_1, f_A_1, c_A_2, f_A_2⟩ := Hand.hc3 g_A
  have zw : w.heap.size ≤ w2.heap.size := hB.size
  have HG := Lib.hid (And.intro g_A (hB))
  clear g_A hB
  go_wp2
  go_ret
  obtain ⟨g_A, hB⟩ := HG.out
  exact ⟨by first | rfl | (simp; done) | (simp; decide) | (simp; rfl), by first | exact hB | exact bw hB⟩
set_option maxHeartbeats 3200000 in
set_option maxRecDepth 100000 in
theorem min_false (n d v u F : Int) (B : Int → Int) (TW TH : Int → ByteArray) (Hd : ByteArray) (n1 : 1 ≤ n) (n2 : n ≤ 240000) (d1 : 1 ≤ d) (d2 : d ≤ 1001) (u0 : 0 ≤ u) (u1 : u < 2700) (hF : (n + d - 1) / d = F) (f1 : 1 ≤ F) (f2 : F ≤ 240) (hH : TW (u / 60) ++ (⟨#[58]⟩ : ByteArray) ++ TW (u % 60) ++ (⟨#[58]⟩ : ByteArray) = Hd) (hz1 : (TW (u / 60)).size = 2) (hz2 : (TW (u % 60)).size = 2) (hzH : Hd.size = 6) (hT : ∀ j, 0 ≤ j → j < 100 → (TW j).size = 2) (hZ : ∀ k, 0 ≤ k → k < F → (TH k).size ≤ 3) (R1 : ∀ s k, 0 ≤ s → s < 60 → 0 ≤ k → k < F → (s = 0 → 0 ≤ k) → 0 ≤ B s + k ∧ B s + k ≤ 1000000000) (w : World) (ht : TabN w)
    (m0 : ∀ w, TabN w → Calls Tryd.prog 16 #[] w fun e w' => e = .returned (.bool true) ∧ Below w.heap.size w w')
    (m1 : ∀ w, Calls Tryd.prog 25 #[rate n d false] w fun e w' => e = .returned (.int .i64 0) ∧ Below w.heap.size w w')
    (m2 : ∀ w, Calls Tryd.prog 26 #[.int .i64 v, .int .i64 2700] w fun e w' => e = .returned (.int .i64 u) ∧ Below w.heap.size w w')
    (m3 : ∀ j w, 0 ≤ j → j < 100 → Calls Tryd.prog 27 #[.int .i64 j] w fun e w' => e = .returned (.string (TW j)) ∧ Below w.heap.size w w')
    (m5 : ∀ k w, 0 ≤ k → k < F → Calls Tryd.prog 29 #[.int .i64 k, .bool (decide (100 < F))] w fun e w' => e = .returned (.string (TH k)) ∧ Below w.heap.size w w')
    (m6 : ∀ (k : Int) w, 0 ≤ k → k < 0 → TabN w → Calls Tryd.prog 21 #[rate n d false, .string (Hd ++ TW 0 ++ (⟨#[58]⟩ : ByteArray) ++ TH k)] w fun e w' => e = .returned (.tuple #[.int .i64 0, .int .i64 15]) ∧ Below w.heap.size w w')
    (m7 : ∀ (s k : Int) w, 0 ≤ s → s < 60 → 0 ≤ k → k < F → (s = 0 → 0 ≤ k) → TabN w → Calls Tryd.prog 21 #[rate n d false, .string (Hd ++ TW s ++ (⟨#[58]⟩ : ByteArray) ++ TH k)] w fun e w' => e = .returned (.tuple #[.int .i64 (B s + k), .int .i64 0]) ∧ Below w.heap.size w w') :
    Calls Tryd.prog 8 #[rate n d false, .int .i64 v] w fun e w' => e = .returned (.bool true) ∧ Below w.heap.size w w' := by
  have hd2 : ¬ d = 0 := by omega
  have g1 : IntKind.i64.wrap (u.tdiv 60) = u / 60 := by rw [Int.tdiv_eq_ediv_of_nonneg u0, IntKind.wrap_i64]; omega
  have g2 : u.tmod 60 = u % 60 := Int.tmod_eq_emod_of_nonneg u0
  have g3 : u.tmod 10 = u % 10 := Int.tmod_eq_emod_of_nonneg u0
  have HT0 := Lib.hid ht
  have M0 := Lib.hid m0
  have M1 := Lib.hid m1
  have M2 := Lib.hid m2
  have M3 := Lib.hid m3
  have M5 := Lib.hid m5
  have M6 := Lib.hid m6
  have M7 := Lib.hid m7
  clear m0 m1 m2 m3 m5 m6 m7 ht
  go_enter Tryd.func8, Tryd.ntmps8
  go_wp2_with fail
  with_reducible refine (M0.out _ (tab_below HT0.out (bw (Below.refl _ _)))).mono ?_
  rintro e w1 ⟨rfl, hb1⟩
  have h_A : w1.heap[w.heap.size]? = some (.cells #[.int .i64 n, .int .i64 d, .bool false] 24 (0, 0)) := by
    refine Hand.kb hb1 ?_; simp (disch := first | omega | (simp only [Hand.sa, Hand.ss, Hand.sd, Hand.sn]; first | done | omega)) only [Hand.q2, Hand.q1, Hand.q5, Hand.q6, Hand.q4, Hand.q3] <;> rfl
  have hB' : Below w.heap.size w w1 := Hand.stepB hb1 (by repeat (with_reducible first | apply Below.refl _ _ | apply Below.drew | apply pw_below_drewN | (apply Below.setCell; rotate_left; (dsimp only; omega)) | (apply Below.alloc; rotate_left; (first | omega | (simp only [Hand.sa, Hand.ss, Hand.sd, Hand.sn]; omega))))) (Nat.le_refl _)
  clear hb1
  have g_A := h_A
  have hB := hB'
  clear hB' h_A
  obtain ⟨z_A, z1_A, z2_A, y0_A, y1_A⟩ := Hand.hz g_A
  obtain ⟨c_A_0, f_A_0, c_A_1, f_A_1, c_A_2, f_A_2⟩ := Hand.hc3 g_A
  have zw : w.heap.size ≤ w1.heap.size := hB.size
  have HG := Lib.hid (And.intro g_A (hB))
  clear g_A hB
  go_wp2_with fail
  with_reducible refine (M1.out _).mono ?_
  rintro e w2 ⟨rfl, hb2⟩
  obtain ⟨g_A, hB⟩ := HG.out
  have h_A : w2.heap[w.heap.size]? = some (.cells #[.int .i64 n, .int .i64 d, .bool false] 24 (0, 0)) := by
    refine Hand.kb hb2 ?_; first | with_reducible exact g_A | (simp (disch := first | omega | (simp only [Hand.sa, Hand.ss, Hand.sd, Hand.sn]; first | done | omega)) only [Hand.q2, Hand.q1, Hand.q5, Hand.q6, Hand.q4, Hand.q3, g_A] <;> rfl)
  have hB' : Below w.heap.size w w2 := Hand.stepB hb2 (by repeat (with_reducible first | apply hB | apply Below.drew | apply pw_below_drewN | (apply Below.setCell; rotate_left; (dsimp only; omega)) | (apply Below.alloc; rotate_left; (first | omega | (simp only [Hand.sa, Hand.ss, Hand.sd, Hand.sn]; omega))))) (Nat.le_refl _)
  clear HG hB g_A zw z_A z1_A z2_A y0_A y1_A c_A_0 f_A_0 c_A_1 f_A_1 c_A_2 f_A_2
  clear hb2
  have g_A := h_A
  have hB := hB'
  clear hB' h_A
  obtain ⟨z_A, z1_A, z2_A, y0_A, y1_A⟩ := Hand.hz g_A
  obtain ⟨c_A_0, f_A_0, c_A_1, f_A_1, c_A_2, f_A_2⟩ := Hand.hc3 g_A
  have zw : w.heap.size ≤ w2.heap.size := hB.size
  have HG := Lib.hid (And.intro g_A (hB))
  clear g_A hB
  go_wp2_with fail
  with_reducible refine (M2.out _).mono ?_
  rintro e w3 ⟨rfl, hb3⟩
  obtain ⟨g_A, hB⟩ := HG.out
  have h_A : w3.heap[w.heap.size]? = some (.cells #[.int .i64 n, .int .i64 d, .bool false] 24 (0, 0)) := by
    refine Hand.kb hb3 ?_; first | with_reducible exact g_A | (simp (disch := first | omega | (simp only [Hand.sa, Hand.ss, Hand.sd, Hand.sn]; first | done | omega)) only [Hand.q2, Hand.q1, Hand.q5, Hand.q6, Hand.q4, Hand.q3, g_A] <;> rfl)
  have hB' : Below w.heap.size w w3 := Hand.stepB hb3 (by repeat (with_reducible first | apply hB | apply Below.drew | apply pw_below_drewN | (apply Below.setCell; rotate_left; (dsimp only; omega)) | (apply Below.alloc; rotate_left; (first | omega | (simp only [Hand.sa, Hand.ss, Hand.sd, Hand.sn]; omega))))) (Nat.le_refl _)
  clear HG hB g_A zw z_A z1_A z2_A y0_A y1_A c_A_0 f_A_0 c_A_1 f_A_1 c_A_2 f_A_2
  clear hb3
  have g_A := h_A
  have hB := hB'
  clear hB' h_A
  obtain ⟨z_A, z1_A, z2_A, y0_A, y1_A⟩ := Hand.hz g_A
  obtain ⟨c_A_0, f_A_0, c_A_1, f_A_1, c_A_2, f_A_2⟩ := Hand.hc3 g_A
  have zw : w.heap.size ≤ w3.heap.size := hB.size
  have HG := Lib.hid (And.intro g_A (hB))
  clear g_A hB
  go_wp2_with fail
  with_reducible refine (M3.out _ _ (by omega) (by omega)).mono ?_
  rintro e w4 ⟨rfl, hb4⟩
  obtain ⟨g_A, hB⟩ := HG.out
  have h_A : w4.heap[w.heap.size]? = some (.cells #[.int .i64 n, .int .i64 d, .bool false] 24 (0, 0)) := by
    refine Hand.kb hb4 ?_; first | with_reducible exact g_A | (simp (disch := first | omega | (simp only [Hand.sa, Hand.ss, Hand.sd, Hand.sn]; first | done | omega)) only [Hand.q2, Hand.q1, Hand.q5, Hand.q6, Hand.q4, Hand.q3, g_A] <;> rfl)
  have hB' : Below w.heap.size w w4 := Hand.stepB hb4 (by repeat (with_reducible first | apply hB | apply Below.drew | apply pw_below_drewN | (apply Below.setCell; rotate_left; (dsimp only; omega)) | (apply Below.alloc; rotate_left; (first | omega | (simp only [Hand.sa, Hand.ss, Hand.sd, Hand.sn]; omega))))) (Nat.le_refl _)
  clear HG hB g_A zw z_A z1_A z2_A y0_A y1_A c_A_0 f_A_0 c_A_1 f_A_1 c_A_2 f_A_2
  clear hb4
  have g_A := h_A
  have hB := hB'
  clear hB' h_A
  obtain ⟨z_A, z1_A, z2_A, y0_A, y1_A⟩ := Hand.hz g_A
  obtain ⟨c_A_0, f_A_0, c_A_1, f_A_1, c_A_2, f_A_2⟩ := Hand.hc3 g_A
  have zw : w.heap.size ≤ w4.heap.size := hB.size
  have HG := Lib.hid (And.intro g_A (hB))
  clear g_A hB
  go_wp2_with fail
  with_reducible refine (M3.out _ _ (by omega) (by omega)).mono ?_
  rintro e w5 ⟨rfl, hb5⟩
  obtain ⟨g_A, hB⟩ := HG.out
  have h_A : w5.heap[w.heap.size]? = some (.cells #[.int .i64 n, .int .i64 d, .bool false] 24 (0, 0)) := by
    refine Hand.kb hb5 ?_; first | with_reducible exact g_A | (simp (disch := first | omega | (simp only [Hand.sa, Hand.ss, Hand.sd, Hand.sn]; first | done | omega)) only [Hand.q2, Hand.q1, Hand.q5, Hand.q6, Hand.q4, Hand.q3, g_A] <;> rfl)
  have hB' : Below w.heap.size w w5 := Hand.stepB hb5 (by repeat (with_reducible first | apply hB | apply Below.drew | apply pw_below_drewN | (apply Below.setCell; rotate_left; (dsimp only; omega)) | (apply Below.alloc; rotate_left; (first | omega | (simp only [Hand.sa, Hand.ss, Hand.sd, Hand.sn]; omega))))) (Nat.le_refl _)
  clear HG hB g_A zw z_A z1_A z2_A y0_A y1_A c_A_0 f_A_0 c_A_1 f_A_1 c_A_2 f_A_2
  clear hb5
  have g_A := h_A
  have hB := hB'
  clear hB' h_A
  obtain ⟨z_A, z1_A, z2_A, y0_A, y1_A⟩ := Hand.hz g_A
  obtain ⟨c_A_0, f_A_0, c_A_1, f_A_1, c_A_2, f_A_2⟩ := Hand.hc3 g_A
  have zw : w.heap.size ≤ w5.heap.size := hB.size
  have HG := Lib.hid (And.intro g_A (hB))
  clear g_A hB
  go_wp2
  have G5 := Lib.hid HG.out
  clear HG zw z_A z1_A z2_A y0_A y1_A c_A_0 f_A_0 c_A_1 f_A_1 c_A_2 f_A_2
  go_loopw [10, 11] (fun lv sv wr => minO w wr n d false lv sv) (fun _ sv _ => (100 - intOf sv).toNat)
  case atStart => exact ⟨0, by decide, by decide, rfl, rfl, G5.out⟩
  case round =>
    obtain ⟨s, s0, s1, rfl, rfl, g_A, hB⟩ := hrel
    obtain ⟨wo, hwo⟩ : ∃ x, x = wr := ⟨_, rfl⟩
    subst hwo
    obtain ⟨z_A, z1_A, z2_A, y0_A, y1_A⟩ := Hand.hz g_A
    obtain ⟨c_A_0, f_A_0, c_A_1, f_A_1, c_A_2, f_A_2⟩ := Hand.hc3 g_A
    have zw : w.heap.size ≤ wo.heap.size := hB.size
    have HG := Lib.hid (And.intro g_A (hB))
    clear g_A hB
    by_cases hs : s < 60
    · go_wp2
      have G6 := Lib.hid HG.out
      clear HG zw z_A z1_A z2_A y0_A y1_A c_A_0 f_A_0 c_A_1 f_A_1 c_A_2 f_A_2
      go_loopw [10, 12] (fun lv kv wr => minI w wr n d false F (B s) s 0 lv kv) (fun _ kv _ => (F - intOf kv).toNat)
      case atStart => exact ⟨0, -1, by decide, by omega, by decide, by decide, .inl rfl, fun _ _ => rfl, rfl, rfl, G6.out⟩
      case round =>
        obtain ⟨k, l, k0, k1, l0, l1, hl, hl9, rfl, rfl, g_A, hB⟩ := hrel
        obtain ⟨z_A, z1_A, z2_A, y0_A, y1_A⟩ := Hand.hz g_A
        obtain ⟨c_A_0, f_A_0, c_A_1, f_A_1, c_A_2, f_A_2⟩ := Hand.hc3 g_A
        have zw : w.heap.size ≤ wr.heap.size := hB.size
        have HG := Lib.hid (And.intro g_A (hB))
        clear g_A hB
        by_cases hk : k < F
        · have HT3 := Lib.hid (show TabN wr from tab_below HT0.out HG.out.2)
          have zs := hT s s0 (by omega)
          have zk := hZ k k0 hk
          have hk2 : (k < F) = True := eq_true hk
          have p0 : (9223372036854775807 < 6 + (TW s).size) = False := eq_false (by omega)
          have p1 : (9223372036854775807 < 6 + (TW s).size + 1) = False := eq_false (by omega)
          have p2 : (9223372036854775807 < 6 + (TW s).size + 1 + (TH k).size) = False := eq_false (by omega)
          have p3 : (9223372036854775807 < 8) = False := eq_false (by omega)
          have p4 : (9223372036854775807 < 9) = False := eq_false (by omega)
          have p5 : (9223372036854775807 < 9 + (TH k).size) = False := eq_false (by omega)
          by_cases q : s = 0
          · subst q
            have e4 : (k < 0) = False := eq_false (by omega)
            go_wp2
            have HBW := Lib.hid (HG.out.2)
            have HK := Lib.hid (And.intro c_A_0 (And.intro c_A_1 (c_A_2)))
            have BD : Below wr.heap.size wr wr.drew := Below.drew (Below.refl _ _)
            have BR : Below wr.heap.size wr wr := Below.refl _ _
            go_region_held3 (fun w_ => Below w.heap.size w w_ ∧ w_.cell? ⟨w.heap.size, 0, none⟩ = some (.int .i64 n) ∧ w_.cell? ⟨w.heap.size, 1, none⟩ = some (.int .i64 d) ∧ w_.cell? ⟨w.heap.size, 2, none⟩ = some (.bool false)) (first | with_reducible (refine ⟨?_, (Below.cell BR (p := ⟨w.heap.size, 0, none⟩) z_A).trans (HK.out.1), (Below.cell BR (p := ⟨w.heap.size, 1, none⟩) z_A).trans (HK.out.2.1), (Below.cell BR (p := ⟨w.heap.size, 2, none⟩) z_A).trans (HK.out.2.2)⟩; apply (HBW.out.trans (Below.mono BR zw))) | with_reducible (refine ⟨?_, (Below.cell BD (p := ⟨w.heap.size, 0, none⟩) z_A).trans (HK.out.1), (Below.cell BD (p := ⟨w.heap.size, 1, none⟩) z_A).trans (HK.out.2.1), (Below.cell BD (p := ⟨w.heap.size, 2, none⟩) z_A).trans (HK.out.2.2)⟩; apply (HBW.out.trans (Below.mono BD zw))) | with_reducible (refine ⟨?_, (Below.cell BB (p := ⟨w.heap.size, 0, none⟩) z_A).trans (HK.out.1), (Below.cell BB (p := ⟨w.heap.size, 1, none⟩) z_A).trans (HK.out.2.1), (Below.cell BB (p := ⟨w.heap.size, 2, none⟩) z_A).trans (HK.out.2.2)⟩; apply (HBW.out.trans (Below.mono BB zw))) | (refine ⟨?_, ?_, ?_, ?_⟩; (focus (repeat (with_reducible first | apply (HBW.out.trans (Below.mono BB zw)) | apply Below.drew | (apply Below.setCell; rotate_left; (dsimp only; omega)) | (apply Below.alloc; rotate_left; (first | omega | (simp only [Hand.sa, Hand.ss, Hand.sd, Hand.sn]; omega)))))); (repeat (with_reducible first | exact (Below.cell BB (p := ⟨w.heap.size, 0, none⟩) z_A).trans (HK.out.1) | refine Hand.cell_alloc ?_ | refine Hand.cell_drew ?_ | refine Hand.cell_far (by omega) ?_)); (repeat (with_reducible first | exact (Below.cell BB (p := ⟨w.heap.size, 1, none⟩) z_A).trans (HK.out.2.1) | refine Hand.cell_alloc ?_ | refine Hand.cell_drew ?_ | refine Hand.cell_far (by omega) ?_)); (repeat (with_reducible first | exact (Below.cell BB (p := ⟨w.heap.size, 2, none⟩) z_A).trans (HK.out.2.2) | refine Hand.cell_alloc ?_ | refine Hand.cell_drew ?_ | refine Hand.cell_far (by omega) ?_)))) (first | (go_at_call 27; ((with_reducible refine (M3.out _ _ (by omega) (by omega)).mono ?_); rintro e w7 ⟨rfl, hb_⟩; have BB : Below wr.heap.size wr w7 := Hand.stepB hb_ (by assumption) (Nat.le_refl _); have zB_w7 := Below.size BB; clear hb_)) | (go_at_call 29; ((with_reducible refine (M5.out _ _ k0 hk).mono ?_); rintro e w8 ⟨rfl, hb_⟩; have BB : Below wr.heap.size wr w8 := Hand.stepB hb_ (by assumption) (Nat.le_refl _); have zB_w8 := Below.size BB; clear hb_)) | (go_at_call 21; ((with_reducible refine (M7.out _ _ _ s0 hs k0 hk (by omega) (tab_below HT3.out (by assumption))).mono ?_); rintro e w9 ⟨rfl, hb_⟩; have BB : Below wr.heap.size wr w9 := Hand.stepB hb_ (by assumption) (Nat.le_refl _); have zB_w9 := Below.size BB; clear hb_)))
            obtain ⟨g_A, hB⟩ := HG.out
            clear HG
            have g_A' := (Hand.hp_below BB z_A).trans g_A
            have hB' := hB.trans (Below.mono BB zw)
            clear g_A
            clear hB HBW HK BD BR BB zw z_A z1_A z2_A y0_A y1_A
            have g_A := g_A'
            have hB := hB'
            clear hB' g_A'
            obtain ⟨z_A, z1_A, z2_A, y0_A, y1_A⟩ := Hand.hz g_A
            obtain ⟨c_A_0, f_A_0, c_A_1, f_A_1, c_A_2, f_A_2⟩ := Hand.hc3 g_A
            have zw : w.heap.size ≤ w9.heap.size := hB.size
            have HG := Lib.hid (And.intro g_A (hB))
            clear g_A hB
            have ht := R1 0 k s0 hs k0 hk (by omega)
            by_cases hl0 : 0 ≤ l
            · have e1 : l = B 0 + k - 1 := by omega
              have e2 : 0 < k := by omega
              subst e1
              have e3 : IntKind.i64.wrap (B 0 + k - 1 + 1) = B 0 + k := by rw [IntKind.wrap_i64]; omega
              go_wp2
              obtain ⟨g_A, hB⟩ := HG.out
              have KEY : minI w w9 n d false F (B 0) 0 0 (.int .i64 (B 0 + k)) (.int .i64 (k + 1)) := ⟨k + 1, B 0 + k, by omega, by omega, by omega, by omega, .inr ⟨by omega, by omega⟩, by intro h1 h2; omega, rfl, rfl, g_A, hB⟩
              go_roundw
              case rel => first | exact KEY | ((repeat apply Exists.intro); exact ⟨KEY, rfl⟩)
              case measure => simp [intOf]; omega
            · have hl1 : l = -1 := by omega
              subst hl1
              go_wp2
              obtain ⟨g_A, hB⟩ := HG.out
              have KEY : minI w w9 n d false F (B 0) 0 0 (.int .i64 (B 0 + k)) (.int .i64 (k + 1)) := ⟨k + 1, B 0 + k, by omega, by omega, by omega, by omega, .inr ⟨by omega, by omega⟩, by intro h1 h2; omega, rfl, rfl, g_A, hB⟩
              go_roundw
              case rel => first | exact KEY | ((repeat apply Exists.intro); exact ⟨KEY, rfl⟩)
              case measure => simp [intOf]; omega
          · have hs0 : (s == 0) = false := by simpa using q
            have e6 : ¬ s = 0 := q
            go_wp2
            have HBW := Lib.hid (HG.out.2)
            have HK := Lib.hid (And.intro c_A_0 (And.intro c_A_1 (c_A_2)))
            have BD : Below wr.heap.size wr wr.drew := Below.drew (Below.refl _ _)
            have BR : Below wr.heap.size wr wr := Below.refl _ _
            go_region_held3 (fun w_ => Below w.heap.size w w_ ∧ w_.cell? ⟨w.heap.size, 0, none⟩ = some (.int .i64 n) ∧ w_.cell? ⟨w.heap.size, 1, none⟩ = some (.int .i64 d) ∧ w_.cell? ⟨w.heap.size, 2, none⟩ = some (.bool false)) (first | with_reducible (refine ⟨?_, (Below.cell BR (p := ⟨w.heap.size, 0, none⟩) z_A).trans (HK.out.1), (Below.cell BR (p := ⟨w.heap.size, 1, none⟩) z_A).trans (HK.out.2.1), (Below.cell BR (p := ⟨w.heap.size, 2, none⟩) z_A).trans (HK.out.2.2)⟩; apply (HBW.out.trans (Below.mono BR zw))) | with_reducible (refine ⟨?_, (Below.cell BD (p := ⟨w.heap.size, 0, none⟩) z_A).trans (HK.out.1), (Below.cell BD (p := ⟨w.heap.size, 1, none⟩) z_A).trans (HK.out.2.1), (Below.cell BD (p := ⟨w.heap.size, 2, none⟩) z_A).trans (HK.out.2.2)⟩; apply (HBW.out.trans (Below.mono BD zw))) | with_reducible (refine ⟨?_, (Below.cell BB (p := ⟨w.heap.size, 0, none⟩) z_A).trans (HK.out.1), (Below.cell BB (p := ⟨w.heap.size, 1, none⟩) z_A).trans (HK.out.2.1), (Below.cell BB (p := ⟨w.heap.size, 2, none⟩) z_A).trans (HK.out.2.2)⟩; apply (HBW.out.trans (Below.mono BB zw))) | (refine ⟨?_, ?_, ?_, ?_⟩; (focus (repeat (with_reducible first | apply (HBW.out.trans (Below.mono BB zw)) | apply Below.drew | (apply Below.setCell; rotate_left; (dsimp only; omega)) | (apply Below.alloc; rotate_left; (first | omega | (simp only [Hand.sa, Hand.ss, Hand.sd, Hand.sn]; omega)))))); (repeat (with_reducible first | exact (Below.cell BB (p := ⟨w.heap.size, 0, none⟩) z_A).trans (HK.out.1) | refine Hand.cell_alloc ?_ | refine Hand.cell_drew ?_ | refine Hand.cell_far (by omega) ?_)); (repeat (with_reducible first | exact (Below.cell BB (p := ⟨w.heap.size, 1, none⟩) z_A).trans (HK.out.2.1) | refine Hand.cell_alloc ?_ | refine Hand.cell_drew ?_ | refine Hand.cell_far (by omega) ?_)); (repeat (with_reducible first | exact (Below.cell BB (p := ⟨w.heap.size, 2, none⟩) z_A).trans (HK.out.2.2) | refine Hand.cell_alloc ?_ | refine Hand.cell_drew ?_ | refine Hand.cell_far (by omega) ?_)))) (first | (go_at_call 27; ((with_reducible refine (M3.out _ _ (by omega) (by omega)).mono ?_); rintro e w7 ⟨rfl, hb_⟩; have BB : Below wr.heap.size wr w7 := Hand.stepB hb_ (by assumption) (Nat.le_refl _); have zB_w7 := Below.size BB; clear hb_)) | (go_at_call 29; ((with_reducible refine (M5.out _ _ k0 hk).mono ?_); rintro e w8 ⟨rfl, hb_⟩; have BB : Below wr.heap.size wr w8 := Hand.stepB hb_ (by assumption) (Nat.le_refl _); have zB_w8 := Below.size BB; clear hb_)) | (go_at_call 21; ((with_reducible refine (M7.out _ _ _ s0 hs k0 hk (by omega) (tab_below HT3.out (by assumption))).mono ?_); rintro e w9 ⟨rfl, hb_⟩; have BB : Below wr.heap.size wr w9 := Hand.stepB hb_ (by assumption) (Nat.le_refl _); have zB_w9 := Below.size BB; clear hb_)))
            obtain ⟨g_A, hB⟩ := HG.out
            clear HG
            have g_A' := (Hand.hp_below BB z_A).trans g_A
            have hB' := hB.trans (Below.mono BB zw)
            clear g_A
            clear hB HBW HK BD BR BB zw z_A z1_A z2_A y0_A y1_A
            have g_A := g_A'
            have hB := hB'
            clear hB' g_A'
            obtain ⟨z_A, z1_A, z2_A, y0_A, y1_A⟩ := Hand.hz g_A
            obtain ⟨c_A_0, f_A_0, c_A_1, f_A_1, c_A_2, f_A_2⟩ := Hand.hc3 g_A
            have zw : w.heap.size ≤ w9.heap.size := hB.size
            have HG := Lib.hid (And.intro g_A (hB))
            clear g_A hB
            have ht := R1 s k s0 hs k0 hk (by omega)
            by_cases hl0 : 0 ≤ l
            · have e1 : l = B s + k - 1 := by omega
              have e2 : 0 < k := by omega
              subst e1
              have e3 : IntKind.i64.wrap (B s + k - 1 + 1) = B s + k := by rw [IntKind.wrap_i64]; omega
              go_wp2
              obtain ⟨g_A, hB⟩ := HG.out
              have KEY : minI w w9 n d false F (B s) s 0 (.int .i64 (B s + k)) (.int .i64 (k + 1)) := ⟨k + 1, B s + k, by omega, by omega, by omega, by omega, .inr ⟨by omega, by omega⟩, by intro h1 h2; omega, rfl, rfl, g_A, hB⟩
              go_roundw
              case rel => first | exact KEY | ((repeat apply Exists.intro); exact ⟨KEY, rfl⟩)
              case measure => simp [intOf]; omega
            · have hl1 : l = -1 := by omega
              subst hl1
              go_wp2
              obtain ⟨g_A, hB⟩ := HG.out
              have KEY : minI w w9 n d false F (B s) s 0 (.int .i64 (B s + k)) (.int .i64 (k + 1)) := ⟨k + 1, B s + k, by omega, by omega, by omega, by omega, .inr ⟨by omega, by omega⟩, by intro h1 h2; omega, rfl, rfl, g_A, hB⟩
              go_roundw
              case rel => first | exact KEY | ((repeat apply Exists.intro); exact ⟨KEY, rfl⟩)
              case measure => simp [intOf]; omega
        · obtain ⟨j, j0, j1, W59⟩ := w59_ex s s0
          have M8 := Lib.hid W59
          clear W59
          go_wp2_with fail
          with_reducible refine (M8.out _).mono ?_
          rintro e w6 ⟨rfl, hb6⟩
          obtain ⟨g_A, hB⟩ := HG.out
          have h_A : w6.heap[w.heap.size]? = some (.cells #[.int .i64 n, .int .i64 d, .bool false] 24 (0, 0)) := by
            refine Hand.kb hb6 ?_; first | with_reducible exact g_A | (simp (disch := first | omega | (simp only [Hand.sa, Hand.ss, Hand.sd, Hand.sn]; first | done | omega)) only [Hand.q2, Hand.q1, Hand.q5, Hand.q6, Hand.q4, Hand.q3, g_A] <;> rfl)
          have hB' : Below w.heap.size w w6 := Hand.stepB hb6 (by repeat (with_reducible first | apply hB | apply Below.drew | apply pw_below_drewN | (apply Below.setCell; rotate_left; (dsimp only; omega)) | (apply Below.alloc; rotate_left; (first | omega | (simp only [Hand.sa, Hand.ss, Hand.sd, Hand.sn]; omega))))) (Nat.le_refl _)
          clear HG hB g_A zw z_A z1_A z2_A y0_A y1_A c_A_0 f_A_0 c_A_1 f_A_1 c_A_2 f_A_2
          clear hb6
          have g_A := h_A
          have hB := hB'
          clear hB' h_A
          obtain ⟨z_A, z1_A, z2_A, y0_A, y1_A⟩ := Hand.hz g_A
          obtain ⟨c_A_0, f_A_0, c_A_1, f_A_1, c_A_2, f_A_2⟩ := Hand.hc3 g_A
          have zw : w.heap.size ≤ w6.heap.size := hB.size
          have HG := Lib.hid (And.intro g_A (hB))
          clear g_A hB
          have e5 : IntKind.i64.wrap (s + 1 + j) = s + 1 + j := by rw [IntKind.wrap_i64]; omega
          go_wp2
          obtain ⟨g_A, hB⟩ := HG.out
          have KEY : minO w w6 n d false (.int .i64 (-1)) (.int .i64 (s + 1 + j)) := ⟨s + 1 + j, by omega, by omega, rfl, rfl, g_A, hB⟩
          go_roundw
          case rel => first | exact KEY | ((repeat apply Exists.intro); exact ⟨KEY, rfl⟩)
          case measure => simp [intOf]; omega
    · go_wp2
      go_ret
      obtain ⟨g_A, hB⟩ := HG.out
      exact ⟨rfl, by first | exact hB | exact bw hB⟩
set_option maxHeartbeats 3200000 in
set_option maxRecDepth 100000 in
theorem min_ten (n d v u F : Int) (B : Int → Int) (TW TH : Int → ByteArray) (Hd : ByteArray) (n1 : 1 ≤ n) (n2 : n ≤ 240000) (d1 : 1 ≤ d) (d2 : d ≤ 1001) (u0 : 0 ≤ u) (u1 : u < 2700) (hF : (n + d - 1) / d = F) (f1 : 1 ≤ F) (f2 : F ≤ 240) (hm : u % 10 = 0) (hH : TW (u / 60) ++ (⟨#[58]⟩ : ByteArray) ++ TW (u % 60) ++ (⟨#[58]⟩ : ByteArray) = Hd) (hz1 : (TW (u / 60)).size = 2) (hz2 : (TW (u % 60)).size = 2) (hzH : Hd.size = 6) (hT : ∀ j, 0 ≤ j → j < 100 → (TW j).size = 2) (hZ : ∀ k, 0 ≤ k → k < F → (TH k).size ≤ 3) (R1 : ∀ s k, 0 ≤ s → s < 60 → 0 ≤ k → k < F → (s = 0 → 0 ≤ k) → 0 ≤ B s + k ∧ B s + k ≤ 1000000000) (w : World) (ht : TabN w)
    (m0 : ∀ w, TabN w → Calls Tryd.prog 16 #[] w fun e w' => e = .returned (.bool true) ∧ Below w.heap.size w w')
    (m1 : ∀ w, Calls Tryd.prog 25 #[rate n d true] w fun e w' => e = .returned (.int .i64 0) ∧ Below w.heap.size w w')
    (m2 : ∀ w, Calls Tryd.prog 26 #[.int .i64 v, .int .i64 2700] w fun e w' => e = .returned (.int .i64 u) ∧ Below w.heap.size w w')
    (m3 : ∀ j w, 0 ≤ j → j < 100 → Calls Tryd.prog 27 #[.int .i64 j] w fun e w' => e = .returned (.string (TW j)) ∧ Below w.heap.size w w')
    (m5 : ∀ k w, 0 ≤ k → k < F → Calls Tryd.prog 29 #[.int .i64 k, .bool (decide (100 < F))] w fun e w' => e = .returned (.string (TH k)) ∧ Below w.heap.size w w')
    (m6 : ∀ (k : Int) w, 0 ≤ k → k < 0 → TabN w → Calls Tryd.prog 21 #[rate n d true, .string (Hd ++ TW 0 ++ (⟨#[59]⟩ : ByteArray) ++ TH k)] w fun e w' => e = .returned (.tuple #[.int .i64 0, .int .i64 15]) ∧ Below w.heap.size w w')
    (m7 : ∀ (s k : Int) w, 0 ≤ s → s < 60 → 0 ≤ k → k < F → (s = 0 → 0 ≤ k) → TabN w → Calls Tryd.prog 21 #[rate n d true, .string (Hd ++ TW s ++ (⟨#[59]⟩ : ByteArray) ++ TH k)] w fun e w' => e = .returned (.tuple #[.int .i64 (B s + k), .int .i64 0]) ∧ Below w.heap.size w w') :
    Calls Tryd.prog 8 #[rate n d true, .int .i64 v] w fun e w' => e = .returned (.bool true) ∧ Below w.heap.size w w' := by
  have hd2 : ¬ d = 0 := by omega
  have g1 : IntKind.i64.wrap (u.tdiv 60) = u / 60 := by rw [Int.tdiv_eq_ediv_of_nonneg u0, IntKind.wrap_i64]; omega
  have g2 : u.tmod 60 = u % 60 := Int.tmod_eq_emod_of_nonneg u0
  have g3 : u.tmod 10 = u % 10 := Int.tmod_eq_emod_of_nonneg u0
  have HT0 := Lib.hid ht
  have M0 := Lib.hid m0
  have M1 := Lib.hid m1
  have M2 := Lib.hid m2
  have M3 := Lib.hid m3
  have M5 := Lib.hid m5
  have M6 := Lib.hid m6
  have M7 := Lib.hid m7
  clear m0 m1 m2 m3 m5 m6 m7 ht
  go_enter Tryd.func8, Tryd.ntmps8
  go_wp2_with fail
  with_reducible refine (M0.out _ (tab_below HT0.out (bw (Below.refl _ _)))).mono ?_
  rintro e w1 ⟨rfl, hb1⟩
  have h_A : w1.heap[w.heap.size]? = some (.cells #[.int .i64 n, .int .i64 d, .bool true] 24 (0, 0)) := by
    refine Hand.kb hb1 ?_; simp (disch := first | omega | (simp only [Hand.sa, Hand.ss, Hand.sd, Hand.sn]; first | done | omega)) only [Hand.q2, Hand.q1, Hand.q5, Hand.q6, Hand.q4, Hand.q3] <;> rfl
  have hB' : Below w.heap.size w w1 := Hand.stepB hb1 (by repeat (with_reducible first | apply Below.refl _ _ | apply Below.drew | apply pw_below_drewN | (apply Below.setCell; rotate_left; (dsimp only; omega)) | (apply Below.alloc; rotate_left; (first | omega | (simp only [Hand.sa, Hand.ss, Hand.sd, Hand.sn]; omega))))) (Nat.le_refl _)
  clear hb1
  have g_A := h_A
  have hB := hB'
  clear hB' h_A
  obtain ⟨z_A, z1_A, z2_A, y0_A, y1_A⟩ := Hand.hz g_A
  obtain ⟨c_A_0, f_A_0, c_A_1, f_A_1, c_A_2, f_A_2⟩ := Hand.hc3 g_A
  have zw : w.heap.size ≤ w1.heap.size := hB.size
  have HG := Lib.hid (And.intro g_A (hB))
  clear g_A hB
  go_wp2_with fail
  with_reducible refine (M1.out _).mono ?_
  rintro e w2 ⟨rfl, hb2⟩
  obtain ⟨g_A, hB⟩ := HG.out
  have h_A : w2.heap[w.heap.size]? = some (.cells #[.int .i64 n, .int .i64 d, .bool true] 24 (0, 0)) := by
    refine Hand.kb hb2 ?_; first | with_reducible exact g_A | (simp (disch := first | omega | (simp only [Hand.sa, Hand.ss, Hand.sd, Hand.sn]; first | done | omega)) only [Hand.q2, Hand.q1, Hand.q5, Hand.q6, Hand.q4, Hand.q3, g_A] <;> rfl)
  have hB' : Below w.heap.size w w2 := Hand.stepB hb2 (by repeat (with_reducible first | apply hB | apply Below.drew | apply pw_below_drewN | (apply Below.setCell; rotate_left; (dsimp only; omega)) | (apply Below.alloc; rotate_left; (first | omega | (simp only [Hand.sa, Hand.ss, Hand.sd, Hand.sn]; omega))))) (Nat.le_refl _)
  clear HG hB g_A zw z_A z1_A z2_A y0_A y1_A c_A_0 f_A_0 c_A_1 f_A_1 c_A_2 f_A_2
  clear hb2
  have g_A := h_A
  have hB := hB'
  clear hB' h_A
  obtain ⟨z_A, z1_A, z2_A, y0_A, y1_A⟩ := Hand.hz g_A
  obtain ⟨c_A_0, f_A_0, c_A_1, f_A_1, c_A_2, f_A_2⟩ := Hand.hc3 g_A
  have zw : w.heap.size ≤ w2.heap.size := hB.size
  have HG := Lib.hid (And.intro g_A (hB))
  clear g_A hB
  go_wp2_with fail
  with_reducible refine (M2.out _).mono ?_
  rintro e w3 ⟨rfl, hb3⟩
  obtain ⟨g_A, hB⟩ := HG.out
  have h_A : w3.heap[w.heap.size]? = some (.cells #[.int .i64 n, .int .i64 d, .bool true] 24 (0, 0)) := by
    refine Hand.kb hb3 ?_; first | with_reducible exact g_A | (simp (disch := first | omega | (simp only [Hand.sa, Hand.ss, Hand.sd, Hand.sn]; first | done | omega)) only [Hand.q2, Hand.q1, Hand.q5, Hand.q6, Hand.q4, Hand.q3, g_A] <;> rfl)
  have hB' : Below w.heap.size w w3 := Hand.stepB hb3 (by repeat (with_reducible first | apply hB | apply Below.drew | apply pw_below_drewN | (apply Below.setCell; rotate_left; (dsimp only; omega)) | (apply Below.alloc; rotate_left; (first | omega | (simp only [Hand.sa, Hand.ss, Hand.sd, Hand.sn]; omega))))) (Nat.le_refl _)
  clear HG hB g_A zw z_A z1_A z2_A y0_A y1_A c_A_0 f_A_0 c_A_1 f_A_1 c_A_2 f_A_2
  clear hb3
  have g_A := h_A
  have hB := hB'
  clear hB' h_A
  obtain ⟨z_A, z1_A, z2_A, y0_A, y1_A⟩ := Hand.hz g_A
  obtain ⟨c_A_0, f_A_0, c_A_1, f_A_1, c_A_2, f_A_2⟩ := Hand.hc3 g_A
  have zw : w.heap.size ≤ w3.heap.size := hB.size
  have HG := Lib.hid (And.intro g_A (hB))
  clear g_A hB
  go_wp2_with fail
  with_reducible refine (M3.out _ _ (by omega) (by omega)).mono ?_
  rintro e w4 ⟨rfl, hb4⟩
  obtain ⟨g_A, hB⟩ := HG.out
  have h_A : w4.heap[w.heap.size]? = some (.cells #[.int .i64 n, .int .i64 d, .bool true] 24 (0, 0)) := by
    refine Hand.kb hb4 ?_; first | with_reducible exact g_A | (simp (disch := first | omega | (simp only [Hand.sa, Hand.ss, Hand.sd, Hand.sn]; first | done | omega)) only [Hand.q2, Hand.q1, Hand.q5, Hand.q6, Hand.q4, Hand.q3, g_A] <;> rfl)
  have hB' : Below w.heap.size w w4 := Hand.stepB hb4 (by repeat (with_reducible first | apply hB | apply Below.drew | apply pw_below_drewN | (apply Below.setCell; rotate_left; (dsimp only; omega)) | (apply Below.alloc; rotate_left; (first | omega | (simp only [Hand.sa, Hand.ss, Hand.sd, Hand.sn]; omega))))) (Nat.le_refl _)
  clear HG hB g_A zw z_A z1_A z2_A y0_A y1_A c_A_0 f_A_0 c_A_1 f_A_1 c_A_2 f_A_2
  clear hb4
  have g_A := h_A
  have hB := hB'
  clear hB' h_A
  obtain ⟨z_A, z1_A, z2_A, y0_A, y1_A⟩ := Hand.hz g_A
  obtain ⟨c_A_0, f_A_0, c_A_1, f_A_1, c_A_2, f_A_2⟩ := Hand.hc3 g_A
  have zw : w.heap.size ≤ w4.heap.size := hB.size
  have HG := Lib.hid (And.intro g_A (hB))
  clear g_A hB
  go_wp2_with fail
  with_reducible refine (M3.out _ _ (by omega) (by omega)).mono ?_
  rintro e w5 ⟨rfl, hb5⟩
  obtain ⟨g_A, hB⟩ := HG.out
  have h_A : w5.heap[w.heap.size]? = some (.cells #[.int .i64 n, .int .i64 d, .bool true] 24 (0, 0)) := by
    refine Hand.kb hb5 ?_; first | with_reducible exact g_A | (simp (disch := first | omega | (simp only [Hand.sa, Hand.ss, Hand.sd, Hand.sn]; first | done | omega)) only [Hand.q2, Hand.q1, Hand.q5, Hand.q6, Hand.q4, Hand.q3, g_A] <;> rfl)
  have hB' : Below w.heap.size w w5 := Hand.stepB hb5 (by repeat (with_reducible first | apply hB | apply Below.drew | apply pw_below_drewN | (apply Below.setCell; rotate_left; (dsimp only; omega)) | (apply Below.alloc; rotate_left; (first | omega | (simp only [Hand.sa, Hand.ss, Hand.sd, Hand.sn]; omega))))) (Nat.le_refl _)
  clear HG hB g_A zw z_A z1_A z2_A y0_A y1_A c_A_0 f_A_0 c_A_1 f_A_1 c_A_2 f_A_2
  clear hb5
  have g_A := h_A
  have hB := hB'
  clear hB' h_A
  obtain ⟨z_A, z1_A, z2_A, y0_A, y1_A⟩ := Hand.hz g_A
  obtain ⟨c_A_0, f_A_0, c_A_1, f_A_1, c_A_2, f_A_2⟩ := Hand.hc3 g_A
  have zw : w.heap.size ≤ w5.heap.size := hB.size
  have HG := Lib.hid (And.intro g_A (hB))
  clear g_A hB
  go_wp2
  have G5 := Lib.hid HG.out
  clear HG zw z_A z1_A z2_A y0_A y1_A c_A_0 f_A_0 c_A_1 f_A_1 c_A_2 f_A_2
  go_loopw [10, 11] (fun lv sv wr => minO w wr n d true lv sv) (fun _ sv _ => (100 - intOf sv).toNat)
  case atStart => exact ⟨0, by decide, by decide, rfl, rfl, G5.out⟩
  case round =>
    obtain ⟨s, s0, s1, rfl, rfl, g_A, hB⟩ := hrel
    obtain ⟨wo, hwo⟩ : ∃ x, x = wr := ⟨_, rfl⟩
    subst hwo
    obtain ⟨z_A, z1_A, z2_A, y0_A, y1_A⟩ := Hand.hz g_A
    obtain ⟨c_A_0, f_A_0, c_A_1, f_A_1, c_A_2, f_A_2⟩ := Hand.hc3 g_A
    have zw : w.heap.size ≤ wo.heap.size := hB.size
    have HG := Lib.hid (And.intro g_A (hB))
    clear g_A hB
    by_cases hs : s < 60
    · go_wp2
      have G6 := Lib.hid HG.out
      clear HG zw z_A z1_A z2_A y0_A y1_A c_A_0 f_A_0 c_A_1 f_A_1 c_A_2 f_A_2
      go_loopw [10, 12] (fun lv kv wr => minI w wr n d true F (B s) s 0 lv kv) (fun _ kv _ => (F - intOf kv).toNat)
      case atStart => exact ⟨0, -1, by decide, by omega, by decide, by decide, .inl rfl, fun _ _ => rfl, rfl, rfl, G6.out⟩
      case round =>
        obtain ⟨k, l, k0, k1, l0, l1, hl, hl9, rfl, rfl, g_A, hB⟩ := hrel
        obtain ⟨z_A, z1_A, z2_A, y0_A, y1_A⟩ := Hand.hz g_A
        obtain ⟨c_A_0, f_A_0, c_A_1, f_A_1, c_A_2, f_A_2⟩ := Hand.hc3 g_A
        have zw : w.heap.size ≤ wr.heap.size := hB.size
        have HG := Lib.hid (And.intro g_A (hB))
        clear g_A hB
        by_cases hk : k < F
        · have HT3 := Lib.hid (show TabN wr from tab_below HT0.out HG.out.2)
          have zs := hT s s0 (by omega)
          have zk := hZ k k0 hk
          have hk2 : (k < F) = True := eq_true hk
          have p0 : (9223372036854775807 < 6 + (TW s).size) = False := eq_false (by omega)
          have p1 : (9223372036854775807 < 6 + (TW s).size + 1) = False := eq_false (by omega)
          have p2 : (9223372036854775807 < 6 + (TW s).size + 1 + (TH k).size) = False := eq_false (by omega)
          have p3 : (9223372036854775807 < 8) = False := eq_false (by omega)
          have p4 : (9223372036854775807 < 9) = False := eq_false (by omega)
          have p5 : (9223372036854775807 < 9 + (TH k).size) = False := eq_false (by omega)
          by_cases q : s = 0
          · subst q
            have e4 : (k < 0) = False := eq_false (by omega)
            go_wp2
            have HBW := Lib.hid (HG.out.2)
            have HK := Lib.hid (And.intro c_A_0 (And.intro c_A_1 (c_A_2)))
            have BD : Below wr.heap.size wr wr.drew := Below.drew (Below.refl _ _)
            have BR : Below wr.heap.size wr wr := Below.refl _ _
            go_region_held3 (fun w_ => Below w.heap.size w w_ ∧ w_.cell? ⟨w.heap.size, 0, none⟩ = some (.int .i64 n) ∧ w_.cell? ⟨w.heap.size, 1, none⟩ = some (.int .i64 d) ∧ w_.cell? ⟨w.heap.size, 2, none⟩ = some (.bool true)) (first | with_reducible (refine ⟨?_, (Below.cell BR (p := ⟨w.heap.size, 0, none⟩) z_A).trans (HK.out.1), (Below.cell BR (p := ⟨w.heap.size, 1, none⟩) z_A).trans (HK.out.2.1), (Below.cell BR (p := ⟨w.heap.size, 2, none⟩) z_A).trans (HK.out.2.2)⟩; apply (HBW.out.trans (Below.mono BR zw))) | with_reducible (refine ⟨?_, (Below.cell BD (p := ⟨w.heap.size, 0, none⟩) z_A).trans (HK.out.1), (Below.cell BD (p := ⟨w.heap.size, 1, none⟩) z_A).trans (HK.out.2.1), (Below.cell BD (p := ⟨w.heap.size, 2, none⟩) z_A).trans (HK.out.2.2)⟩; apply (HBW.out.trans (Below.mono BD zw))) | with_reducible (refine ⟨?_, (Below.cell BB (p := ⟨w.heap.size, 0, none⟩) z_A).trans (HK.out.1), (Below.cell BB (p := ⟨w.heap.size, 1, none⟩) z_A).trans (HK.out.2.1), (Below.cell BB (p := ⟨w.heap.size, 2, none⟩) z_A).trans (HK.out.2.2)⟩; apply (HBW.out.trans (Below.mono BB zw))) | (refine ⟨?_, ?_, ?_, ?_⟩; (focus (repeat (with_reducible first | apply (HBW.out.trans (Below.mono BB zw)) | apply Below.drew | (apply Below.setCell; rotate_left; (dsimp only; omega)) | (apply Below.alloc; rotate_left; (first | omega | (simp only [Hand.sa, Hand.ss, Hand.sd, Hand.sn]; omega)))))); (repeat (with_reducible first | exact (Below.cell BB (p := ⟨w.heap.size, 0, none⟩) z_A).trans (HK.out.1) | refine Hand.cell_alloc ?_ | refine Hand.cell_drew ?_ | refine Hand.cell_far (by omega) ?_)); (repeat (with_reducible first | exact (Below.cell BB (p := ⟨w.heap.size, 1, none⟩) z_A).trans (HK.out.2.1) | refine Hand.cell_alloc ?_ | refine Hand.cell_drew ?_ | refine Hand.cell_far (by omega) ?_)); (repeat (with_reducible first | exact (Below.cell BB (p := ⟨w.heap.size, 2, none⟩) z_A).trans (HK.out.2.2) | refine Hand.cell_alloc ?_ | refine Hand.cell_drew ?_ | refine Hand.cell_far (by omega) ?_)))) (first | (go_at_call 27; ((with_reducible refine (M3.out _ _ (by omega) (by omega)).mono ?_); rintro e w7 ⟨rfl, hb_⟩; have BB : Below wr.heap.size wr w7 := Hand.stepB hb_ (by assumption) (Nat.le_refl _); have zB_w7 := Below.size BB; clear hb_)) | (go_at_call 29; ((with_reducible refine (M5.out _ _ k0 hk).mono ?_); rintro e w8 ⟨rfl, hb_⟩; have BB : Below wr.heap.size wr w8 := Hand.stepB hb_ (by assumption) (Nat.le_refl _); have zB_w8 := Below.size BB; clear hb_)) | (go_at_call 21; ((with_reducible refine (M7.out _ _ _ s0 hs k0 hk (by omega) (tab_below HT3.out (by assumption))).mono ?_); rintro e w9 ⟨rfl, hb_⟩; have BB : Below wr.heap.size wr w9 := Hand.stepB hb_ (by assumption) (Nat.le_refl _); have zB_w9 := Below.size BB; clear hb_)))
            obtain ⟨g_A, hB⟩ := HG.out
            clear HG
            have g_A' := (Hand.hp_below BB z_A).trans g_A
            have hB' := hB.trans (Below.mono BB zw)
            clear g_A
            clear hB HBW HK BD BR BB zw z_A z1_A z2_A y0_A y1_A
            have g_A := g_A'
            have hB := hB'
            clear hB' g_A'
            obtain ⟨z_A, z1_A, z2_A, y0_A, y1_A⟩ := Hand.hz g_A
            obtain ⟨c_A_0, f_A_0, c_A_1, f_A_1, c_A_2, f_A_2⟩ := Hand.hc3 g_A
            have zw : w.heap.size ≤ w9.heap.size := hB.size
            have HG := Lib.hid (And.intro g_A (hB))
            clear g_A hB
            have ht := R1 0 k s0 hs k0 hk (by omega)
            by_cases hl0 : 0 ≤ l
            · have e1 : l = B 0 + k - 1 := by omega
              have e2 : 0 < k := by omega
              subst e1
              have e3 : IntKind.i64.wrap (B 0 + k - 1 + 1) = B 0 + k := by rw [IntKind.wrap_i64]; omega
              go_wp2
              obtain ⟨g_A, hB⟩ := HG.out
              have KEY : minI w w9 n d true F (B 0) 0 0 (.int .i64 (B 0 + k)) (.int .i64 (k + 1)) := ⟨k + 1, B 0 + k, by omega, by omega, by omega, by omega, .inr ⟨by omega, by omega⟩, by intro h1 h2; omega, rfl, rfl, g_A, hB⟩
              go_roundw
              case rel => first | exact KEY | ((repeat apply Exists.intro); exact ⟨KEY, rfl⟩)
              case measure => simp [intOf]; omega
            · have hl1 : l = -1 := by omega
              subst hl1
              go_wp2
              obtain ⟨g_A, hB⟩ := HG.out
              have KEY : minI w w9 n d true F (B 0) 0 0 (.int .i64 (B 0 + k)) (.int .i64 (k + 1)) := ⟨k + 1, B 0 + k, by omega, by omega, by omega, by omega, .inr ⟨by omega, by omega⟩, by intro h1 h2; omega, rfl, rfl, g_A, hB⟩
              go_roundw
              case rel => first | exact KEY | ((repeat apply Exists.intro); exact ⟨KEY, rfl⟩)
              case measure => simp [intOf]; omega
          · have hs0 : (s == 0) = false := by simpa using q
            have e6 : ¬ s = 0 := q
            go_wp2
            have HBW := Lib.hid (HG.out.2)
            have HK := Lib.hid (And.intro c_A_0 (And.intro c_A_1 (c_A_2)))
            have BD : Below wr.heap.size wr wr.drew := Below.drew (Below.refl _ _)
            have BR : Below wr.heap.size wr wr := Below.refl _ _
            go_region_held3 (fun w_ => Below w.heap.size w w_ ∧ w_.cell? ⟨w.heap.size, 0, none⟩ = some (.int .i64 n) ∧ w_.cell? ⟨w.heap.size, 1, none⟩ = some (.int .i64 d) ∧ w_.cell? ⟨w.heap.size, 2, none⟩ = some (.bool true)) (first | with_reducible (refine ⟨?_, (Below.cell BR (p := ⟨w.heap.size, 0, none⟩) z_A).trans (HK.out.1), (Below.cell BR (p := ⟨w.heap.size, 1, none⟩) z_A).trans (HK.out.2.1), (Below.cell BR (p := ⟨w.heap.size, 2, none⟩) z_A).trans (HK.out.2.2)⟩; apply (HBW.out.trans (Below.mono BR zw))) | with_reducible (refine ⟨?_, (Below.cell BD (p := ⟨w.heap.size, 0, none⟩) z_A).trans (HK.out.1), (Below.cell BD (p := ⟨w.heap.size, 1, none⟩) z_A).trans (HK.out.2.1), (Below.cell BD (p := ⟨w.heap.size, 2, none⟩) z_A).trans (HK.out.2.2)⟩; apply (HBW.out.trans (Below.mono BD zw))) | with_reducible (refine ⟨?_, (Below.cell BB (p := ⟨w.heap.size, 0, none⟩) z_A).trans (HK.out.1), (Below.cell BB (p := ⟨w.heap.size, 1, none⟩) z_A).trans (HK.out.2.1), (Below.cell BB (p := ⟨w.heap.size, 2, none⟩) z_A).trans (HK.out.2.2)⟩; apply (HBW.out.trans (Below.mono BB zw))) | (refine ⟨?_, ?_, ?_, ?_⟩; (focus (repeat (with_reducible first | apply (HBW.out.trans (Below.mono BB zw)) | apply Below.drew | (apply Below.setCell; rotate_left; (dsimp only; omega)) | (apply Below.alloc; rotate_left; (first | omega | (simp only [Hand.sa, Hand.ss, Hand.sd, Hand.sn]; omega)))))); (repeat (with_reducible first | exact (Below.cell BB (p := ⟨w.heap.size, 0, none⟩) z_A).trans (HK.out.1) | refine Hand.cell_alloc ?_ | refine Hand.cell_drew ?_ | refine Hand.cell_far (by omega) ?_)); (repeat (with_reducible first | exact (Below.cell BB (p := ⟨w.heap.size, 1, none⟩) z_A).trans (HK.out.2.1) | refine Hand.cell_alloc ?_ | refine Hand.cell_drew ?_ | refine Hand.cell_far (by omega) ?_)); (repeat (with_reducible first | exact (Below.cell BB (p := ⟨w.heap.size, 2, none⟩) z_A).trans (HK.out.2.2) | refine Hand.cell_alloc ?_ | refine Hand.cell_drew ?_ | refine Hand.cell_far (by omega) ?_)))) (first | (go_at_call 27; ((with_reducible refine (M3.out _ _ (by omega) (by omega)).mono ?_); rintro e w7 ⟨rfl, hb_⟩; have BB : Below wr.heap.size wr w7 := Hand.stepB hb_ (by assumption) (Nat.le_refl _); have zB_w7 := Below.size BB; clear hb_)) | (go_at_call 29; ((with_reducible refine (M5.out _ _ k0 hk).mono ?_); rintro e w8 ⟨rfl, hb_⟩; have BB : Below wr.heap.size wr w8 := Hand.stepB hb_ (by assumption) (Nat.le_refl _); have zB_w8 := Below.size BB; clear hb_)) | (go_at_call 21; ((with_reducible refine (M7.out _ _ _ s0 hs k0 hk (by omega) (tab_below HT3.out (by assumption))).mono ?_); rintro e w9 ⟨rfl, hb_⟩; have BB : Below wr.heap.size wr w9 := Hand.stepB hb_ (by assumption) (Nat.le_refl _); have zB_w9 := Below.size BB; clear hb_)))
            obtain ⟨g_A, hB⟩ := HG.out
            clear HG
            have g_A' := (Hand.hp_below BB z_A).trans g_A
            have hB' := hB.trans (Below.mono BB zw)
            clear g_A
            clear hB HBW HK BD BR BB zw z_A z1_A z2_A y0_A y1_A
            have g_A := g_A'
            have hB := hB'
            clear hB' g_A'
            obtain ⟨z_A, z1_A, z2_A, y0_A, y1_A⟩ := Hand.hz g_A
            obtain ⟨c_A_0, f_A_0, c_A_1, f_A_1, c_A_2, f_A_2⟩ := Hand.hc3 g_A
            have zw : w.heap.size ≤ w9.heap.size := hB.size
            have HG := Lib.hid (And.intro g_A (hB))
            clear g_A hB
            have ht := R1 s k s0 hs k0 hk (by omega)
            by_cases hl0 : 0 ≤ l
            · have e1 : l = B s + k - 1 := by omega
              have e2 : 0 < k := by omega
              subst e1
              have e3 : IntKind.i64.wrap (B s + k - 1 + 1) = B s + k := by rw [IntKind.wrap_i64]; omega
              go_wp2
              obtain ⟨g_A, hB⟩ := HG.out
              have KEY : minI w w9 n d true F (B s) s 0 (.int .i64 (B s + k)) (.int .i64 (k + 1)) := ⟨k + 1, B s + k, by omega, by omega, by omega, by omega, .inr ⟨by omega, by omega⟩, by intro h1 h2; omega, rfl, rfl, g_A, hB⟩
              go_roundw
              case rel => first | exact KEY | ((repeat apply Exists.intro); exact ⟨KEY, rfl⟩)
              case measure => simp [intOf]; omega
            · have hl1 : l = -1 := by omega
              subst hl1
              go_wp2
              obtain ⟨g_A, hB⟩ := HG.out
              have KEY : minI w w9 n d true F (B s) s 0 (.int .i64 (B s + k)) (.int .i64 (k + 1)) := ⟨k + 1, B s + k, by omega, by omega, by omega, by omega, .inr ⟨by omega, by omega⟩, by intro h1 h2; omega, rfl, rfl, g_A, hB⟩
              go_roundw
              case rel => first | exact KEY | ((repeat apply Exists.intro); exact ⟨KEY, rfl⟩)
              case measure => simp [intOf]; omega
        · obtain ⟨j, j0, j1, W59⟩ := w59_ex s s0
          have M8 := Lib.hid W59
          clear W59
          go_wp2_with fail
          with_reducible refine (M8.out _).mono ?_
          rintro e w6 ⟨rfl, hb6⟩
          obtain ⟨g_A, hB⟩ := HG.out
          have h_A : w6.heap[w.heap.size]? = some (.cells #[.int .i64 n, .int .i64 d, .bool true] 24 (0, 0)) := by
            refine Hand.kb hb6 ?_; first | with_reducible exact g_A | (simp (disch := first | omega | (simp only [Hand.sa, Hand.ss, Hand.sd, Hand.sn]; first | done | omega)) only [Hand.q2, Hand.q1, Hand.q5, Hand.q6, Hand.q4, Hand.q3, g_A] <;> rfl)
          have hB' : Below w.heap.size w w6 := Hand.stepB hb6 (by repeat (with_reducible first | apply hB | apply Below.drew | apply pw_below_drewN | (apply Below.setCell; rotate_left; (dsimp only; omega)) | (apply Below.alloc; rotate_left; (first | omega | (simp only [Hand.sa, Hand.ss, Hand.sd, Hand.sn]; omega))))) (Nat.le_refl _)
          clear HG hB g_A zw z_A z1_A z2_A y0_A y1_A c_A_0 f_A_0 c_A_1 f_A_1 c_A_2 f_A_2
          clear hb6
          have g_A := h_A
          have hB := hB'
          clear hB' h_A
          obtain ⟨z_A, z1_A, z2_A, y0_A, y1_A⟩ := Hand.hz g_A
          obtain ⟨c_A_0, f_A_0, c_A_1, f_A_1, c_A_2, f_A_2⟩ := Hand.hc3 g_A
          have zw : w.heap.size ≤ w6.heap.size := hB.size
          have HG := Lib.hid (And.intro g_A (hB))
          clear g_A hB
          have e5 : IntKind.i64.wrap (s + 1 + j) = s + 1 + j := by rw [IntKind.wrap_i64]; omega
          go_wp2
          obtain ⟨g_A, hB⟩ := HG.out
          have KEY : minO w w6 n d true (.int .i64 (-1)) (.int .i64 (s + 1 + j)) := ⟨s + 1 + j, by omega, by omega, rfl, rfl, g_A, hB⟩
          go_roundw
          case rel => first | exact KEY | ((repeat apply Exists.intro); exact ⟨KEY, rfl⟩)
          case measure => simp [intOf]; omega
    · go_wp2
      go_ret
      obtain ⟨g_A, hB⟩ := HG.out
      exact ⟨rfl, by first | exact hB | exact bw hB⟩
set_option maxHeartbeats 3200000 in
set_option maxRecDepth 100000 in
theorem min_true (n d v u F : Int) (B : Int → Int) (TW TH : Int → ByteArray) (Hd : ByteArray) (n1 : 1 ≤ n) (n2 : n ≤ 240000) (d1 : 1 ≤ d) (d2 : d ≤ 1001) (u0 : 0 ≤ u) (u1 : u < 2700) (hF : (n + d - 1) / d = F) (f1 : 1 ≤ F) (f2 : F ≤ 240) (D : Int) (hm : u % 10 ≠ 0) (hD : F / 15 = D) (D0 : 0 ≤ D) (D1 : D ≤ 16) (hH : TW (u / 60) ++ (⟨#[58]⟩ : ByteArray) ++ TW (u % 60) ++ (⟨#[58]⟩ : ByteArray) = Hd) (hz1 : (TW (u / 60)).size = 2) (hz2 : (TW (u % 60)).size = 2) (hzH : Hd.size = 6) (hT : ∀ j, 0 ≤ j → j < 100 → (TW j).size = 2) (hZ : ∀ k, 0 ≤ k → k < F → (TH k).size ≤ 3) (R1 : ∀ s k, 0 ≤ s → s < 60 → 0 ≤ k → k < F → (s = 0 → D ≤ k) → 0 ≤ B s + k ∧ B s + k ≤ 1000000000) (w : World) (ht : TabN w)
    (m0 : ∀ w, TabN w → Calls Tryd.prog 16 #[] w fun e w' => e = .returned (.bool true) ∧ Below w.heap.size w w')
    (m1 : ∀ w, Calls Tryd.prog 25 #[rate n d true] w fun e w' => e = .returned (.int .i64 0) ∧ Below w.heap.size w w')
    (m2 : ∀ w, Calls Tryd.prog 26 #[.int .i64 v, .int .i64 2700] w fun e w' => e = .returned (.int .i64 u) ∧ Below w.heap.size w w')
    (m3 : ∀ j w, 0 ≤ j → j < 100 → Calls Tryd.prog 27 #[.int .i64 j] w fun e w' => e = .returned (.string (TW j)) ∧ Below w.heap.size w w')
    (m5 : ∀ k w, 0 ≤ k → k < F → Calls Tryd.prog 29 #[.int .i64 k, .bool (decide (100 < F))] w fun e w' => e = .returned (.string (TH k)) ∧ Below w.heap.size w w')
    (m6 : ∀ (k : Int) w, 0 ≤ k → k < D → TabN w → Calls Tryd.prog 21 #[rate n d true, .string (Hd ++ TW 0 ++ (⟨#[59]⟩ : ByteArray) ++ TH k)] w fun e w' => e = .returned (.tuple #[.int .i64 0, .int .i64 15]) ∧ Below w.heap.size w w')
    (m7 : ∀ (s k : Int) w, 0 ≤ s → s < 60 → 0 ≤ k → k < F → (s = 0 → D ≤ k) → TabN w → Calls Tryd.prog 21 #[rate n d true, .string (Hd ++ TW s ++ (⟨#[59]⟩ : ByteArray) ++ TH k)] w fun e w' => e = .returned (.tuple #[.int .i64 (B s + k), .int .i64 0]) ∧ Below w.heap.size w w') :
    Calls Tryd.prog 8 #[rate n d true, .int .i64 v] w fun e w' => e = .returned (.bool true) ∧ Below w.heap.size w w' := by
  have hd2 : ¬ d = 0 := by omega
  have g1 : IntKind.i64.wrap (u.tdiv 60) = u / 60 := by rw [Int.tdiv_eq_ediv_of_nonneg u0, IntKind.wrap_i64]; omega
  have g2 : u.tmod 60 = u % 60 := Int.tmod_eq_emod_of_nonneg u0
  have g3 : u.tmod 10 = u % 10 := Int.tmod_eq_emod_of_nonneg u0
  have HT0 := Lib.hid ht
  have M0 := Lib.hid m0
  have M1 := Lib.hid m1
  have M2 := Lib.hid m2
  have M3 := Lib.hid m3
  have M5 := Lib.hid m5
  have M6 := Lib.hid m6
  have M7 := Lib.hid m7
  clear m0 m1 m2 m3 m5 m6 m7 ht
  go_enter Tryd.func8, Tryd.ntmps8
  go_wp2_with fail
  with_reducible refine (M0.out _ (tab_below HT0.out (bw (Below.refl _ _)))).mono ?_
  rintro e w1 ⟨rfl, hb1⟩
  have h_A : w1.heap[w.heap.size]? = some (.cells #[.int .i64 n, .int .i64 d, .bool true] 24 (0, 0)) := by
    refine Hand.kb hb1 ?_; simp (disch := first | omega | (simp only [Hand.sa, Hand.ss, Hand.sd, Hand.sn]; first | done | omega)) only [Hand.q2, Hand.q1, Hand.q5, Hand.q6, Hand.q4, Hand.q3] <;> rfl
  have hB' : Below w.heap.size w w1 := Hand.stepB hb1 (by repeat (with_reducible first | apply Below.refl _ _ | apply Below.drew | apply pw_below_drewN | (apply Below.setCell; rotate_left; (dsimp only; omega)) | (apply Below.alloc; rotate_left; (first | omega | (simp only [Hand.sa, Hand.ss, Hand.sd, Hand.sn]; omega))))) (Nat.le_refl _)
  clear hb1
  have g_A := h_A
  have hB := hB'
  clear hB' h_A
  obtain ⟨z_A, z1_A, z2_A, y0_A, y1_A⟩ := Hand.hz g_A
  obtain ⟨c_A_0, f_A_0, c_A_1, f_A_1, c_A_2, f_A_2⟩ := Hand.hc3 g_A
  have zw : w.heap.size ≤ w1.heap.size := hB.size
  have HG := Lib.hid (And.intro g_A (hB))
  clear g_A hB
  go_wp2_with fail
  with_reducible refine (M1.out _).mono ?_
  rintro e w2 ⟨rfl, hb2⟩
  obtain ⟨g_A, hB⟩ := HG.out
  have h_A : w2.heap[w.heap.size]? = some (.cells #[.int .i64 n, .int .i64 d, .bool true] 24 (0, 0)) := by
    refine Hand.kb hb2 ?_; first | with_reducible exact g_A | (simp (disch := first | omega | (simp only [Hand.sa, Hand.ss, Hand.sd, Hand.sn]; first | done | omega)) only [Hand.q2, Hand.q1, Hand.q5, Hand.q6, Hand.q4, Hand.q3, g_A] <;> rfl)
  have hB' : Below w.heap.size w w2 := Hand.stepB hb2 (by repeat (with_reducible first | apply hB | apply Below.drew | apply pw_below_drewN | (apply Below.setCell; rotate_left; (dsimp only; omega)) | (apply Below.alloc; rotate_left; (first | omega | (simp only [Hand.sa, Hand.ss, Hand.sd, Hand.sn]; omega))))) (Nat.le_refl _)
  clear HG hB g_A zw z_A z1_A z2_A y0_A y1_A c_A_0 f_A_0 c_A_1 f_A_1 c_A_2 f_A_2
  clear hb2
  have g_A := h_A
  have hB := hB'
  clear hB' h_A
  obtain ⟨z_A, z1_A, z2_A, y0_A, y1_A⟩ := Hand.hz g_A
  obtain ⟨c_A_0, f_A_0, c_A_1, f_A_1, c_A_2, f_A_2⟩ := Hand.hc3 g_A
  have zw : w.heap.size ≤ w2.heap.size := hB.size
  have HG := Lib.hid (And.intro g_A (hB))
  clear g_A hB
  go_wp2_with fail
  with_reducible refine (M2.out _).mono ?_
  rintro e w3 ⟨rfl, hb3⟩
  obtain ⟨g_A, hB⟩ := HG.out
  have h_A : w3.heap[w.heap.size]? = some (.cells #[.int .i64 n, .int .i64 d, .bool true] 24 (0, 0)) := by
    refine Hand.kb hb3 ?_; first | with_reducible exact g_A | (simp (disch := first | omega | (simp only [Hand.sa, Hand.ss, Hand.sd, Hand.sn]; first | done | omega)) only [Hand.q2, Hand.q1, Hand.q5, Hand.q6, Hand.q4, Hand.q3, g_A] <;> rfl)
  have hB' : Below w.heap.size w w3 := Hand.stepB hb3 (by repeat (with_reducible first | apply hB | apply Below.drew | apply pw_below_drewN | (apply Below.setCell; rotate_left; (dsimp only; omega)) | (apply Below.alloc; rotate_left; (first | omega | (simp only [Hand.sa, Hand.ss, Hand.sd, Hand.sn]; omega))))) (Nat.le_refl _)
  clear HG hB g_A zw z_A z1_A z2_A y0_A y1_A c_A_0 f_A_0 c_A_1 f_A_1 c_A_2 f_A_2
  clear hb3
  have g_A := h_A
  have hB := hB'
  clear hB' h_A
  obtain ⟨z_A, z1_A, z2_A, y0_A, y1_A⟩ := Hand.hz g_A
  obtain ⟨c_A_0, f_A_0, c_A_1, f_A_1, c_A_2, f_A_2⟩ := Hand.hc3 g_A
  have zw : w.heap.size ≤ w3.heap.size := hB.size
  have HG := Lib.hid (And.intro g_A (hB))
  clear g_A hB
  go_wp2_with fail
  with_reducible refine (M3.out _ _ (by omega) (by omega)).mono ?_
  rintro e w4 ⟨rfl, hb4⟩
  obtain ⟨g_A, hB⟩ := HG.out
  have h_A : w4.heap[w.heap.size]? = some (.cells #[.int .i64 n, .int .i64 d, .bool true] 24 (0, 0)) := by
    refine Hand.kb hb4 ?_; first | with_reducible exact g_A | (simp (disch := first | omega | (simp only [Hand.sa, Hand.ss, Hand.sd, Hand.sn]; first | done | omega)) only [Hand.q2, Hand.q1, Hand.q5, Hand.q6, Hand.q4, Hand.q3, g_A] <;> rfl)
  have hB' : Below w.heap.size w w4 := Hand.stepB hb4 (by repeat (with_reducible first | apply hB | apply Below.drew | apply pw_below_drewN | (apply Below.setCell; rotate_left; (dsimp only; omega)) | (apply Below.alloc; rotate_left; (first | omega | (simp only [Hand.sa, Hand.ss, Hand.sd, Hand.sn]; omega))))) (Nat.le_refl _)
  clear HG hB g_A zw z_A z1_A z2_A y0_A y1_A c_A_0 f_A_0 c_A_1 f_A_1 c_A_2 f_A_2
  clear hb4
  have g_A := h_A
  have hB := hB'
  clear hB' h_A
  obtain ⟨z_A, z1_A, z2_A, y0_A, y1_A⟩ := Hand.hz g_A
  obtain ⟨c_A_0, f_A_0, c_A_1, f_A_1, c_A_2, f_A_2⟩ := Hand.hc3 g_A
  have zw : w.heap.size ≤ w4.heap.size := hB.size
  have HG := Lib.hid (And.intro g_A (hB))
  clear g_A hB
  go_wp2_with fail
  with_reducible refine (M3.out _ _ (by omega) (by omega)).mono ?_
  rintro e w5 ⟨rfl, hb5⟩
  obtain ⟨g_A, hB⟩ := HG.out
  have h_A : w5.heap[w.heap.size]? = some (.cells #[.int .i64 n, .int .i64 d, .bool true] 24 (0, 0)) := by
    refine Hand.kb hb5 ?_; first | with_reducible exact g_A | (simp (disch := first | omega | (simp only [Hand.sa, Hand.ss, Hand.sd, Hand.sn]; first | done | omega)) only [Hand.q2, Hand.q1, Hand.q5, Hand.q6, Hand.q4, Hand.q3, g_A] <;> rfl)
  have hB' : Below w.heap.size w w5 := Hand.stepB hb5 (by repeat (with_reducible first | apply hB | apply Below.drew | apply pw_below_drewN | (apply Below.setCell; rotate_left; (dsimp only; omega)) | (apply Below.alloc; rotate_left; (first | omega | (simp only [Hand.sa, Hand.ss, Hand.sd, Hand.sn]; omega))))) (Nat.le_refl _)
  clear HG hB g_A zw z_A z1_A z2_A y0_A y1_A c_A_0 f_A_0 c_A_1 f_A_1 c_A_2 f_A_2
  clear hb5
  have g_A := h_A
  have hB := hB'
  clear hB' h_A
  obtain ⟨z_A, z1_A, z2_A, y0_A, y1_A⟩ := Hand.hz g_A
  obtain ⟨c_A_0, f_A_0, c_A_1, f_A_1, c_A_2, f_A_2⟩ := Hand.hc3 g_A
  have zw : w.heap.size ≤ w5.heap.size := hB.size
  have HG := Lib.hid (And.intro g_A (hB))
  clear g_A hB
  go_wp2
  have G5 := Lib.hid HG.out
  clear HG zw z_A z1_A z2_A y0_A y1_A c_A_0 f_A_0 c_A_1 f_A_1 c_A_2 f_A_2
  go_loopw [10, 11] (fun lv sv wr => minO w wr n d true lv sv) (fun _ sv _ => (100 - intOf sv).toNat)
  case atStart => exact ⟨0, by decide, by decide, rfl, rfl, G5.out⟩
  case round =>
    obtain ⟨s, s0, s1, rfl, rfl, g_A, hB⟩ := hrel
    obtain ⟨wo, hwo⟩ : ∃ x, x = wr := ⟨_, rfl⟩
    subst hwo
    obtain ⟨z_A, z1_A, z2_A, y0_A, y1_A⟩ := Hand.hz g_A
    obtain ⟨c_A_0, f_A_0, c_A_1, f_A_1, c_A_2, f_A_2⟩ := Hand.hc3 g_A
    have zw : w.heap.size ≤ wo.heap.size := hB.size
    have HG := Lib.hid (And.intro g_A (hB))
    clear g_A hB
    by_cases hs : s < 60
    · go_wp2
      have G6 := Lib.hid HG.out
      clear HG zw z_A z1_A z2_A y0_A y1_A c_A_0 f_A_0 c_A_1 f_A_1 c_A_2 f_A_2
      go_loopw [10, 12] (fun lv kv wr => minI w wr n d true F (B s) s D lv kv) (fun _ kv _ => (F - intOf kv).toNat)
      case atStart => exact ⟨0, -1, by decide, by omega, by decide, by decide, .inl rfl, fun _ _ => rfl, rfl, rfl, G6.out⟩
      case round =>
        obtain ⟨k, l, k0, k1, l0, l1, hl, hl9, rfl, rfl, g_A, hB⟩ := hrel
        obtain ⟨z_A, z1_A, z2_A, y0_A, y1_A⟩ := Hand.hz g_A
        obtain ⟨c_A_0, f_A_0, c_A_1, f_A_1, c_A_2, f_A_2⟩ := Hand.hc3 g_A
        have zw : w.heap.size ≤ wr.heap.size := hB.size
        have HG := Lib.hid (And.intro g_A (hB))
        clear g_A hB
        by_cases hk : k < F
        · have HT3 := Lib.hid (show TabN wr from tab_below HT0.out HG.out.2)
          have zs := hT s s0 (by omega)
          have zk := hZ k k0 hk
          have hk2 : (k < F) = True := eq_true hk
          have p0 : (9223372036854775807 < 6 + (TW s).size) = False := eq_false (by omega)
          have p1 : (9223372036854775807 < 6 + (TW s).size + 1) = False := eq_false (by omega)
          have p2 : (9223372036854775807 < 6 + (TW s).size + 1 + (TH k).size) = False := eq_false (by omega)
          have p3 : (9223372036854775807 < 8) = False := eq_false (by omega)
          have p4 : (9223372036854775807 < 9) = False := eq_false (by omega)
          have p5 : (9223372036854775807 < 9 + (TH k).size) = False := eq_false (by omega)
          by_cases q : s = 0
          · subst q
            by_cases kd : k < D
            · have e4 : (k < D) = True := eq_true kd
              have hl1 : l = -1 := by first | exact hl9 rfl (by omega) | exact hl9 (by omega) | (simp at hl9; omega)
              subst hl1
              go_wp2
              have HBW := Lib.hid (HG.out.2)
              have HK := Lib.hid (And.intro c_A_0 (And.intro c_A_1 (c_A_2)))
              have BD : Below wr.heap.size wr wr.drew := Below.drew (Below.refl _ _)
              have BR : Below wr.heap.size wr wr := Below.refl _ _
              go_region_held3 (fun w_ => Below w.heap.size w w_ ∧ w_.cell? ⟨w.heap.size, 0, none⟩ = some (.int .i64 n) ∧ w_.cell? ⟨w.heap.size, 1, none⟩ = some (.int .i64 d) ∧ w_.cell? ⟨w.heap.size, 2, none⟩ = some (.bool true)) (first | with_reducible (refine ⟨?_, (Below.cell BR (p := ⟨w.heap.size, 0, none⟩) z_A).trans (HK.out.1), (Below.cell BR (p := ⟨w.heap.size, 1, none⟩) z_A).trans (HK.out.2.1), (Below.cell BR (p := ⟨w.heap.size, 2, none⟩) z_A).trans (HK.out.2.2)⟩; apply (HBW.out.trans (Below.mono BR zw))) | with_reducible (refine ⟨?_, (Below.cell BD (p := ⟨w.heap.size, 0, none⟩) z_A).trans (HK.out.1), (Below.cell BD (p := ⟨w.heap.size, 1, none⟩) z_A).trans (HK.out.2.1), (Below.cell BD (p := ⟨w.heap.size, 2, none⟩) z_A).trans (HK.out.2.2)⟩; apply (HBW.out.trans (Below.mono BD zw))) | with_reducible (refine ⟨?_, (Below.cell BB (p := ⟨w.heap.size, 0, none⟩) z_A).trans (HK.out.1), (Below.cell BB (p := ⟨w.heap.size, 1, none⟩) z_A).trans (HK.out.2.1), (Below.cell BB (p := ⟨w.heap.size, 2, none⟩) z_A).trans (HK.out.2.2)⟩; apply (HBW.out.trans (Below.mono BB zw))) | (refine ⟨?_, ?_, ?_, ?_⟩; (focus (repeat (with_reducible first | apply (HBW.out.trans (Below.mono BB zw)) | apply Below.drew | (apply Below.setCell; rotate_left; (dsimp only; omega)) | (apply Below.alloc; rotate_left; (first | omega | (simp only [Hand.sa, Hand.ss, Hand.sd, Hand.sn]; omega)))))); (repeat (with_reducible first | exact (Below.cell BB (p := ⟨w.heap.size, 0, none⟩) z_A).trans (HK.out.1) | refine Hand.cell_alloc ?_ | refine Hand.cell_drew ?_ | refine Hand.cell_far (by omega) ?_)); (repeat (with_reducible first | exact (Below.cell BB (p := ⟨w.heap.size, 1, none⟩) z_A).trans (HK.out.2.1) | refine Hand.cell_alloc ?_ | refine Hand.cell_drew ?_ | refine Hand.cell_far (by omega) ?_)); (repeat (with_reducible first | exact (Below.cell BB (p := ⟨w.heap.size, 2, none⟩) z_A).trans (HK.out.2.2) | refine Hand.cell_alloc ?_ | refine Hand.cell_drew ?_ | refine Hand.cell_far (by omega) ?_)))) (first | (go_at_call 27; ((with_reducible refine (M3.out _ _ (by omega) (by omega)).mono ?_); rintro e w7 ⟨rfl, hb_⟩; have BB : Below wr.heap.size wr w7 := Hand.stepB hb_ (by assumption) (Nat.le_refl _); have zB_w7 := Below.size BB; clear hb_)) | (go_at_call 29; ((with_reducible refine (M5.out _ _ k0 hk).mono ?_); rintro e w8 ⟨rfl, hb_⟩; have BB : Below wr.heap.size wr w8 := Hand.stepB hb_ (by assumption) (Nat.le_refl _); have zB_w8 := Below.size BB; clear hb_)) | (go_at_call 21; ((with_reducible refine (M6.out _ _ k0 kd (tab_below HT3.out (by assumption))).mono ?_); rintro e w9 ⟨rfl, hb_⟩; have BB : Below wr.heap.size wr w9 := Hand.stepB hb_ (by assumption) (Nat.le_refl _); have zB_w9 := Below.size BB; clear hb_)))
              obtain ⟨g_A, hB⟩ := HG.out
              clear HG
              have g_A' := (Hand.hp_below BB z_A).trans g_A
              have hB' := hB.trans (Below.mono BB zw)
              clear g_A
              clear hB HBW HK BD BR BB zw z_A z1_A z2_A y0_A y1_A
              have g_A := g_A'
              have hB := hB'
              clear hB' g_A'
              obtain ⟨z_A, z1_A, z2_A, y0_A, y1_A⟩ := Hand.hz g_A
              obtain ⟨c_A_0, f_A_0, c_A_1, f_A_1, c_A_2, f_A_2⟩ := Hand.hc3 g_A
              have zw : w.heap.size ≤ w9.heap.size := hB.size
              have HG := Lib.hid (And.intro g_A (hB))
              clear g_A hB
              go_wp2
              obtain ⟨g_A, hB⟩ := HG.out
              have KEY : minI w w9 n d true F (B 0) 0 D (.int .i64 (-1)) (.int .i64 (k + 1)) := ⟨k + 1, -1, by omega, by omega, by decide, by decide, .inl rfl, fun _ _ => rfl, rfl, rfl, g_A, hB⟩
              go_roundw
              case rel => first | exact KEY | ((repeat apply Exists.intro); exact ⟨KEY, rfl⟩)
              case measure => simp [intOf]; omega
            · have kd2 : D ≤ k := by omega
              have e4 : (k < D) = False := eq_false kd
              go_wp2
              have HBW := Lib.hid (HG.out.2)
              have HK := Lib.hid (And.intro c_A_0 (And.intro c_A_1 (c_A_2)))
              have BD : Below wr.heap.size wr wr.drew := Below.drew (Below.refl _ _)
              have BR : Below wr.heap.size wr wr := Below.refl _ _
              go_region_held3 (fun w_ => Below w.heap.size w w_ ∧ w_.cell? ⟨w.heap.size, 0, none⟩ = some (.int .i64 n) ∧ w_.cell? ⟨w.heap.size, 1, none⟩ = some (.int .i64 d) ∧ w_.cell? ⟨w.heap.size, 2, none⟩ = some (.bool true)) (first | with_reducible (refine ⟨?_, (Below.cell BR (p := ⟨w.heap.size, 0, none⟩) z_A).trans (HK.out.1), (Below.cell BR (p := ⟨w.heap.size, 1, none⟩) z_A).trans (HK.out.2.1), (Below.cell BR (p := ⟨w.heap.size, 2, none⟩) z_A).trans (HK.out.2.2)⟩; apply (HBW.out.trans (Below.mono BR zw))) | with_reducible (refine ⟨?_, (Below.cell BD (p := ⟨w.heap.size, 0, none⟩) z_A).trans (HK.out.1), (Below.cell BD (p := ⟨w.heap.size, 1, none⟩) z_A).trans (HK.out.2.1), (Below.cell BD (p := ⟨w.heap.size, 2, none⟩) z_A).trans (HK.out.2.2)⟩; apply (HBW.out.trans (Below.mono BD zw))) | with_reducible (refine ⟨?_, (Below.cell BB (p := ⟨w.heap.size, 0, none⟩) z_A).trans (HK.out.1), (Below.cell BB (p := ⟨w.heap.size, 1, none⟩) z_A).trans (HK.out.2.1), (Below.cell BB (p := ⟨w.heap.size, 2, none⟩) z_A).trans (HK.out.2.2)⟩; apply (HBW.out.trans (Below.mono BB zw))) | (refine ⟨?_, ?_, ?_, ?_⟩; (focus (repeat (with_reducible first | apply (HBW.out.trans (Below.mono BB zw)) | apply Below.drew | (apply Below.setCell; rotate_left; (dsimp only; omega)) | (apply Below.alloc; rotate_left; (first | omega | (simp only [Hand.sa, Hand.ss, Hand.sd, Hand.sn]; omega)))))); (repeat (with_reducible first | exact (Below.cell BB (p := ⟨w.heap.size, 0, none⟩) z_A).trans (HK.out.1) | refine Hand.cell_alloc ?_ | refine Hand.cell_drew ?_ | refine Hand.cell_far (by omega) ?_)); (repeat (with_reducible first | exact (Below.cell BB (p := ⟨w.heap.size, 1, none⟩) z_A).trans (HK.out.2.1) | refine Hand.cell_alloc ?_ | refine Hand.cell_drew ?_ | refine Hand.cell_far (by omega) ?_)); (repeat (with_reducible first | exact (Below.cell BB (p := ⟨w.heap.size, 2, none⟩) z_A).trans (HK.out.2.2) | refine Hand.cell_alloc ?_ | refine Hand.cell_drew ?_ | refine Hand.cell_far (by omega) ?_)))) (first | (go_at_call 27; ((with_reducible refine (M3.out _ _ (by omega) (by omega)).mono ?_); rintro e w7 ⟨rfl, hb_⟩; have BB : Below wr.heap.size wr w7 := Hand.stepB hb_ (by assumption) (Nat.le_refl _); have zB_w7 := Below.size BB; clear hb_)) | (go_at_call 29; ((with_reducible refine (M5.out _ _ k0 hk).mono ?_); rintro e w8 ⟨rfl, hb_⟩; have BB : Below wr.heap.size wr w8 := Hand.stepB hb_ (by assumption) (Nat.le_refl _); have zB_w8 := Below.size BB; clear hb_)) | (go_at_call 21; ((with_reducible refine (M7.out _ _ _ s0 hs k0 hk (by omega) (tab_below HT3.out (by assumption))).mono ?_); rintro e w9 ⟨rfl, hb_⟩; have BB : Below wr.heap.size wr w9 := Hand.stepB hb_ (by assumption) (Nat.le_refl _); have zB_w9 := Below.size BB; clear hb_)))
              obtain ⟨g_A, hB⟩ := HG.out
              clear HG
              have g_A' := (Hand.hp_below BB z_A).trans g_A
              have hB' := hB.trans (Below.mono BB zw)
              clear g_A
              clear hB HBW HK BD BR BB zw z_A z1_A z2_A y0_A y1_A
              have g_A := g_A'
              have hB := hB'
              clear hB' g_A'
              obtain ⟨z_A, z1_A, z2_A, y0_A, y1_A⟩ := Hand.hz g_A
              obtain ⟨c_A_0, f_A_0, c_A_1, f_A_1, c_A_2, f_A_2⟩ := Hand.hc3 g_A
              have zw : w.heap.size ≤ w9.heap.size := hB.size
              have HG := Lib.hid (And.intro g_A (hB))
              clear g_A hB
              have ht := R1 0 k s0 hs k0 hk (by omega)
              by_cases hl0 : 0 ≤ l
              · have e1 : l = B 0 + k - 1 := by omega
                have e2 : 0 < k := by omega
                subst e1
                have e3 : IntKind.i64.wrap (B 0 + k - 1 + 1) = B 0 + k := by rw [IntKind.wrap_i64]; omega
                go_wp2
                obtain ⟨g_A, hB⟩ := HG.out
                have KEY : minI w w9 n d true F (B 0) 0 D (.int .i64 (B 0 + k)) (.int .i64 (k + 1)) := ⟨k + 1, B 0 + k, by omega, by omega, by omega, by omega, .inr ⟨by omega, by omega⟩, by intro h1 h2; omega, rfl, rfl, g_A, hB⟩
                go_roundw
                case rel => first | exact KEY | ((repeat apply Exists.intro); exact ⟨KEY, rfl⟩)
                case measure => simp [intOf]; omega
              · have hl1 : l = -1 := by omega
                subst hl1
                go_wp2
                obtain ⟨g_A, hB⟩ := HG.out
                have KEY : minI w w9 n d true F (B 0) 0 D (.int .i64 (B 0 + k)) (.int .i64 (k + 1)) := ⟨k + 1, B 0 + k, by omega, by omega, by omega, by omega, .inr ⟨by omega, by omega⟩, by intro h1 h2; omega, rfl, rfl, g_A, hB⟩
                go_roundw
                case rel => first | exact KEY | ((repeat apply Exists.intro); exact ⟨KEY, rfl⟩)
                case measure => simp [intOf]; omega
          · have hs0 : (s == 0) = false := by simpa using q
            have e6 : ¬ s = 0 := q
            go_wp2
            have HBW := Lib.hid (HG.out.2)
            have HK := Lib.hid (And.intro c_A_0 (And.intro c_A_1 (c_A_2)))
            have BD : Below wr.heap.size wr wr.drew := Below.drew (Below.refl _ _)
            have BR : Below wr.heap.size wr wr := Below.refl _ _
            go_region_held3 (fun w_ => Below w.heap.size w w_ ∧ w_.cell? ⟨w.heap.size, 0, none⟩ = some (.int .i64 n) ∧ w_.cell? ⟨w.heap.size, 1, none⟩ = some (.int .i64 d) ∧ w_.cell? ⟨w.heap.size, 2, none⟩ = some (.bool true)) (first | with_reducible (refine ⟨?_, (Below.cell BR (p := ⟨w.heap.size, 0, none⟩) z_A).trans (HK.out.1), (Below.cell BR (p := ⟨w.heap.size, 1, none⟩) z_A).trans (HK.out.2.1), (Below.cell BR (p := ⟨w.heap.size, 2, none⟩) z_A).trans (HK.out.2.2)⟩; apply (HBW.out.trans (Below.mono BR zw))) | with_reducible (refine ⟨?_, (Below.cell BD (p := ⟨w.heap.size, 0, none⟩) z_A).trans (HK.out.1), (Below.cell BD (p := ⟨w.heap.size, 1, none⟩) z_A).trans (HK.out.2.1), (Below.cell BD (p := ⟨w.heap.size, 2, none⟩) z_A).trans (HK.out.2.2)⟩; apply (HBW.out.trans (Below.mono BD zw))) | with_reducible (refine ⟨?_, (Below.cell BB (p := ⟨w.heap.size, 0, none⟩) z_A).trans (HK.out.1), (Below.cell BB (p := ⟨w.heap.size, 1, none⟩) z_A).trans (HK.out.2.1), (Below.cell BB (p := ⟨w.heap.size, 2, none⟩) z_A).trans (HK.out.2.2)⟩; apply (HBW.out.trans (Below.mono BB zw))) | (refine ⟨?_, ?_, ?_, ?_⟩; (focus (repeat (with_reducible first | apply (HBW.out.trans (Below.mono BB zw)) | apply Below.drew | (apply Below.setCell; rotate_left; (dsimp only; omega)) | (apply Below.alloc; rotate_left; (first | omega | (simp only [Hand.sa, Hand.ss, Hand.sd, Hand.sn]; omega)))))); (repeat (with_reducible first | exact (Below.cell BB (p := ⟨w.heap.size, 0, none⟩) z_A).trans (HK.out.1) | refine Hand.cell_alloc ?_ | refine Hand.cell_drew ?_ | refine Hand.cell_far (by omega) ?_)); (repeat (with_reducible first | exact (Below.cell BB (p := ⟨w.heap.size, 1, none⟩) z_A).trans (HK.out.2.1) | refine Hand.cell_alloc ?_ | refine Hand.cell_drew ?_ | refine Hand.cell_far (by omega) ?_)); (repeat (with_reducible first | exact (Below.cell BB (p := ⟨w.heap.size, 2, none⟩) z_A).trans (HK.out.2.2) | refine Hand.cell_alloc ?_ | refine Hand.cell_drew ?_ | refine Hand.cell_far (by omega) ?_)))) (first | (go_at_call 27; ((with_reducible refine (M3.out _ _ (by omega) (by omega)).mono ?_); rintro e w7 ⟨rfl, hb_⟩; have BB : Below wr.heap.size wr w7 := Hand.stepB hb_ (by assumption) (Nat.le_refl _); have zB_w7 := Below.size BB; clear hb_)) | (go_at_call 29; ((with_reducible refine (M5.out _ _ k0 hk).mono ?_); rintro e w8 ⟨rfl, hb_⟩; have BB : Below wr.heap.size wr w8 := Hand.stepB hb_ (by assumption) (Nat.le_refl _); have zB_w8 := Below.size BB; clear hb_)) | (go_at_call 21; ((with_reducible refine (M7.out _ _ _ s0 hs k0 hk (by omega) (tab_below HT3.out (by assumption))).mono ?_); rintro e w9 ⟨rfl, hb_⟩; have BB : Below wr.heap.size wr w9 := Hand.stepB hb_ (by assumption) (Nat.le_refl _); have zB_w9 := Below.size BB; clear hb_)))
            obtain ⟨g_A, hB⟩ := HG.out
            clear HG
            have g_A' := (Hand.hp_below BB z_A).trans g_A
            have hB' := hB.trans (Below.mono BB zw)
            clear g_A
            clear hB HBW HK BD BR BB zw z_A z1_A z2_A y0_A y1_A
            have g_A := g_A'
            have hB := hB'
            clear hB' g_A'
            obtain ⟨z_A, z1_A, z2_A, y0_A, y1_A⟩ := Hand.hz g_A
            obtain ⟨c_A_0, f_A_0, c_A_1, f_A_1, c_A_2, f_A_2⟩ := Hand.hc3 g_A
            have zw : w.heap.size ≤ w9.heap.size := hB.size
            have HG := Lib.hid (And.intro g_A (hB))
            clear g_A hB
            have ht := R1 s k s0 hs k0 hk (by omega)
            by_cases hl0 : 0 ≤ l
            · have e1 : l = B s + k - 1 := by omega
              have e2 : 0 < k := by omega
              subst e1
              have e3 : IntKind.i64.wrap (B s + k - 1 + 1) = B s + k := by rw [IntKind.wrap_i64]; omega
              go_wp2
              obtain ⟨g_A, hB⟩ := HG.out
              have KEY : minI w w9 n d true F (B s) s D (.int .i64 (B s + k)) (.int .i64 (k + 1)) := ⟨k + 1, B s + k, by omega, by omega, by omega, by omega, .inr ⟨by omega, by omega⟩, by intro h1 h2; omega, rfl, rfl, g_A, hB⟩
              go_roundw
              case rel => first | exact KEY | ((repeat apply Exists.intro); exact ⟨KEY, rfl⟩)
              case measure => simp [intOf]; omega
            · have hl1 : l = -1 := by omega
              subst hl1
              go_wp2
              obtain ⟨g_A, hB⟩ := HG.out
              have KEY : minI w w9 n d true F (B s) s D (.int .i64 (B s + k)) (.int .i64 (k + 1)) := ⟨k + 1, B s + k, by omega, by omega, by omega, by omega, .inr ⟨by omega, by omega⟩, by intro h1 h2; omega, rfl, rfl, g_A, hB⟩
              go_roundw
              case rel => first | exact KEY | ((repeat apply Exists.intro); exact ⟨KEY, rfl⟩)
              case measure => simp [intOf]; omega
        · obtain ⟨j, j0, j1, W59⟩ := w59_ex s s0
          have M8 := Lib.hid W59
          clear W59
          go_wp2_with fail
          with_reducible refine (M8.out _).mono ?_
          rintro e w6 ⟨rfl, hb6⟩
          obtain ⟨g_A, hB⟩ := HG.out
          have h_A : w6.heap[w.heap.size]? = some (.cells #[.int .i64 n, .int .i64 d, .bool true] 24 (0, 0)) := by
            refine Hand.kb hb6 ?_; first | with_reducible exact g_A | (simp (disch := first | omega | (simp only [Hand.sa, Hand.ss, Hand.sd, Hand.sn]; first | done | omega)) only [Hand.q2, Hand.q1, Hand.q5, Hand.q6, Hand.q4, Hand.q3, g_A] <;> rfl)
          have hB' : Below w.heap.size w w6 := Hand.stepB hb6 (by repeat (with_reducible first | apply hB | apply Below.drew | apply pw_below_drewN | (apply Below.setCell; rotate_left; (dsimp only; omega)) | (apply Below.alloc; rotate_left; (first | omega | (simp only [Hand.sa, Hand.ss, Hand.sd, Hand.sn]; omega))))) (Nat.le_refl _)
          clear HG hB g_A zw z_A z1_A z2_A y0_A y1_A c_A_0 f_A_0 c_A_1 f_A_1 c_A_2 f_A_2
          clear hb6
          have g_A := h_A
          have hB := hB'
          clear hB' h_A
          obtain ⟨z_A, z1_A, z2_A, y0_A, y1_A⟩ := Hand.hz g_A
          obtain ⟨c_A_0, f_A_0, c_A_1, f_A_1, c_A_2, f_A_2⟩ := Hand.hc3 g_A
          have zw : w.heap.size ≤ w6.heap.size := hB.size
          have HG := Lib.hid (And.intro g_A (hB))
          clear g_A hB
          have e5 : IntKind.i64.wrap (s + 1 + j) = s + 1 + j := by rw [IntKind.wrap_i64]; omega
          go_wp2
          obtain ⟨g_A, hB⟩ := HG.out
          have KEY : minO w w6 n d true (.int .i64 (-1)) (.int .i64 (s + 1 + j)) := ⟨s + 1 + j, by omega, by omega, rfl, rfl, g_A, hB⟩
          go_roundw
          case rel => first | exact KEY | ((repeat apply Exists.intro); exact ⟨KEY, rfl⟩)
          case measure => simp [intOf]; omega
    · go_wp2
      go_ret
      obtain ⟨g_A, hB⟩ := HG.out
      exact ⟨rfl, by first | exact hB | exact bw hB⟩
end Go.Proofs.YtghiibdhibcbaaaDoor.PA
