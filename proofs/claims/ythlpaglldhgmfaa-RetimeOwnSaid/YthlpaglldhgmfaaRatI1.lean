/- Add, its last part: behind the fraction f. -/
import Derived.Test.YthlpaglldhgmfaaRatH
namespace Go.Proofs.Ythlpaglldhgmfaa.PA
open Go.RowKit Go.Proofs.YthlpaglldhgmfaaW.PrintWords Go.Proofs.YthlpaglldhgmfaaW.PrintLast Go.Proofs.YthlpaglldhgmfaaW.PrintMore
attribute [local go_sem high] eqA85 eqA31
set_option linter.unusedSimpArgs false
set_option linter.unusedVariables false
/-- what comes out of a sum of sizes p / m with sign sa, q / m with sign sc -/
def sumS (sa sc : Bool) (p q : Nat) : Bool × Nat := if sa = sc then (sa, p + q) else if p < q then (sc, q - p) else (sa, p - q)
/-- what follows a statement -/
def sndC : Code → Code
  | .seq _ b => b
  | c => c
noncomputable def addB : Code := sndC (sndC (sndC (Try.f44.body.getD .skip)))
noncomputable def addC : Code := sndC addB
set_option maxHeartbeats 40000000 in
set_option maxRecDepth 100000 in
theorem add_c (a b c d x y z : Int) (p q m n na nb' nc' nd' : Nat) (sa sc s : Bool) (w : World) (gx gy gf : Nat) (V : World) (ha : decide (a < 0) = sa) (hc : decide (c < 0) = sc)
    (HS : Hid (sumS sa sc p q = (s, n))) (PB : Hid (p ≤ 9903520314283042199192993792)) (QB : Hid (q ≤ 9903520314283042199192993792))
    (M5 : Hid (∀ w, Calls Try.prog 84 #[.agg #[.bool s, .int .u64 (hiN n), .int .u64 (loN n), .int .u64 (hiN m), .int .u64 (loN m)]] w fun e w' => e = .returned (.tuple #[.agg #[.int .i64 x, .int .i64 y], .int .i64 z]) ∧ Below w.heap.size w w'))
    (hxy : gx ≠ gy) (hgx : w.heap.size + 1 + 1 < gx) (hgy : w.heap.size + 1 + 1 < gy) (hxf : gx ≠ gf) (hyf : gy ≠ gf) (hgf : w.heap.size + 1 + 1 < gf)
    (hfacts : V.heap[w.heap.size]? = some (.cells #[.int .i64 a, .int .i64 b] 31 (0, 0)) ∧ V.heap[w.heap.size + 1]? = some (.cells #[.int .i64 c, .int .i64 d] 31 (0, 0)) ∧ V.heap[w.heap.size + 1 + 1]? = some (.cells #[.int .i64 0, .int .i64 0] 31 (0, 0)) ∧ V.heap[gx]? = some (.cells #[.int .u64 (hiN p), .int .u64 (loN p)] 85 (0, 0)) ∧ V.heap[gy]? = some (.cells #[.int .u64 (hiN q), .int .u64 (loN q)] 85 (0, 0)) ∧ V.heap[gf]? = some (.cells #[.bool sa, .int .u64 (hiN (p + q)), .int .u64 (loN (p + q)), .int .u64 (hiN m), .int .u64 (loN m)] 114 (0, 0))) (hB : Below w.heap.size w V) :
    addC.wp Try.prog (bodyPost Try.prog Try.f44 fun e w' => e = .returned (.tuple #[.agg #[.int .i64 x, .int .i64 y], .int .i64 z]) ∧ Below w.heap.size w w') ⟨#[.agg #[.int .i64 a, .int .i64 b], .agg #[.int .i64 c, .int .i64 d], .pointer (some ⟨w.heap.size, 0, none⟩), .pointer (some ⟨w.heap.size + 1, 0, none⟩), .pointer (some ⟨w.heap.size + 1 + 1, 0, none⟩), .int .i64 0, .pointer (some ⟨gx, 0, none⟩), .pointer (some ⟨gy, 0, none⟩), .pointer (some ⟨gf, 0, none⟩),
          .agg #[.int .i64 a, .int .i64 b], .agg #[.int .i64 c, .int .i64 d], .slice (some ⟨w.heap.size + 1 + 1 + 1, 0, none⟩) 2 2, .bool true, .bool false, undef, .pointer (some ⟨w.heap.size, 0, none⟩), .int .i64 a, .int .u64 (na : Int), .pointer (some ⟨w.heap.size + 1, 1, none⟩), .int .i64 d, .int .u64 (nd' : Int),
          .agg #[.int .u64 (hiN p), .int .u64 (loN p)], .pointer (some ⟨w.heap.size + 1, 0, none⟩), .int .i64 c, .int .u64 (nc' : Int), .pointer (some ⟨w.heap.size, 1, none⟩), .int .i64 b, .int .u64 (nb' : Int), .agg #[.int .u64 (hiN q), .int .u64 (loN q)],
          .pointer (some ⟨w.heap.size, 0, none⟩), .int .i64 a, .bool sa, .agg #[.int .u64 (hiN p), .int .u64 (loN p)], .agg #[.int .u64 (hiN q), .int .u64 (loN q)], .agg #[.int .u64 (hiN (p + q)), .int .u64 (loN (p + q))], .pointer (some ⟨w.heap.size, 1, none⟩), .int .i64 b, .int .u64 (nb' : Int), .pointer (some ⟨w.heap.size + 1, 1, none⟩), .int .i64 d, .int .u64 (nd' : Int),
          .agg #[.int .u64 (hiN m), .int .u64 (loN m)], .agg #[.bool sa, .int .u64 (hiN (p + q)), .int .u64 (loN (p + q)), .int .u64 (hiN m), .int .u64 (loN m)], undef, undef, undef, undef, undef, undef, undef, undef, undef, undef, undef, undef, undef, undef, undef, undef, undef, undef, undef, undef, undef, undef, undef, undef, undef], []⟩ V := by
  conv => arg 2; whnf
  obtain ⟨g_A, g_B, g_R, g_X, g_Y, g_F⟩ := hfacts
  obtain ⟨z_A, z1_A, z2_A, y0_A, y1_A⟩ := Hand.hz g_A
  obtain ⟨c_A_0, f_A_0, c_A_1, f_A_1⟩ := Hand.hc2 g_A
  obtain ⟨z_B, z1_B, z2_B, y0_B, y1_B⟩ := Hand.hz g_B
  obtain ⟨c_B_0, f_B_0, c_B_1, f_B_1⟩ := Hand.hc2 g_B
  obtain ⟨z_R, z1_R, z2_R, y0_R, y1_R⟩ := Hand.hz g_R
  obtain ⟨c_R_0, f_R_0, c_R_1, f_R_1⟩ := Hand.hc2 g_R
  obtain ⟨z_X, z1_X, z2_X, y0_X, y1_X⟩ := Hand.hz g_X
  obtain ⟨c_X_0, f_X_0, c_X_1, f_X_1⟩ := Hand.hc2 g_X
  obtain ⟨z_Y, z1_Y, z2_Y, y0_Y, y1_Y⟩ := Hand.hz g_Y
  obtain ⟨c_Y_0, f_Y_0, c_Y_1, f_Y_1⟩ := Hand.hc2 g_Y
  obtain ⟨z_F, z1_F, z2_F, y0_F, y1_F⟩ := Hand.hz g_F
  obtain ⟨c_F_0, f_F_0, c_F_1, f_F_1, c_F_2, f_F_2, c_F_3, f_F_3, c_F_4, f_F_4⟩ := Hand.hc5 g_F
  have zw : w.heap.size ≤ V.heap.size := hB.size
  have HG := Lib.hid (And.intro g_A (And.intro g_B (And.intro g_R (And.intro g_X (And.intro g_Y (And.intro g_F (hB)))))))
  clear g_A g_B g_R g_X g_Y g_F hB
  have hs := HS.out
  unfold sumS at hs
  by_cases hsac : sa = sc
  · subst hsac
    rw [if_pos rfl, Prod.mk.injEq] at hs
    obtain ⟨rfl, rfl⟩ := hs
    go_wp2_with fail
    with_reducible refine (M5.out _).mono ?_
    rintro e w8 ⟨rfl, hb8⟩
    obtain ⟨g_A, g_B, g_R, g_X, g_Y, g_F, hB⟩ := HG.out
    have h_A : w8.heap[w.heap.size]? = some (.cells #[.int .i64 a, .int .i64 b] 31 (0, 0)) := by
      refine Hand.kb hb8 ?_; first | with_reducible exact g_A | (simp (disch := first | omega | (simp only [Hand.sa, Hand.ss, Hand.sd, Hand.sn]; first | done | omega)) only [Hand.q2, Hand.q1, Hand.q5, Hand.q6, Hand.q4, Hand.q3, g_A] <;> rfl)
    have h_B : w8.heap[w.heap.size + 1]? = some (.cells #[.int .i64 c, .int .i64 d] 31 (0, 0)) := by
      refine Hand.kb hb8 ?_; first | with_reducible exact g_B | (simp (disch := first | omega | (simp only [Hand.sa, Hand.ss, Hand.sd, Hand.sn]; first | done | omega)) only [Hand.q2, Hand.q1, Hand.q5, Hand.q6, Hand.q4, Hand.q3, g_B] <;> rfl)
    have h_R : w8.heap[w.heap.size + 1 + 1]? = some (.cells #[.int .i64 0, .int .i64 0] 31 (0, 0)) := by
      refine Hand.kb hb8 ?_; first | with_reducible exact g_R | (simp (disch := first | omega | (simp only [Hand.sa, Hand.ss, Hand.sd, Hand.sn]; first | done | omega)) only [Hand.q2, Hand.q1, Hand.q5, Hand.q6, Hand.q4, Hand.q3, g_R] <;> rfl)
    have h_X : w8.heap[gx]? = some (.cells #[.int .u64 (hiN p), .int .u64 (loN p)] 85 (0, 0)) := by
      refine Hand.kb hb8 ?_; first | with_reducible exact g_X | (simp (disch := first | omega | (simp only [Hand.sa, Hand.ss, Hand.sd, Hand.sn]; first | done | omega)) only [Hand.q2, Hand.q1, Hand.q5, Hand.q6, Hand.q4, Hand.q3, g_X] <;> rfl)
    have h_Y : w8.heap[gy]? = some (.cells #[.int .u64 (hiN q), .int .u64 (loN q)] 85 (0, 0)) := by
      refine Hand.kb hb8 ?_; first | with_reducible exact g_Y | (simp (disch := first | omega | (simp only [Hand.sa, Hand.ss, Hand.sd, Hand.sn]; first | done | omega)) only [Hand.q2, Hand.q1, Hand.q5, Hand.q6, Hand.q4, Hand.q3, g_Y] <;> rfl)
    have h_F : w8.heap[gf]? = some (.cells #[.bool sa, .int .u64 (hiN (p + q)), .int .u64 (loN (p + q)), .int .u64 (hiN m), .int .u64 (loN m)] 114 (0, 0)) := by
      refine Hand.kb hb8 ?_; first | with_reducible exact g_F | (simp (disch := first | omega | (simp only [Hand.sa, Hand.ss, Hand.sd, Hand.sn]; first | done | omega)) only [Hand.q2, Hand.q1, Hand.q5, Hand.q6, Hand.q4, Hand.q3, g_F] <;> rfl)
    have hB' : Below w.heap.size w w8 := Hand.stepB hb8 (by repeat (with_reducible first | apply hB | apply Below.drew | apply pw_below_drewN | (apply Below.setCell; rotate_left; (dsimp only; omega)) | (apply Below.alloc; rotate_left; (first | omega | (simp only [Hand.sa, Hand.ss, Hand.sd, Hand.sn]; omega))))) (Nat.le_refl _)
    clear HG hB g_A g_B g_R g_X g_Y g_F zw z_A z1_A z2_A y0_A y1_A c_A_0 f_A_0 c_A_1 f_A_1 z_B z1_B z2_B y0_B y1_B c_B_0 f_B_0 c_B_1 f_B_1 z_R z1_R z2_R y0_R y1_R c_R_0 f_R_0 c_R_1 f_R_1 z_X z1_X z2_X y0_X y1_X c_X_0 f_X_0 c_X_1 f_X_1 z_Y z1_Y z2_Y y0_Y y1_Y c_Y_0 f_Y_0 c_Y_1 f_Y_1 z_F z1_F z2_F y0_F y1_F c_F_0 f_F_0 c_F_1 f_F_1 c_F_2 f_F_2 c_F_3 f_F_3 c_F_4 f_F_4
    clear hb8
    have g_A := h_A
    have g_B := h_B
    have g_R := h_R
    have g_X := h_X
    have g_Y := h_Y
    have g_F := h_F
    have hB := hB'
    clear hB' h_A h_B h_R h_X h_Y h_F
    obtain ⟨z_A, z1_A, z2_A, y0_A, y1_A⟩ := Hand.hz g_A
    obtain ⟨c_A_0, f_A_0, c_A_1, f_A_1⟩ := Hand.hc2 g_A
    obtain ⟨z_B, z1_B, z2_B, y0_B, y1_B⟩ := Hand.hz g_B
    obtain ⟨c_B_0, f_B_0, c_B_1, f_B_1⟩ := Hand.hc2 g_B
    obtain ⟨z_R, z1_R, z2_R, y0_R, y1_R⟩ := Hand.hz g_R
    obtain ⟨c_R_0, f_R_0, c_R_1, f_R_1⟩ := Hand.hc2 g_R
    obtain ⟨z_X, z1_X, z2_X, y0_X, y1_X⟩ := Hand.hz g_X
    obtain ⟨c_X_0, f_X_0, c_X_1, f_X_1⟩ := Hand.hc2 g_X
    obtain ⟨z_Y, z1_Y, z2_Y, y0_Y, y1_Y⟩ := Hand.hz g_Y
    obtain ⟨c_Y_0, f_Y_0, c_Y_1, f_Y_1⟩ := Hand.hc2 g_Y
    obtain ⟨z_F, z1_F, z2_F, y0_F, y1_F⟩ := Hand.hz g_F
    obtain ⟨c_F_0, f_F_0, c_F_1, f_F_1, c_F_2, f_F_2, c_F_3, f_F_3, c_F_4, f_F_4⟩ := Hand.hc5 g_F
    have zw : w.heap.size ≤ w8.heap.size := hB.size
    have HG := Lib.hid (And.intro g_A (And.intro g_B (And.intro g_R (And.intro g_X (And.intro g_Y (And.intro g_F (hB)))))))
    clear g_A g_B g_R g_X g_Y g_F hB
    go_wp2
    obtain ⟨g_A, g_B, g_R, g_X, g_Y, g_F, hB⟩ := HG.out
    refine bodyPost_ret (results_ct rfl _ _ (w.heap.size + 1 + 1) 31 #[.int .i64 x, .int .i64 y] (0, 0) _ rfl ?_ Try.underlying31 rfl (by kernel_rfl)) rfl ⟨rfl, ?_⟩
    · simp (disch := omega) only [Hand.q1, g_R]; rfl
    · exact (hB.setCell (by dsimp only; omega) _).setCell (by dsimp only; omega) _
  · rw [if_neg hsac] at hs
    have hne : (sa == sc) = false := by simpa using hsac
    have pb := PB.out
    have qb := QB.out
    by_cases hpq : p < q
    · rw [if_pos hpq, Prod.mk.injEq] at hs
      obtain ⟨rfl, rfl⟩ := hs
      have c1 : ∀ w, Calls Try.prog 52 #[.agg #[.int .u64 (hiN p), .int .u64 (loN p)], .agg #[.int .u64 (hiN q), .int .u64 (loN q)]] w fun e w' => e = .returned (.int .i64 (-1)) ∧ Below w.heap.size w w' := fun w => by
        have := cmp_any p q w
        have e : cmpN p q = -1 := by unfold cmpN; rw [if_neg (by omega), if_pos hpq]
        rwa [e] at this
      have d1 : ∀ w, Calls Try.prog 83 #[.agg #[.int .u64 (hiN q), .int .u64 (loN q)], .agg #[.int .u64 (hiN p), .int .u64 (loN p)]] w fun e w' => e = .returned (.agg #[.int .u64 (hiN (q - p)), .int .u64 (loN (q - p))]) ∧ Below w.heap.size w w' := fun w => minus_any q p (by omega) (by omega) w
      have C1 := Lib.hid c1
      have D1 := Lib.hid d1
      clear c1 d1 hpq pb qb hsac
      go_wp2_with fail
      with_reducible refine (C1.out _).mono ?_
      rintro e w8 ⟨rfl, hb8⟩
      obtain ⟨g_A, g_B, g_R, g_X, g_Y, g_F, hB⟩ := HG.out
      have h_A : w8.heap[w.heap.size]? = some (.cells #[.int .i64 a, .int .i64 b] 31 (0, 0)) := by
        refine Hand.kb hb8 ?_; first | with_reducible exact g_A | (simp (disch := first | omega | (simp only [Hand.sa, Hand.ss, Hand.sd, Hand.sn]; first | done | omega)) only [Hand.q2, Hand.q1, Hand.q5, Hand.q6, Hand.q4, Hand.q3, g_A] <;> rfl)
      have h_B : w8.heap[w.heap.size + 1]? = some (.cells #[.int .i64 c, .int .i64 d] 31 (0, 0)) := by
        refine Hand.kb hb8 ?_; first | with_reducible exact g_B | (simp (disch := first | omega | (simp only [Hand.sa, Hand.ss, Hand.sd, Hand.sn]; first | done | omega)) only [Hand.q2, Hand.q1, Hand.q5, Hand.q6, Hand.q4, Hand.q3, g_B] <;> rfl)
      have h_R : w8.heap[w.heap.size + 1 + 1]? = some (.cells #[.int .i64 0, .int .i64 0] 31 (0, 0)) := by
        refine Hand.kb hb8 ?_; first | with_reducible exact g_R | (simp (disch := first | omega | (simp only [Hand.sa, Hand.ss, Hand.sd, Hand.sn]; first | done | omega)) only [Hand.q2, Hand.q1, Hand.q5, Hand.q6, Hand.q4, Hand.q3, g_R] <;> rfl)
      have h_X : w8.heap[gx]? = some (.cells #[.int .u64 (hiN p), .int .u64 (loN p)] 85 (0, 0)) := by
        refine Hand.kb hb8 ?_; first | with_reducible exact g_X | (simp (disch := first | omega | (simp only [Hand.sa, Hand.ss, Hand.sd, Hand.sn]; first | done | omega)) only [Hand.q2, Hand.q1, Hand.q5, Hand.q6, Hand.q4, Hand.q3, g_X] <;> rfl)
      have h_Y : w8.heap[gy]? = some (.cells #[.int .u64 (hiN q), .int .u64 (loN q)] 85 (0, 0)) := by
        refine Hand.kb hb8 ?_; first | with_reducible exact g_Y | (simp (disch := first | omega | (simp only [Hand.sa, Hand.ss, Hand.sd, Hand.sn]; first | done | omega)) only [Hand.q2, Hand.q1, Hand.q5, Hand.q6, Hand.q4, Hand.q3, g_Y] <;> rfl)
      have h_F : w8.heap[gf]? = some (.cells #[.bool sa, .int .u64 (hiN (p + q)), .int .u64 (loN (p + q)), .int .u64 (hiN m), .int .u64 (loN m)] 114 (0, 0)) := by
        refine Hand.kb hb8 ?_; first | with_reducible exact g_F | (simp (disch := first | omega | (simp only [Hand.sa, Hand.ss, Hand.sd, Hand.sn]; first | done | omega)) only [Hand.q2, Hand.q1, Hand.q5, Hand.q6, Hand.q4, Hand.q3, g_F] <;> rfl)
      have hB' : Below w.heap.size w w8 := Hand.stepB hb8 (by repeat (with_reducible first | apply hB | apply Below.drew | apply pw_below_drewN | (apply Below.setCell; rotate_left; (dsimp only; omega)) | (apply Below.alloc; rotate_left; (first | omega | (simp only [Hand.sa, Hand.ss, Hand.sd, Hand.sn]; omega))))) (Nat.le_refl _)
      clear HG hB g_A g_B g_R g_X g_Y g_F zw z_A z1_A z2_A y0_A y1_A c_A_0 f_A_0 c_A_1 f_A_1 z_B z1_B z2_B y0_B y1_B c_B_0 f_B_0 c_B_1 f_B_1 z_R z1_R z2_R y0_R y1_R c_R_0 f_R_0 c_R_1 f_R_1 z_X z1_X z2_X y0_X y1_X c_X_0 f_X_0 c_X_1 f_X_1 z_Y z1_Y z2_Y y0_Y y1_Y c_Y_0 f_Y_0 c_Y_1 f_Y_1 z_F z1_F z2_F y0_F y1_F c_F_0 f_F_0 c_F_1 f_F_1 c_F_2 f_F_2 c_F_3 f_F_3 c_F_4 f_F_4
      clear hb8
      have g_A := h_A
      have g_B := h_B
      have g_R := h_R
      have g_X := h_X
      have g_Y := h_Y
      have g_F := h_F
      have hB := hB'
      clear hB' h_A h_B h_R h_X h_Y h_F
      obtain ⟨z_A, z1_A, z2_A, y0_A, y1_A⟩ := Hand.hz g_A
      obtain ⟨c_A_0, f_A_0, c_A_1, f_A_1⟩ := Hand.hc2 g_A
      obtain ⟨z_B, z1_B, z2_B, y0_B, y1_B⟩ := Hand.hz g_B
      obtain ⟨c_B_0, f_B_0, c_B_1, f_B_1⟩ := Hand.hc2 g_B
      obtain ⟨z_R, z1_R, z2_R, y0_R, y1_R⟩ := Hand.hz g_R
      obtain ⟨c_R_0, f_R_0, c_R_1, f_R_1⟩ := Hand.hc2 g_R
      obtain ⟨z_X, z1_X, z2_X, y0_X, y1_X⟩ := Hand.hz g_X
      obtain ⟨c_X_0, f_X_0, c_X_1, f_X_1⟩ := Hand.hc2 g_X
      obtain ⟨z_Y, z1_Y, z2_Y, y0_Y, y1_Y⟩ := Hand.hz g_Y
      obtain ⟨c_Y_0, f_Y_0, c_Y_1, f_Y_1⟩ := Hand.hc2 g_Y
      obtain ⟨z_F, z1_F, z2_F, y0_F, y1_F⟩ := Hand.hz g_F
      obtain ⟨c_F_0, f_F_0, c_F_1, f_F_1, c_F_2, f_F_2, c_F_3, f_F_3, c_F_4, f_F_4⟩ := Hand.hc5 g_F
      have zw : w.heap.size ≤ w8.heap.size := hB.size
      have HG := Lib.hid (And.intro g_A (And.intro g_B (And.intro g_R (And.intro g_X (And.intro g_Y (And.intro g_F (hB)))))))
      clear g_A g_B g_R g_X g_Y g_F hB
      go_wp2
      refine Hand.wp_cut (fun PP hPP => ?_)
      have rest3 : PP .normal ⟨#[.agg #[.int .i64 a, .int .i64 b], .agg #[.int .i64 c, .int .i64 d], .pointer (some ⟨w.heap.size, 0, none⟩), .pointer (some ⟨w.heap.size + 1, 0, none⟩), .pointer (some ⟨w.heap.size + 1 + 1, 0, none⟩), .int .i64 0, .pointer (some ⟨gx, 0, none⟩), .pointer (some ⟨gy, 0, none⟩), .pointer (some ⟨gf, 0, none⟩),
        .agg #[.int .i64 a, .int .i64 b], .agg #[.int .i64 c, .int .i64 d], .slice (some ⟨w.heap.size + 1 + 1 + 1, 0, none⟩) 2 2, .bool true, .bool false, undef, .pointer (some ⟨w.heap.size, 0, none⟩), .int .i64 a, .int .u64 (na : Int), .pointer (some ⟨w.heap.size + 1, 1, none⟩), .int .i64 d, .int .u64 (nd' : Int),
        .agg #[.int .u64 (hiN p), .int .u64 (loN p)], .pointer (some ⟨w.heap.size + 1, 0, none⟩), .int .i64 c, .int .u64 (nc' : Int), .pointer (some ⟨w.heap.size, 1, none⟩), .int .i64 b, .int .u64 (nb' : Int), .agg #[.int .u64 (hiN q), .int .u64 (loN q)],
        .pointer (some ⟨w.heap.size, 0, none⟩), .int .i64 a, .bool sa, .agg #[.int .u64 (hiN p), .int .u64 (loN p)], .agg #[.int .u64 (hiN q), .int .u64 (loN q)], .agg #[.int .u64 (hiN (p + q)), .int .u64 (loN (p + q))], .pointer (some ⟨w.heap.size, 1, none⟩), .int .i64 b, .int .u64 (nb' : Int), .pointer (some ⟨w.heap.size + 1, 1, none⟩), .int .i64 d, .int .u64 (nd' : Int),
        .agg #[.int .u64 (hiN m), .int .u64 (loN m)], .agg #[.bool sa, .int .u64 (hiN (p + q)), .int .u64 (loN (p + q)), .int .u64 (hiN m), .int .u64 (loN m)], .pointer (some ⟨w.heap.size, 0, none⟩), .int .i64 a, .bool sa, .pointer (some ⟨w.heap.size + 1, 0, none⟩), .int .i64 c, .bool sc, .bool true, .agg #[.int .u64 (hiN p), .int .u64 (loN p)], .agg #[.int .u64 (hiN q), .int .u64 (loN q)], .int .i64 (-1), .bool true, .pointer (some ⟨w.heap.size + 1, 0, none⟩), .int .i64 c, .bool sc, .agg #[.int .u64 (hiN q), .int .u64 (loN q)], .agg #[.int .u64 (hiN p), .int .u64 (loN p)], .pointer (some ⟨gf, 0, none⟩), undef, undef, undef, undef, undef, undef, undef, undef], []⟩ (((((w8.setCell ⟨gf, 0, none⟩ (.bool sc)).setCell ⟨gx, 0, none⟩ (.int .u64 (hiN q))).setCell ⟨gx, 1, none⟩ (.int .u64 (loN q))).setCell ⟨gy, 0, none⟩ (.int .u64 (hiN p))).setCell ⟨gy, 1, none⟩ (.int .u64 (loN p))).drew := by
        rw [hPP]
        clear hPP PP
        go_wp2_with fail
        with_reducible refine (D1.out _).mono ?_
        rintro e w9 ⟨rfl, hb9⟩
        obtain ⟨g_A, g_B, g_R, g_X, g_Y, g_F, hB⟩ := HG.out
        have h_A : w9.heap[w.heap.size]? = some (.cells #[.int .i64 a, .int .i64 b] 31 (0, 0)) := by
          refine Hand.kb hb9 ?_; first | with_reducible exact g_A | (simp (disch := first | omega | (simp only [Hand.sa, Hand.ss, Hand.sd, Hand.sn]; first | done | omega)) only [Hand.q2, Hand.q1, Hand.q5, Hand.q6, Hand.q4, Hand.q3, g_A] <;> rfl)
        have h_B : w9.heap[w.heap.size + 1]? = some (.cells #[.int .i64 c, .int .i64 d] 31 (0, 0)) := by
          refine Hand.kb hb9 ?_; first | with_reducible exact g_B | (simp (disch := first | omega | (simp only [Hand.sa, Hand.ss, Hand.sd, Hand.sn]; first | done | omega)) only [Hand.q2, Hand.q1, Hand.q5, Hand.q6, Hand.q4, Hand.q3, g_B] <;> rfl)
        have h_R : w9.heap[w.heap.size + 1 + 1]? = some (.cells #[.int .i64 0, .int .i64 0] 31 (0, 0)) := by
          refine Hand.kb hb9 ?_; first | with_reducible exact g_R | (simp (disch := first | omega | (simp only [Hand.sa, Hand.ss, Hand.sd, Hand.sn]; first | done | omega)) only [Hand.q2, Hand.q1, Hand.q5, Hand.q6, Hand.q4, Hand.q3, g_R] <;> rfl)
        have h_X : w9.heap[gx]? = some (.cells #[.int .u64 (hiN q), .int .u64 (loN q)] 85 (0, 0)) := by
          refine Hand.kb hb9 ?_; simp (disch := first | omega | (simp only [Hand.sa, Hand.ss, Hand.sd, Hand.sn]; first | done | omega)) only [Hand.q2, Hand.q1, Hand.q5, Hand.q6, Hand.q4, Hand.q3, g_X] <;> rfl
        have h_Y : w9.heap[gy]? = some (.cells #[.int .u64 (hiN p), .int .u64 (loN p)] 85 (0, 0)) := by
          refine Hand.kb hb9 ?_; simp (disch := first | omega | (simp only [Hand.sa, Hand.ss, Hand.sd, Hand.sn]; first | done | omega)) only [Hand.q2, Hand.q1, Hand.q5, Hand.q6, Hand.q4, Hand.q3, g_Y] <;> rfl
        have h_F : w9.heap[gf]? = some (.cells #[.bool sc, .int .u64 (hiN (p + q)), .int .u64 (loN (p + q)), .int .u64 (hiN m), .int .u64 (loN m)] 114 (0, 0)) := by
          refine Hand.kb hb9 ?_; simp (disch := first | omega | (simp only [Hand.sa, Hand.ss, Hand.sd, Hand.sn]; first | done | omega)) only [Hand.q2, Hand.q1, Hand.q5, Hand.q6, Hand.q4, Hand.q3, g_F] <;> rfl
        have hB' : Below w.heap.size w w9 := Hand.stepB hb9 (by repeat (with_reducible first | apply hB | apply Below.drew | apply pw_below_drewN | (apply Below.setCell; rotate_left; (dsimp only; omega)) | (apply Below.alloc; rotate_left; (first | omega | (simp only [Hand.sa, Hand.ss, Hand.sd, Hand.sn]; omega))))) (Nat.le_refl _)
        clear HG hB g_A g_B g_R g_X g_Y g_F zw z_A z1_A z2_A y0_A y1_A c_A_0 f_A_0 c_A_1 f_A_1 z_B z1_B z2_B y0_B y1_B c_B_0 f_B_0 c_B_1 f_B_1 z_R z1_R z2_R y0_R y1_R c_R_0 f_R_0 c_R_1 f_R_1 z_X z1_X z2_X y0_X y1_X c_X_0 f_X_0 c_X_1 f_X_1 z_Y z1_Y z2_Y y0_Y y1_Y c_Y_0 f_Y_0 c_Y_1 f_Y_1 z_F z1_F z2_F y0_F y1_F c_F_0 f_F_0 c_F_1 f_F_1 c_F_2 f_F_2 c_F_3 f_F_3 c_F_4 f_F_4
        clear hb9
        have g_A := h_A
        have g_B := h_B
        have g_R := h_R
        have g_X := h_X
        have g_Y := h_Y
        have g_F := h_F
        have hB := hB'
        clear hB' h_A h_B h_R h_X h_Y h_F
        obtain ⟨z_A, z1_A, z2_A, y0_A, y1_A⟩ := Hand.hz g_A
        obtain ⟨c_A_0, f_A_0, c_A_1, f_A_1⟩ := Hand.hc2 g_A
        obtain ⟨z_B, z1_B, z2_B, y0_B, y1_B⟩ := Hand.hz g_B
        obtain ⟨c_B_0, f_B_0, c_B_1, f_B_1⟩ := Hand.hc2 g_B
        obtain ⟨z_R, z1_R, z2_R, y0_R, y1_R⟩ := Hand.hz g_R
        obtain ⟨c_R_0, f_R_0, c_R_1, f_R_1⟩ := Hand.hc2 g_R
        obtain ⟨z_X, z1_X, z2_X, y0_X, y1_X⟩ := Hand.hz g_X
        obtain ⟨c_X_0, f_X_0, c_X_1, f_X_1⟩ := Hand.hc2 g_X
        obtain ⟨z_Y, z1_Y, z2_Y, y0_Y, y1_Y⟩ := Hand.hz g_Y
        obtain ⟨c_Y_0, f_Y_0, c_Y_1, f_Y_1⟩ := Hand.hc2 g_Y
        obtain ⟨z_F, z1_F, z2_F, y0_F, y1_F⟩ := Hand.hz g_F
        obtain ⟨c_F_0, f_F_0, c_F_1, f_F_1, c_F_2, f_F_2, c_F_3, f_F_3, c_F_4, f_F_4⟩ := Hand.hc5 g_F
        have zw : w.heap.size ≤ w9.heap.size := hB.size
        have HG := Lib.hid (And.intro g_A (And.intro g_B (And.intro g_R (And.intro g_X (And.intro g_Y (And.intro g_F (hB)))))))
        clear g_A g_B g_R g_X g_Y g_F hB
        go_wp2_with fail
        with_reducible refine (M5.out _).mono ?_
        rintro e w10 ⟨rfl, hb10⟩
        obtain ⟨g_A, g_B, g_R, g_X, g_Y, g_F, hB⟩ := HG.out
        have h_A : w10.heap[w.heap.size]? = some (.cells #[.int .i64 a, .int .i64 b] 31 (0, 0)) := by
          refine Hand.kb hb10 ?_; first | with_reducible exact g_A | (simp (disch := first | omega | (simp only [Hand.sa, Hand.ss, Hand.sd, Hand.sn]; first | done | omega)) only [Hand.q2, Hand.q1, Hand.q5, Hand.q6, Hand.q4, Hand.q3, g_A] <;> rfl)
        have h_B : w10.heap[w.heap.size + 1]? = some (.cells #[.int .i64 c, .int .i64 d] 31 (0, 0)) := by
          refine Hand.kb hb10 ?_; first | with_reducible exact g_B | (simp (disch := first | omega | (simp only [Hand.sa, Hand.ss, Hand.sd, Hand.sn]; first | done | omega)) only [Hand.q2, Hand.q1, Hand.q5, Hand.q6, Hand.q4, Hand.q3, g_B] <;> rfl)
        have h_R : w10.heap[w.heap.size + 1 + 1]? = some (.cells #[.int .i64 0, .int .i64 0] 31 (0, 0)) := by
          refine Hand.kb hb10 ?_; first | with_reducible exact g_R | (simp (disch := first | omega | (simp only [Hand.sa, Hand.ss, Hand.sd, Hand.sn]; first | done | omega)) only [Hand.q2, Hand.q1, Hand.q5, Hand.q6, Hand.q4, Hand.q3, g_R] <;> rfl)
        have h_X : w10.heap[gx]? = some (.cells #[.int .u64 (hiN q), .int .u64 (loN q)] 85 (0, 0)) := by
          refine Hand.kb hb10 ?_; simp (disch := first | omega | (simp only [Hand.sa, Hand.ss, Hand.sd, Hand.sn]; first | done | omega)) only [Hand.q2, Hand.q1, Hand.q5, Hand.q6, Hand.q4, Hand.q3, g_X] <;> rfl
        have h_Y : w10.heap[gy]? = some (.cells #[.int .u64 (hiN p), .int .u64 (loN p)] 85 (0, 0)) := by
          refine Hand.kb hb10 ?_; simp (disch := first | omega | (simp only [Hand.sa, Hand.ss, Hand.sd, Hand.sn]; first | done | omega)) only [Hand.q2, Hand.q1, Hand.q5, Hand.q6, Hand.q4, Hand.q3, g_Y] <;> rfl
        have h_F : w10.heap[gf]? = some (.cells #[.bool sc, .int .u64 (hiN (q - p)), .int .u64 (loN (q - p)), .int .u64 (hiN m), .int .u64 (loN m)] 114 (0, 0)) := by
          refine Hand.kb hb10 ?_; simp (disch := first | omega | (simp only [Hand.sa, Hand.ss, Hand.sd, Hand.sn]; first | done | omega)) only [Hand.q2, Hand.q1, Hand.q5, Hand.q6, Hand.q4, Hand.q3, g_F] <;> rfl
        have hB' : Below w.heap.size w w10 := Hand.stepB hb10 (by repeat (with_reducible first | apply hB | apply Below.drew | apply pw_below_drewN | (apply Below.setCell; rotate_left; (dsimp only; omega)) | (apply Below.alloc; rotate_left; (first | omega | (simp only [Hand.sa, Hand.ss, Hand.sd, Hand.sn]; omega))))) (Nat.le_refl _)
        clear HG hB g_A g_B g_R g_X g_Y g_F zw z_A z1_A z2_A y0_A y1_A c_A_0 f_A_0 c_A_1 f_A_1 z_B z1_B z2_B y0_B y1_B c_B_0 f_B_0 c_B_1 f_B_1 z_R z1_R z2_R y0_R y1_R c_R_0 f_R_0 c_R_1 f_R_1 z_X z1_X z2_X y0_X y1_X c_X_0 f_X_0 c_X_1 f_X_1 z_Y z1_Y z2_Y y0_Y y1_Y c_Y_0 f_Y_0 c_Y_1 f_Y_1 z_F z1_F z2_F y0_F y1_F c_F_0 f_F_0 c_F_1 f_F_1 c_F_2 f_F_2 c_F_3 f_F_3 c_F_4 f_F_4
        clear hb10
        have g_A := h_A
        have g_B := h_B
        have g_R := h_R
        have g_X := h_X
        have g_Y := h_Y
        have g_F := h_F
        have hB := hB'
        clear hB' h_A h_B h_R h_X h_Y h_F
        obtain ⟨z_A, z1_A, z2_A, y0_A, y1_A⟩ := Hand.hz g_A
        obtain ⟨c_A_0, f_A_0, c_A_1, f_A_1⟩ := Hand.hc2 g_A
        obtain ⟨z_B, z1_B, z2_B, y0_B, y1_B⟩ := Hand.hz g_B
        obtain ⟨c_B_0, f_B_0, c_B_1, f_B_1⟩ := Hand.hc2 g_B
        obtain ⟨z_R, z1_R, z2_R, y0_R, y1_R⟩ := Hand.hz g_R
        obtain ⟨c_R_0, f_R_0, c_R_1, f_R_1⟩ := Hand.hc2 g_R
        obtain ⟨z_X, z1_X, z2_X, y0_X, y1_X⟩ := Hand.hz g_X
        obtain ⟨c_X_0, f_X_0, c_X_1, f_X_1⟩ := Hand.hc2 g_X
        obtain ⟨z_Y, z1_Y, z2_Y, y0_Y, y1_Y⟩ := Hand.hz g_Y
        obtain ⟨c_Y_0, f_Y_0, c_Y_1, f_Y_1⟩ := Hand.hc2 g_Y
        obtain ⟨z_F, z1_F, z2_F, y0_F, y1_F⟩ := Hand.hz g_F
        obtain ⟨c_F_0, f_F_0, c_F_1, f_F_1, c_F_2, f_F_2, c_F_3, f_F_3, c_F_4, f_F_4⟩ := Hand.hc5 g_F
        have zw : w.heap.size ≤ w10.heap.size := hB.size
        have HG := Lib.hid (And.intro g_A (And.intro g_B (And.intro g_R (And.intro g_X (And.intro g_Y (And.intro g_F (hB)))))))
        clear g_A g_B g_R g_X g_Y g_F hB
        go_wp2
        obtain ⟨g_A, g_B, g_R, g_X, g_Y, g_F, hB⟩ := HG.out
        refine bodyPost_ret (results_ct rfl _ _ (w.heap.size + 1 + 1) 31 #[.int .i64 x, .int .i64 y] (0, 0) _ rfl ?_ Try.underlying31 rfl (by kernel_rfl)) rfl ⟨rfl, ?_⟩
        · simp (disch := omega) only [Hand.q1, g_R]; rfl
        · exact (hB.setCell (by dsimp only; omega) _).setCell (by dsimp only; omega) _
      clear HG zw c_A_0 f_A_0 c_A_1 f_A_1 z_A z1_A z2_A y0_A y1_A c_R_0 f_R_0 c_R_1 f_R_1 z_R z1_R z2_R y0_R y1_R c_B_1 f_B_1 z_B z1_B z2_B y0_B y1_B z_X z1_X z2_X y0_X y1_X z_Y z1_Y z2_Y y0_Y y1_Y c_F_1 f_F_1 c_F_2 f_F_2 c_F_3 f_F_3 c_F_4 f_F_4 z_F z1_F z2_F y0_F y1_F
      refine wp_region_noPanic ?_
      go_region_with fail
      all_goals (refine NoPanic.normal ?_; with_reducible exact rest3)
    · rw [if_neg hpq, Prod.mk.injEq] at hs
      obtain ⟨rfl, rfl⟩ := hs
      obtain ⟨k, hk⟩ : ∃ k, cmpN p q = k := ⟨_, rfl⟩
      have c1 : ∀ w, Calls Try.prog 52 #[.agg #[.int .u64 (hiN p), .int .u64 (loN p)], .agg #[.int .u64 (hiN q), .int .u64 (loN q)]] w fun e w' => e = .returned (.int .i64 k) ∧ Below w.heap.size w w' := fun w => by
        have := cmp_any p q w
        rwa [hk] at this
      have hk0 : decide (k < 0) = false := by
        have : 0 ≤ cmpN p q := by unfold cmpN; rw [if_neg hpq]; split <;> decide
        exact decide_eq_false (by omega)
      have d1 : ∀ w, Calls Try.prog 83 #[.agg #[.int .u64 (hiN p), .int .u64 (loN p)], .agg #[.int .u64 (hiN q), .int .u64 (loN q)]] w fun e w' => e = .returned (.agg #[.int .u64 (hiN (p - q)), .int .u64 (loN (p - q))]) ∧ Below w.heap.size w w' := fun w => minus_any p q (by omega) (by omega) w
      have C1 := Lib.hid c1
      have D1 := Lib.hid d1
      clear c1 d1 hpq pb qb hk hsac
      go_wp2_with fail
      with_reducible refine (C1.out _).mono ?_
      rintro e w8 ⟨rfl, hb8⟩
      obtain ⟨g_A, g_B, g_R, g_X, g_Y, g_F, hB⟩ := HG.out
      have h_A : w8.heap[w.heap.size]? = some (.cells #[.int .i64 a, .int .i64 b] 31 (0, 0)) := by
        refine Hand.kb hb8 ?_; first | with_reducible exact g_A | (simp (disch := first | omega | (simp only [Hand.sa, Hand.ss, Hand.sd, Hand.sn]; first | done | omega)) only [Hand.q2, Hand.q1, Hand.q5, Hand.q6, Hand.q4, Hand.q3, g_A] <;> rfl)
      have h_B : w8.heap[w.heap.size + 1]? = some (.cells #[.int .i64 c, .int .i64 d] 31 (0, 0)) := by
        refine Hand.kb hb8 ?_; first | with_reducible exact g_B | (simp (disch := first | omega | (simp only [Hand.sa, Hand.ss, Hand.sd, Hand.sn]; first | done | omega)) only [Hand.q2, Hand.q1, Hand.q5, Hand.q6, Hand.q4, Hand.q3, g_B] <;> rfl)
      have h_R : w8.heap[w.heap.size + 1 + 1]? = some (.cells #[.int .i64 0, .int .i64 0] 31 (0, 0)) := by
        refine Hand.kb hb8 ?_; first | with_reducible exact g_R | (simp (disch := first | omega | (simp only [Hand.sa, Hand.ss, Hand.sd, Hand.sn]; first | done | omega)) only [Hand.q2, Hand.q1, Hand.q5, Hand.q6, Hand.q4, Hand.q3, g_R] <;> rfl)
      have h_X : w8.heap[gx]? = some (.cells #[.int .u64 (hiN p), .int .u64 (loN p)] 85 (0, 0)) := by
        refine Hand.kb hb8 ?_; first | with_reducible exact g_X | (simp (disch := first | omega | (simp only [Hand.sa, Hand.ss, Hand.sd, Hand.sn]; first | done | omega)) only [Hand.q2, Hand.q1, Hand.q5, Hand.q6, Hand.q4, Hand.q3, g_X] <;> rfl)
      have h_Y : w8.heap[gy]? = some (.cells #[.int .u64 (hiN q), .int .u64 (loN q)] 85 (0, 0)) := by
        refine Hand.kb hb8 ?_; first | with_reducible exact g_Y | (simp (disch := first | omega | (simp only [Hand.sa, Hand.ss, Hand.sd, Hand.sn]; first | done | omega)) only [Hand.q2, Hand.q1, Hand.q5, Hand.q6, Hand.q4, Hand.q3, g_Y] <;> rfl)
      have h_F : w8.heap[gf]? = some (.cells #[.bool sa, .int .u64 (hiN (p + q)), .int .u64 (loN (p + q)), .int .u64 (hiN m), .int .u64 (loN m)] 114 (0, 0)) := by
        refine Hand.kb hb8 ?_; first | with_reducible exact g_F | (simp (disch := first | omega | (simp only [Hand.sa, Hand.ss, Hand.sd, Hand.sn]; first | done | omega)) only [Hand.q2, Hand.q1, Hand.q5, Hand.q6, Hand.q4, Hand.q3, g_F] <;> rfl)
      have hB' : Below w.heap.size w w8 := Hand.stepB hb8 (by repeat (with_reducible first | apply hB | apply Below.drew | apply pw_below_drewN | (apply Below.setCell; rotate_left; (dsimp only; omega)) | (apply Below.alloc; rotate_left; (first | omega | (simp only [Hand.sa, Hand.ss, Hand.sd, Hand.sn]; omega))))) (Nat.le_refl _)
      clear HG hB g_A g_B g_R g_X g_Y g_F zw z_A z1_A z2_A y0_A y1_A c_A_0 f_A_0 c_A_1 f_A_1 z_B z1_B z2_B y0_B y1_B c_B_0 f_B_0 c_B_1 f_B_1 z_R z1_R z2_R y0_R y1_R c_R_0 f_R_0 c_R_1 f_R_1 z_X z1_X z2_X y0_X y1_X c_X_0 f_X_0 c_X_1 f_X_1 z_Y z1_Y z2_Y y0_Y y1_Y c_Y_0 f_Y_0 c_Y_1 f_Y_1 z_F z1_F z2_F y0_F y1_F c_F_0 f_F_0 c_F_1 f_F_1 c_F_2 f_F_2 c_F_3 f_F_3 c_F_4 f_F_4
      clear hb8
      have g_A := h_A
      have g_B := h_B
      have g_R := h_R
      have g_X := h_X
      have g_Y := h_Y
      have g_F := h_F
      have hB := hB'
      clear hB' h_A h_B h_R h_X h_Y h_F
      obtain ⟨z_A, z1_A, z2_A, y0_A, y1_A⟩ := Hand.hz g_A
      obtain ⟨c_A_0, f_A_0, c_A_1, f_A_1⟩ := Hand.hc2 g_A
      obtain ⟨z_B, z1_B, z2_B, y0_B, y1_B⟩ := Hand.hz g_B
      obtain ⟨c_B_0, f_B_0, c_B_1, f_B_1⟩ := Hand.hc2 g_B
      obtain ⟨z_R, z1_R, z2_R, y0_R, y1_R⟩ := Hand.hz g_R
      obtain ⟨c_R_0, f_R_0, c_R_1, f_R_1⟩ := Hand.hc2 g_R
      obtain ⟨z_X, z1_X, z2_X, y0_X, y1_X⟩ := Hand.hz g_X
      obtain ⟨c_X_0, f_X_0, c_X_1, f_X_1⟩ := Hand.hc2 g_X
      obtain ⟨z_Y, z1_Y, z2_Y, y0_Y, y1_Y⟩ := Hand.hz g_Y
      obtain ⟨c_Y_0, f_Y_0, c_Y_1, f_Y_1⟩ := Hand.hc2 g_Y
      obtain ⟨z_F, z1_F, z2_F, y0_F, y1_F⟩ := Hand.hz g_F
      obtain ⟨c_F_0, f_F_0, c_F_1, f_F_1, c_F_2, f_F_2, c_F_3, f_F_3, c_F_4, f_F_4⟩ := Hand.hc5 g_F
      have zw : w.heap.size ≤ w8.heap.size := hB.size
      have HG := Lib.hid (And.intro g_A (And.intro g_B (And.intro g_R (And.intro g_X (And.intro g_Y (And.intro g_F (hB)))))))
      clear g_A g_B g_R g_X g_Y g_F hB
      go_wp2_with fail
      with_reducible refine (D1.out _).mono ?_
      rintro e w9 ⟨rfl, hb9⟩
      obtain ⟨g_A, g_B, g_R, g_X, g_Y, g_F, hB⟩ := HG.out
      have h_A : w9.heap[w.heap.size]? = some (.cells #[.int .i64 a, .int .i64 b] 31 (0, 0)) := by
        refine Hand.kb hb9 ?_; first | with_reducible exact g_A | (simp (disch := first | omega | (simp only [Hand.sa, Hand.ss, Hand.sd, Hand.sn]; first | done | omega)) only [Hand.q2, Hand.q1, Hand.q5, Hand.q6, Hand.q4, Hand.q3, g_A] <;> rfl)
      have h_B : w9.heap[w.heap.size + 1]? = some (.cells #[.int .i64 c, .int .i64 d] 31 (0, 0)) := by
        refine Hand.kb hb9 ?_; first | with_reducible exact g_B | (simp (disch := first | omega | (simp only [Hand.sa, Hand.ss, Hand.sd, Hand.sn]; first | done | omega)) only [Hand.q2, Hand.q1, Hand.q5, Hand.q6, Hand.q4, Hand.q3, g_B] <;> rfl)
      have h_R : w9.heap[w.heap.size + 1 + 1]? = some (.cells #[.int .i64 0, .int .i64 0] 31 (0, 0)) := by
        refine Hand.kb hb9 ?_; first | with_reducible exact g_R | (simp (disch := first | omega | (simp only [Hand.sa, Hand.ss, Hand.sd, Hand.sn]; first | done | omega)) only [Hand.q2, Hand.q1, Hand.q5, Hand.q6, Hand.q4, Hand.q3, g_R] <;> rfl)
      have h_X : w9.heap[gx]? = some (.cells #[.int .u64 (hiN p), .int .u64 (loN p)] 85 (0, 0)) := by
        refine Hand.kb hb9 ?_; first | with_reducible exact g_X | (simp (disch := first | omega | (simp only [Hand.sa, Hand.ss, Hand.sd, Hand.sn]; first | done | omega)) only [Hand.q2, Hand.q1, Hand.q5, Hand.q6, Hand.q4, Hand.q3, g_X] <;> rfl)
      have h_Y : w9.heap[gy]? = some (.cells #[.int .u64 (hiN q), .int .u64 (loN q)] 85 (0, 0)) := by
        refine Hand.kb hb9 ?_; first | with_reducible exact g_Y | (simp (disch := first | omega | (simp only [Hand.sa, Hand.ss, Hand.sd, Hand.sn]; first | done | omega)) only [Hand.q2, Hand.q1, Hand.q5, Hand.q6, Hand.q4, Hand.q3, g_Y] <;> rfl)
      have h_F : w9.heap[gf]? = some (.cells #[.bool sa, .int .u64 (hiN (p + q)), .int .u64 (loN (p + q)), .int .u64 (hiN m), .int .u64 (loN m)] 114 (0, 0)) := by
        refine Hand.kb hb9 ?_; first | with_reducible exact g_F | (simp (disch := first | omega | (simp only [Hand.sa, Hand.ss, Hand.sd, Hand.sn]; first | done | omega)) only [Hand.q2, Hand.q1, Hand.q5, Hand.q6, Hand.q4, Hand.q3, g_F] <;> rfl)
      have hB' : Below w.heap.size w w9 := Hand.stepB hb9 (by repeat (with_reducible first | apply hB | apply Below.drew | apply pw_below_drewN | (apply Below.setCell; rotate_left; (dsimp only; omega)) | (apply Below.alloc; rotate_left; (first | omega | (simp only [Hand.sa, Hand.ss, Hand.sd, Hand.sn]; omega))))) (Nat.le_refl _)
      clear HG hB g_A g_B g_R g_X g_Y g_F zw z_A z1_A z2_A y0_A y1_A c_A_0 f_A_0 c_A_1 f_A_1 z_B z1_B z2_B y0_B y1_B c_B_0 f_B_0 c_B_1 f_B_1 z_R z1_R z2_R y0_R y1_R c_R_0 f_R_0 c_R_1 f_R_1 z_X z1_X z2_X y0_X y1_X c_X_0 f_X_0 c_X_1 f_X_1 z_Y z1_Y z2_Y y0_Y y1_Y c_Y_0 f_Y_0 c_Y_1 f_Y_1 z_F z1_F z2_F y0_F y1_F c_F_0 f_F_0 c_F_1 f_F_1 c_F_2 f_F_2 c_F_3 f_F_3 c_F_4 f_F_4
      clear hb9
      have g_A := h_A
      have g_B := h_B
      have g_R := h_R
      have g_X := h_X
      have g_Y := h_Y
      have g_F := h_F
      have hB := hB'
      clear hB' h_A h_B h_R h_X h_Y h_F
      obtain ⟨z_A, z1_A, z2_A, y0_A, y1_A⟩ := Hand.hz g_A
      obtain ⟨c_A_0, f_A_0, c_A_1, f_A_1⟩ := Hand.hc2 g_A
      obtain ⟨z_B, z1_B, z2_B, y0_B, y1_B⟩ := Hand.hz g_B
      obtain ⟨c_B_0, f_B_0, c_B_1, f_B_1⟩ := Hand.hc2 g_B
      obtain ⟨z_R, z1_R, z2_R, y0_R, y1_R⟩ := Hand.hz g_R
      obtain ⟨c_R_0, f_R_0, c_R_1, f_R_1⟩ := Hand.hc2 g_R
      obtain ⟨z_X, z1_X, z2_X, y0_X, y1_X⟩ := Hand.hz g_X
      obtain ⟨c_X_0, f_X_0, c_X_1, f_X_1⟩ := Hand.hc2 g_X
      obtain ⟨z_Y, z1_Y, z2_Y, y0_Y, y1_Y⟩ := Hand.hz g_Y
      obtain ⟨c_Y_0, f_Y_0, c_Y_1, f_Y_1⟩ := Hand.hc2 g_Y
      obtain ⟨z_F, z1_F, z2_F, y0_F, y1_F⟩ := Hand.hz g_F
      obtain ⟨c_F_0, f_F_0, c_F_1, f_F_1, c_F_2, f_F_2, c_F_3, f_F_3, c_F_4, f_F_4⟩ := Hand.hc5 g_F
      have zw : w.heap.size ≤ w9.heap.size := hB.size
      have HG := Lib.hid (And.intro g_A (And.intro g_B (And.intro g_R (And.intro g_X (And.intro g_Y (And.intro g_F (hB)))))))
      clear g_A g_B g_R g_X g_Y g_F hB
      go_wp2_with fail
      with_reducible refine (M5.out _).mono ?_
      rintro e w10 ⟨rfl, hb10⟩
      obtain ⟨g_A, g_B, g_R, g_X, g_Y, g_F, hB⟩ := HG.out
      have h_A : w10.heap[w.heap.size]? = some (.cells #[.int .i64 a, .int .i64 b] 31 (0, 0)) := by
        refine Hand.kb hb10 ?_; first | with_reducible exact g_A | (simp (disch := first | omega | (simp only [Hand.sa, Hand.ss, Hand.sd, Hand.sn]; first | done | omega)) only [Hand.q2, Hand.q1, Hand.q5, Hand.q6, Hand.q4, Hand.q3, g_A] <;> rfl)
      have h_B : w10.heap[w.heap.size + 1]? = some (.cells #[.int .i64 c, .int .i64 d] 31 (0, 0)) := by
        refine Hand.kb hb10 ?_; first | with_reducible exact g_B | (simp (disch := first | omega | (simp only [Hand.sa, Hand.ss, Hand.sd, Hand.sn]; first | done | omega)) only [Hand.q2, Hand.q1, Hand.q5, Hand.q6, Hand.q4, Hand.q3, g_B] <;> rfl)
      have h_R : w10.heap[w.heap.size + 1 + 1]? = some (.cells #[.int .i64 0, .int .i64 0] 31 (0, 0)) := by
        refine Hand.kb hb10 ?_; first | with_reducible exact g_R | (simp (disch := first | omega | (simp only [Hand.sa, Hand.ss, Hand.sd, Hand.sn]; first | done | omega)) only [Hand.q2, Hand.q1, Hand.q5, Hand.q6, Hand.q4, Hand.q3, g_R] <;> rfl)
      have h_X : w10.heap[gx]? = some (.cells #[.int .u64 (hiN p), .int .u64 (loN p)] 85 (0, 0)) := by
        refine Hand.kb hb10 ?_; first | with_reducible exact g_X | (simp (disch := first | omega | (simp only [Hand.sa, Hand.ss, Hand.sd, Hand.sn]; first | done | omega)) only [Hand.q2, Hand.q1, Hand.q5, Hand.q6, Hand.q4, Hand.q3, g_X] <;> rfl)
      have h_Y : w10.heap[gy]? = some (.cells #[.int .u64 (hiN q), .int .u64 (loN q)] 85 (0, 0)) := by
        refine Hand.kb hb10 ?_; first | with_reducible exact g_Y | (simp (disch := first | omega | (simp only [Hand.sa, Hand.ss, Hand.sd, Hand.sn]; first | done | omega)) only [Hand.q2, Hand.q1, Hand.q5, Hand.q6, Hand.q4, Hand.q3, g_Y] <;> rfl)
      have h_F : w10.heap[gf]? = some (.cells #[.bool sa, .int .u64 (hiN (p - q)), .int .u64 (loN (p - q)), .int .u64 (hiN m), .int .u64 (loN m)] 114 (0, 0)) := by
        refine Hand.kb hb10 ?_; simp (disch := first | omega | (simp only [Hand.sa, Hand.ss, Hand.sd, Hand.sn]; first | done | omega)) only [Hand.q2, Hand.q1, Hand.q5, Hand.q6, Hand.q4, Hand.q3, g_F] <;> rfl
      have hB' : Below w.heap.size w w10 := Hand.stepB hb10 (by repeat (with_reducible first | apply hB | apply Below.drew | apply pw_below_drewN | (apply Below.setCell; rotate_left; (dsimp only; omega)) | (apply Below.alloc; rotate_left; (first | omega | (simp only [Hand.sa, Hand.ss, Hand.sd, Hand.sn]; omega))))) (Nat.le_refl _)
      clear HG hB g_A g_B g_R g_X g_Y g_F zw z_A z1_A z2_A y0_A y1_A c_A_0 f_A_0 c_A_1 f_A_1 z_B z1_B z2_B y0_B y1_B c_B_0 f_B_0 c_B_1 f_B_1 z_R z1_R z2_R y0_R y1_R c_R_0 f_R_0 c_R_1 f_R_1 z_X z1_X z2_X y0_X y1_X c_X_0 f_X_0 c_X_1 f_X_1 z_Y z1_Y z2_Y y0_Y y1_Y c_Y_0 f_Y_0 c_Y_1 f_Y_1 z_F z1_F z2_F y0_F y1_F c_F_0 f_F_0 c_F_1 f_F_1 c_F_2 f_F_2 c_F_3 f_F_3 c_F_4 f_F_4
      clear hb10
      have g_A := h_A
      have g_B := h_B
      have g_R := h_R
      have g_X := h_X
      have g_Y := h_Y
      have g_F := h_F
      have hB := hB'
      clear hB' h_A h_B h_R h_X h_Y h_F
      obtain ⟨z_A, z1_A, z2_A, y0_A, y1_A⟩ := Hand.hz g_A
      obtain ⟨c_A_0, f_A_0, c_A_1, f_A_1⟩ := Hand.hc2 g_A
      obtain ⟨z_B, z1_B, z2_B, y0_B, y1_B⟩ := Hand.hz g_B
      obtain ⟨c_B_0, f_B_0, c_B_1, f_B_1⟩ := Hand.hc2 g_B
      obtain ⟨z_R, z1_R, z2_R, y0_R, y1_R⟩ := Hand.hz g_R
      obtain ⟨c_R_0, f_R_0, c_R_1, f_R_1⟩ := Hand.hc2 g_R
      obtain ⟨z_X, z1_X, z2_X, y0_X, y1_X⟩ := Hand.hz g_X
      obtain ⟨c_X_0, f_X_0, c_X_1, f_X_1⟩ := Hand.hc2 g_X
      obtain ⟨z_Y, z1_Y, z2_Y, y0_Y, y1_Y⟩ := Hand.hz g_Y
      obtain ⟨c_Y_0, f_Y_0, c_Y_1, f_Y_1⟩ := Hand.hc2 g_Y
      obtain ⟨z_F, z1_F, z2_F, y0_F, y1_F⟩ := Hand.hz g_F
      obtain ⟨c_F_0, f_F_0, c_F_1, f_F_1, c_F_2, f_F_2, c_F_3, f_F_3, c_F_4, f_F_4⟩ := Hand.hc5 g_F
      have zw : w.heap.size ≤ w10.heap.size := hB.size
      have HG := Lib.hid (And.intro g_A (And.intro g_B (And.intro g_R (And.intro g_X (And.intro g_Y (And.intro g_F (hB)))))))
      clear g_A g_B g_R g_X g_Y g_F hB
      go_wp2
      obtain ⟨g_A, g_B, g_R, g_X, g_Y, g_F, hB⟩ := HG.out
      refine bodyPost_ret (results_ct rfl _ _ (w.heap.size + 1 + 1) 31 #[.int .i64 x, .int .i64 y] (0, 0) _ rfl ?_ Try.underlying31 rfl (by kernel_rfl)) rfl ⟨rfl, ?_⟩
      · simp (disch := omega) only [Hand.q1, g_R]; rfl
      · exact (hB.setCell (by dsimp only; omega) _).setCell (by dsimp only; omega) _
end Go.Proofs.Ythlpaglldhgmfaa.PA
