/- lowest: a fraction told as a right ratio, if it is one. -/
import Derived.Test.YtofndakpenpkbaaDoorRefB
import Derived.Test.YtofndakpenpkbaaDoorRatD
namespace Go.Proofs.YtofndakpenpkbaaDoor.PA
open Go.RowKit Go.Proofs.YtofndakpenpkbaaDoorW.PrintWords Go.Proofs.YtofndakpenpkbaaDoorW.PrintLast Go.Proofs.YtofndakpenpkbaaDoorW.PrintMore
set_option linter.unusedSimpArgs false
set_option linter.unusedVariables false
theorem ref_divided (X Y : Nat) (n n2 : Bool) (hX : X < 340282366920938463463374607431768211456) (hY : 0 < Y) (w : World) :
    Calls Tryd.prog 85 #[.agg #[.bool n, .int .u64 (hiN X), .int .u64 (loN X)], .agg #[.bool n2, .int .u64 (hiN Y), .int .u64 (loN Y)]] w fun e w' =>
      e = .returned (.tuple #[.agg #[.bool false, .int .u64 (hiN (X / Y)), .int .u64 (loN (X / Y))], .agg #[.bool false, .int .u64 (hiN (X % Y)), .int .u64 (loN (X % Y))]]) ∧ Below w.heap.size w w' :=
  Go.Proofs.YtofndakpenpkbaaDoor.PR.surtitleref3_divided.calls 129 _ _ _ _ _ _ _ _ _ _ _ _ w (divided_any X Y hX hY n n2 129 (by omega))
theorem ref_fits (neg : Bool) (p : Nat) (w : World) :
    Calls Tryd.prog 69 #[.agg #[.bool neg, .int .u64 (hiN p), .int .u64 (loN p)]] w fun e w' => e = .returned (.bool (decide (p ≤ 4611686018427387904))) ∧ Below w.heap.size w w' :=
  Go.Proofs.YtofndakpenpkbaaDoor.PR.surtitleref3_fits.calls _ _ _ _ w (by
    unfold Go.Proofs.YtofndakpenpkbaaDoor.PR.surtitleref3_fits.f hiN loN
    by_cases h : ((p / 18446744073709551616 : Nat) : Int) = 0
    · rw [if_pos h]; congr 1; rw [decide_eq_decide]; omega
    · rw [if_neg h]; congr 1; symm; rw [decide_eq_false_iff_not]; omega)
theorem ref_number (neg : Bool) (p : Nat) (hp : p ≤ 4611686018427387904) (w : World) :
    Calls Tryd.prog 70 #[.agg #[.bool neg, .int .u64 (hiN p), .int .u64 (loN p)]] w fun e w' => e = .returned (.int .i64 (if neg = true then -(p : Int) else (p : Int))) ∧ Below w.heap.size w w' :=
  Go.Proofs.YtofndakpenpkbaaDoor.PR.surtitleref3_number.calls _ _ _ _ w (by
    unfold Go.Proofs.YtofndakpenpkbaaDoor.PR.surtitleref3_number.f loN
    cases neg
    · rw [if_neg (by decide), if_neg (by decide)]; congr 1; unfold wrap64; omega
    · rw [if_pos rfl, if_pos rfl]; congr 1; unfold wrap64; omega)
set_option maxHeartbeats 1000000 in
set_option maxRecDepth 100000 in
theorem lowest_zero (D : Nat) (w : World) :
    Calls Tryd.prog 53 #[.agg #[.bool false, .int .u64 0, .int .u64 0], .agg #[.bool false, .int .u64 (hiN D), .int .u64 (loN D)]] w fun e w' =>
      e = .returned (.tuple #[.agg #[.int .i64 0, .int .i64 1], .int .i64 0]) ∧ Below w.heap.size w w' := by
  go_enter Tryd.func53, Tryd.ntmps53
  go_wp2
  refine bodyPost_ret (results_ct rfl _ _ (w.heap.size + 1 + 1) 24 #[.int .i64 0, .int .i64 1] (0, 0) _ rfl ?_ Tryd.underlying24 rfl (by kernel_rfl)) rfl ⟨rfl, ?_⟩
  · simp (disch := first | omega | (simp only [Hand.sa, Hand.ss, Hand.sd, Hand.sn]; first | done | omega)) only [Hand.q1, Hand.q2, Hand.q3, Hand.q4] <;> rfl
  · repeat (with_reducible first | exact Below.refl _ _ | refine Below.setCell ?_ (by dsimp only; omega) _ | refine Below.alloc ?_ (by first | omega | (simp only [Hand.sa, Hand.ss, Hand.sd, Hand.sn]; omega)) _)
set_option maxHeartbeats 8000000 in
set_option maxRecDepth 100000 in
theorem lowest_some (neg : Bool) (n D g p q : Nat) (x y z : Int) (w : World) (hn0 : 0 < n) (hn : n < 340282366920938463463374607431768211456) (hD0 : 0 < D) (hD : D < 340282366920938463463374607431768211456)
    (hg : Nat.gcd n D = g) (hp : n / g = p) (hq : D / g = q) (hf : fitS neg n D = (x, y, z)) :
    Calls Tryd.prog 53 #[.agg #[.bool neg, .int .u64 (hiN n), .int .u64 (loN n)], .agg #[.bool false, .int .u64 (hiN D), .int .u64 (loN D)]] w fun e w' =>
      e = .returned (.tuple #[.agg #[.int .i64 x, .int .i64 y], .int .i64 z]) ∧ Below w.heap.size w w' := by
  have hnz : (hiN n == 0 && loN n == 0) = false := hl_zero (by omega)
  have HF := Lib.hid hf
  have HP := Lib.hid (And.intro hp hq)
  have HGG := Lib.hid hg
  clear hf hp hq hg
  go_enter Tryd.func53, Tryd.ntmps53
  have hcs : ((hiN n == 0) = true ∧ (loN n == 0) = false) ∨ (hiN n == 0) = false := by
    cases h : (hiN n == 0)
    · exact .inr rfl
    · rw [h] at hnz; exact .inl ⟨rfl, by simpa using hnz⟩
  have HN := Lib.hid hn
  have HDD := Lib.hid hD
  clear hnz hn hD
  rcases hcs with ⟨h2, h3⟩ | h2
  all_goals
    go_wp2
    go_loopg [8] D (fun b _ wr => ∃ a : Nat, 0 < a ∧ a < 340282366920938463463374607431768211456 ∧ b < 340282366920938463463374607431768211456 ∧ Nat.gcd a b = g ∧
        wr.heap[w.heap.size]? = some (.cells #[.bool neg, .int .u64 (hiN n), .int .u64 (loN n)] 74 (0, 0)) ∧ wr.heap[w.heap.size + 1]? = some (.cells #[.bool false, .int .u64 (hiN D), .int .u64 (loN D)] 74 (0, 0)) ∧
        wr.heap[w.heap.size + 1 + 1]? = some (.cells #[.int .i64 0, .int .i64 0] 24 (0, 0)) ∧
        wr.heap[w.heap.size + 1 + 1 + 1]? = some (.cells #[.bool false, .int .u64 (hiN a), .int .u64 (loN a)] 74 (0, 0)) ∧ wr.heap[w.heap.size + 1 + 1 + 1 + 1]? = some (.cells #[.bool false, .int .u64 (hiN b), .int .u64 (loN b)] 74 (0, 0)) ∧ Below w.heap.size w wr)
    case atStart =>
      refine ⟨n, hn0, HN.out, HDD.out, HGG.out, ?_, ?_, ?_, ?_, ?_, ?_⟩
      · simp (disch := first | omega | (simp only [Hand.sa]; first | done | omega)) only [Hand.q3, Hand.q4]
      · simp (disch := first | omega | (simp only [Hand.sa]; first | done | omega)) only [Hand.q3, Hand.q4]
      · simp (disch := first | omega | (simp only [Hand.sa]; first | done | omega)) only [Hand.q3, Hand.q4]
      · simp (disch := first | omega | (simp only [Hand.sa]; first | done | omega)) only [Hand.q3, Hand.q4]
      · simp (disch := first | omega | (simp only [Hand.sa]; first | done | omega)) only [Hand.q3, Hand.q4]
      · repeat (with_reducible first | exact Below.refl _ _ | refine Below.alloc ?_ (by first | omega | (simp only [Hand.sa]; omega)) _)
    case round =>
      obtain ⟨a, ha0, ha, hb, hgg, g_N, g_D, g_R, g_A, g_B, hB⟩ := hrel
      have HGR := Lib.hid hgg
      have HAB := Lib.hid (And.intro ha hb)
      clear hgg ha hb
      obtain ⟨z_N, z1_N, z2_N, y0_N, y1_N⟩ := Hand.hz g_N
      obtain ⟨c_N_0, f_N_0, c_N_1, f_N_1, c_N_2, f_N_2⟩ := Hand.hc3 g_N
      obtain ⟨z_D, z1_D, z2_D, y0_D, y1_D⟩ := Hand.hz g_D
      obtain ⟨c_D_0, f_D_0, c_D_1, f_D_1, c_D_2, f_D_2⟩ := Hand.hc3 g_D
      obtain ⟨z_R, z1_R, z2_R, y0_R, y1_R⟩ := Hand.hz g_R
      obtain ⟨c_R_0, f_R_0, c_R_1, f_R_1⟩ := Hand.hc2 g_R
      obtain ⟨z_A, z1_A, z2_A, y0_A, y1_A⟩ := Hand.hz g_A
      obtain ⟨c_A_0, f_A_0, c_A_1, f_A_1, c_A_2, f_A_2⟩ := Hand.hc3 g_A
      obtain ⟨z_B, z1_B, z2_B, y0_B, y1_B⟩ := Hand.hz g_B
      obtain ⟨c_B_0, f_B_0, c_B_1, f_B_1, c_B_2, f_B_2⟩ := Hand.hc3 g_B
      have zw : w.heap.size ≤ wr.heap.size := hB.size
      have HG := Lib.hid (And.intro g_N (And.intro g_D (And.intro g_R (And.intro g_A (And.intro g_B (hB))))))
      clear g_N g_D g_R g_A g_B hB
      by_cases hk0 : gk = 0
      · subst hk0
        have z0 : hiN 0 = 0 := rfl
        have z1 : loN 0 = 0 := rfl
        obtain rfl : a = g := by have := HGR.out; rw [Nat.gcd_zero_right] at this; exact this
        have m2 : ∀ w, Calls Tryd.prog 85 #[.agg #[.bool false, .int .u64 (hiN n), .int .u64 (loN n)], .agg #[.bool false, .int .u64 (hiN a), .int .u64 (loN a)]] w fun e w' =>
            e = .returned (.tuple #[.agg #[.bool false, .int .u64 (hiN p), .int .u64 (loN p)], .agg #[.bool false, .int .u64 (hiN (n % a)), .int .u64 (loN (n % a))]]) ∧ Below w.heap.size w w' := fun w => by
          have h := ref_divided n a false false HN.out ha0 w
          rw [HP.out.1] at h; exact h
        have m3 : ∀ w, Calls Tryd.prog 85 #[.agg #[.bool false, .int .u64 (hiN D), .int .u64 (loN D)], .agg #[.bool false, .int .u64 (hiN a), .int .u64 (loN a)]] w fun e w' =>
            e = .returned (.tuple #[.agg #[.bool false, .int .u64 (hiN q), .int .u64 (loN q)], .agg #[.bool false, .int .u64 (hiN (D % a)), .int .u64 (loN (D % a))]]) ∧ Below w.heap.size w w' := fun w => by
          have h := ref_divided D a false false HDD.out ha0 w
          rw [HP.out.2] at h; exact h
        have hff : (p ≤ 4611686018427387904 ∧ q ≤ 2147483648 ∧ x = (if neg = true then -(p : Int) else (p : Int)) ∧ y = (q : Int) ∧ z = 0) ∨ (¬ (p ≤ 4611686018427387904 ∧ q ≤ 2147483648) ∧ x = 0 ∧ y = 0 ∧ z = 12) := by
          have h := HF.out
          unfold fitS at h
          rw [HGG.out, HP.out.1, HP.out.2] at h
          by_cases hc : p ≤ 4611686018427387904 ∧ q ≤ 2147483648
          · rw [if_pos hc] at h; simp only [Prod.mk.injEq] at h; exact .inl ⟨hc.1, hc.2, h.1.symm, h.2.1.symm, h.2.2.symm⟩
          · rw [if_neg hc] at h; simp only [Prod.mk.injEq] at h; exact .inr ⟨hc, h.1.symm, h.2.1.symm, h.2.2.symm⟩
        have M2 := Lib.hid m2
        have M3 := Lib.hid m3
        have M4 := Lib.hid (ref_fits neg p)
        have HFF := Lib.hid hff
        clear m2 m3 hff hn0 hD0 HF HGG HGR HAB HN HDD HP ha0
        go_wp2_with fail
        with_reducible refine (M2.out _).mono ?_
        rintro e w1 ⟨rfl, hb1⟩
        obtain ⟨g_N, g_D, g_R, g_A, g_B, hB⟩ := HG.out
        have h_N : w1.heap[w.heap.size]? = some (.cells #[.bool neg, .int .u64 (hiN n), .int .u64 (loN n)] 74 (0, 0)) := by
          refine Hand.kb hb1 ?_; first | with_reducible exact g_N | (simp (disch := first | omega | (simp only [Hand.sa, Hand.ss, Hand.sd, Hand.sn]; first | done | omega)) only [Hand.q2, Hand.q1, Hand.q5, Hand.q6, Hand.q4, Hand.q3, g_N] <;> rfl)
        have h_D : w1.heap[w.heap.size + 1]? = some (.cells #[.bool false, .int .u64 (hiN D), .int .u64 (loN D)] 74 (0, 0)) := by
          refine Hand.kb hb1 ?_; first | with_reducible exact g_D | (simp (disch := first | omega | (simp only [Hand.sa, Hand.ss, Hand.sd, Hand.sn]; first | done | omega)) only [Hand.q2, Hand.q1, Hand.q5, Hand.q6, Hand.q4, Hand.q3, g_D] <;> rfl)
        have h_R : w1.heap[w.heap.size + 1 + 1]? = some (.cells #[.int .i64 0, .int .i64 0] 24 (0, 0)) := by
          refine Hand.kb hb1 ?_; first | with_reducible exact g_R | (simp (disch := first | omega | (simp only [Hand.sa, Hand.ss, Hand.sd, Hand.sn]; first | done | omega)) only [Hand.q2, Hand.q1, Hand.q5, Hand.q6, Hand.q4, Hand.q3, g_R] <;> rfl)
        have h_A : w1.heap[w.heap.size + 1 + 1 + 1]? = some (.cells #[.bool false, .int .u64 (hiN a), .int .u64 (loN a)] 74 (0, 0)) := by
          refine Hand.kb hb1 ?_; first | with_reducible exact g_A | (simp (disch := first | omega | (simp only [Hand.sa, Hand.ss, Hand.sd, Hand.sn]; first | done | omega)) only [Hand.q2, Hand.q1, Hand.q5, Hand.q6, Hand.q4, Hand.q3, g_A] <;> rfl)
        have hB' : Below w.heap.size w w1 := Hand.stepB hb1 (by repeat (with_reducible first | apply hB | apply Below.drew | apply pw_below_drewN | (apply Below.setCell; rotate_left; (dsimp only; omega)) | (apply Below.alloc; rotate_left; (first | omega | (simp only [Hand.sa, Hand.ss, Hand.sd, Hand.sn]; omega))))) (Nat.le_refl _)
        clear HG hB g_N g_D g_R g_A g_B zw z_N z1_N z2_N y0_N y1_N c_N_0 f_N_0 c_N_1 f_N_1 c_N_2 f_N_2 z_D z1_D z2_D y0_D y1_D c_D_0 f_D_0 c_D_1 f_D_1 c_D_2 f_D_2 z_R z1_R z2_R y0_R y1_R c_R_0 f_R_0 c_R_1 f_R_1 z_A z1_A z2_A y0_A y1_A c_A_0 f_A_0 c_A_1 f_A_1 c_A_2 f_A_2 z_B z1_B z2_B y0_B y1_B c_B_0 f_B_0 c_B_1 f_B_1 c_B_2 f_B_2
        clear hb1
        have g_N := h_N
        have g_D := h_D
        have g_R := h_R
        have g_A := h_A
        have hB := hB'
        clear hB' h_N h_D h_R h_A
        obtain ⟨z_N, z1_N, z2_N, y0_N, y1_N⟩ := Hand.hz g_N
        obtain ⟨c_N_0, f_N_0, c_N_1, f_N_1, c_N_2, f_N_2⟩ := Hand.hc3 g_N
        obtain ⟨z_D, z1_D, z2_D, y0_D, y1_D⟩ := Hand.hz g_D
        obtain ⟨c_D_0, f_D_0, c_D_1, f_D_1, c_D_2, f_D_2⟩ := Hand.hc3 g_D
        obtain ⟨z_R, z1_R, z2_R, y0_R, y1_R⟩ := Hand.hz g_R
        obtain ⟨c_R_0, f_R_0, c_R_1, f_R_1⟩ := Hand.hc2 g_R
        obtain ⟨z_A, z1_A, z2_A, y0_A, y1_A⟩ := Hand.hz g_A
        obtain ⟨c_A_0, f_A_0, c_A_1, f_A_1, c_A_2, f_A_2⟩ := Hand.hc3 g_A
        have zw : w.heap.size ≤ w1.heap.size := hB.size
        have HG := Lib.hid (And.intro g_N (And.intro g_D (And.intro g_R (And.intro g_A (hB)))))
        clear g_N g_D g_R g_A hB
        have k1 : w.heap.size + 1 + 1 + 1 < w1.heap.size := z_A
        go_wp2_with fail
        with_reducible refine (M3.out _).mono ?_
        rintro e w2 ⟨rfl, hb2⟩
        obtain ⟨g_N, g_D, g_R, g_A, hB⟩ := HG.out
        have h_N : w2.heap[w.heap.size]? = some (.cells #[.bool neg, .int .u64 (hiN n), .int .u64 (loN n)] 74 (0, 0)) := by
          refine Hand.kb hb2 ?_; first | with_reducible exact g_N | (simp (disch := first | omega | (simp only [Hand.sa, Hand.ss, Hand.sd, Hand.sn]; first | done | omega)) only [Hand.q2, Hand.q1, Hand.q5, Hand.q6, Hand.q4, Hand.q3, g_N] <;> rfl)
        have h_D : w2.heap[w.heap.size + 1]? = some (.cells #[.bool false, .int .u64 (hiN D), .int .u64 (loN D)] 74 (0, 0)) := by
          refine Hand.kb hb2 ?_; first | with_reducible exact g_D | (simp (disch := first | omega | (simp only [Hand.sa, Hand.ss, Hand.sd, Hand.sn]; first | done | omega)) only [Hand.q2, Hand.q1, Hand.q5, Hand.q6, Hand.q4, Hand.q3, g_D] <;> rfl)
        have h_R : w2.heap[w.heap.size + 1 + 1]? = some (.cells #[.int .i64 0, .int .i64 0] 24 (0, 0)) := by
          refine Hand.kb hb2 ?_; first | with_reducible exact g_R | (simp (disch := first | omega | (simp only [Hand.sa, Hand.ss, Hand.sd, Hand.sn]; first | done | omega)) only [Hand.q2, Hand.q1, Hand.q5, Hand.q6, Hand.q4, Hand.q3, g_R] <;> rfl)
        have h_A : w2.heap[w.heap.size + 1 + 1 + 1]? = some (.cells #[.bool false, .int .u64 (hiN a), .int .u64 (loN a)] 74 (0, 0)) := by
          refine Hand.kb hb2 ?_; first | with_reducible exact g_A | (simp (disch := first | omega | (simp only [Hand.sa, Hand.ss, Hand.sd, Hand.sn]; first | done | omega)) only [Hand.q2, Hand.q1, Hand.q5, Hand.q6, Hand.q4, Hand.q3, g_A] <;> rfl)
        have h_P : w2.heap[w1.heap.size]? = some (.cells #[.bool false, .int .u64 (hiN p), .int .u64 (loN p)] 74 (0, 0)) := by
          refine Hand.kb hb2 ?_; simp (disch := first | omega | (simp only [Hand.sa, Hand.ss, Hand.sd, Hand.sn]; first | done | omega)) only [Hand.q2, Hand.q1, Hand.q5, Hand.q6, Hand.q4, Hand.q3] <;> rfl
        have hB' : Below w.heap.size w w2 := Hand.stepB hb2 (by repeat (with_reducible first | apply hB | apply Below.drew | apply pw_below_drewN | (apply Below.setCell; rotate_left; (dsimp only; omega)) | (apply Below.alloc; rotate_left; (first | omega | (simp only [Hand.sa, Hand.ss, Hand.sd, Hand.sn]; omega))))) (Nat.le_refl _)
        clear HG hB g_N g_D g_R g_A zw z_N z1_N z2_N y0_N y1_N c_N_0 f_N_0 c_N_1 f_N_1 c_N_2 f_N_2 z_D z1_D z2_D y0_D y1_D c_D_0 f_D_0 c_D_1 f_D_1 c_D_2 f_D_2 z_R z1_R z2_R y0_R y1_R c_R_0 f_R_0 c_R_1 f_R_1 z_A z1_A z2_A y0_A y1_A c_A_0 f_A_0 c_A_1 f_A_1 c_A_2 f_A_2
        clear hb2
        have g_N := h_N
        have g_D := h_D
        have g_R := h_R
        have g_A := h_A
        have g_P := h_P
        have hB := hB'
        clear hB' h_N h_D h_R h_A h_P
        obtain ⟨z_N, z1_N, z2_N, y0_N, y1_N⟩ := Hand.hz g_N
        obtain ⟨c_N_0, f_N_0, c_N_1, f_N_1, c_N_2, f_N_2⟩ := Hand.hc3 g_N
        obtain ⟨z_D, z1_D, z2_D, y0_D, y1_D⟩ := Hand.hz g_D
        obtain ⟨c_D_0, f_D_0, c_D_1, f_D_1, c_D_2, f_D_2⟩ := Hand.hc3 g_D
        obtain ⟨z_R, z1_R, z2_R, y0_R, y1_R⟩ := Hand.hz g_R
        obtain ⟨c_R_0, f_R_0, c_R_1, f_R_1⟩ := Hand.hc2 g_R
        obtain ⟨z_A, z1_A, z2_A, y0_A, y1_A⟩ := Hand.hz g_A
        obtain ⟨c_A_0, f_A_0, c_A_1, f_A_1, c_A_2, f_A_2⟩ := Hand.hc3 g_A
        obtain ⟨z_P, z1_P, z2_P, y0_P, y1_P⟩ := Hand.hz g_P
        obtain ⟨c_P_0, f_P_0, c_P_1, f_P_1, c_P_2, f_P_2⟩ := Hand.hc3 g_P
        have zw : w.heap.size ≤ w2.heap.size := hB.size
        have HG := Lib.hid (And.intro g_N (And.intro g_D (And.intro g_R (And.intro g_A (And.intro g_P (hB))))))
        clear g_N g_D g_R g_A g_P hB
        have k2 : w1.heap.size < w2.heap.size := z_P
        go_wp2_with fail
        with_reducible refine (M4.out _).mono ?_
        rintro e w3 ⟨rfl, hb3⟩
        obtain ⟨g_N, g_D, g_R, g_A, g_P, hB⟩ := HG.out
        have h_R : w3.heap[w.heap.size + 1 + 1]? = some (.cells #[.int .i64 0, .int .i64 0] 24 (0, 0)) := by
          refine Hand.kb hb3 ?_; first | with_reducible exact g_R | (simp (disch := first | omega | (simp only [Hand.sa, Hand.ss, Hand.sd, Hand.sn]; first | done | omega)) only [Hand.q2, Hand.q1, Hand.q5, Hand.q6, Hand.q4, Hand.q3, g_R] <;> rfl)
        have h_P : w3.heap[w1.heap.size]? = some (.cells #[.bool neg, .int .u64 (hiN p), .int .u64 (loN p)] 74 (0, 0)) := by
          refine Hand.kb hb3 ?_; simp (disch := first | omega | (simp only [Hand.sa, Hand.ss, Hand.sd, Hand.sn]; first | done | omega)) only [Hand.q2, Hand.q1, Hand.q5, Hand.q6, Hand.q4, Hand.q3, g_P] <;> rfl
        have h_Q : w3.heap[w2.heap.size]? = some (.cells #[.bool false, .int .u64 (hiN q), .int .u64 (loN q)] 74 (0, 0)) := by
          refine Hand.kb hb3 ?_; simp (disch := first | omega | (simp only [Hand.sa, Hand.ss, Hand.sd, Hand.sn]; first | done | omega)) only [Hand.q2, Hand.q1, Hand.q5, Hand.q6, Hand.q4, Hand.q3] <;> rfl
        have hB' : Below w.heap.size w w3 := Hand.stepB hb3 (by repeat (with_reducible first | apply hB | apply Below.drew | apply pw_below_drewN | (apply Below.setCell; rotate_left; (dsimp only; omega)) | (apply Below.alloc; rotate_left; (first | omega | (simp only [Hand.sa, Hand.ss, Hand.sd, Hand.sn]; omega))))) (Nat.le_refl _)
        clear HG hB g_N g_D g_R g_A g_P zw z_N z1_N z2_N y0_N y1_N c_N_0 f_N_0 c_N_1 f_N_1 c_N_2 f_N_2 z_D z1_D z2_D y0_D y1_D c_D_0 f_D_0 c_D_1 f_D_1 c_D_2 f_D_2 z_R z1_R z2_R y0_R y1_R c_R_0 f_R_0 c_R_1 f_R_1 z_A z1_A z2_A y0_A y1_A c_A_0 f_A_0 c_A_1 f_A_1 c_A_2 f_A_2 z_P z1_P z2_P y0_P y1_P c_P_0 f_P_0 c_P_1 f_P_1 c_P_2 f_P_2
        clear hb3
        have g_R := h_R
        have g_P := h_P
        have g_Q := h_Q
        have hB := hB'
        clear hB' h_R h_P h_Q
        obtain ⟨z_R, z1_R, z2_R, y0_R, y1_R⟩ := Hand.hz g_R
        obtain ⟨c_R_0, f_R_0, c_R_1, f_R_1⟩ := Hand.hc2 g_R
        obtain ⟨z_P, z1_P, z2_P, y0_P, y1_P⟩ := Hand.hz g_P
        obtain ⟨c_P_0, f_P_0, c_P_1, f_P_1, c_P_2, f_P_2⟩ := Hand.hc3 g_P
        obtain ⟨z_Q, z1_Q, z2_Q, y0_Q, y1_Q⟩ := Hand.hz g_Q
        obtain ⟨c_Q_0, f_Q_0, c_Q_1, f_Q_1, c_Q_2, f_Q_2⟩ := Hand.hc3 g_Q
        have zw : w.heap.size ≤ w3.heap.size := hB.size
        have HG := Lib.hid (And.intro g_R (And.intro g_P (And.intro g_Q (hB))))
        clear g_R g_P g_Q hB
        have k3 : w2.heap.size < w3.heap.size := z_Q
        by_cases hp1 : p ≤ 4611686018427387904
        · rw [decide_eq_true hp1]
          by_cases hq1 : q ≤ 2147483648
          · have hq2 : (hiN q != 0) = false := by unfold hiN; rw [bne_eq_false_iff_eq]; omega
            have hq3 : decide (2147483648 < loN q) = false := by unfold loN; rw [decide_eq_false_iff_not]; omega
            have M5 := Lib.hid (ref_number neg p hp1)
            have hw : wrap64 (loN q) = (q : Int) := by unfold loN wrap64; omega
            have hw2 : IntKind.i64.wrap (loN q) = (q : Int) := by rw [IntKind.wrap_i64]; unfold loN; omega
            have hxy : x = (if neg = true then -(p : Int) else (p : Int)) ∧ y = (q : Int) ∧ z = 0 := by
              rcases HFF.out with h | h
              · exact h.2.2
              · exact absurd ⟨hp1, hq1⟩ h.1
            obtain ⟨hx, rfl, rfl⟩ := hxy
            rw [← hx] at M5
            clear hx HFF hp1 hq1 M2 M3 M4
            go_wp2
            have HBW := Lib.hid (HG.out.2.2.2)
            have HK := Lib.hid (And.intro c_P_0 (And.intro c_P_1 (And.intro c_P_2 (And.intro c_Q_0 (And.intro c_Q_1 (c_Q_2))))))
            have HR_R := Lib.hid (And.intro c_R_0 (And.intro f_R_0 (And.intro c_R_1 (f_R_1))))
            have BD : Below w3.heap.size w3 w3.drew := Below.drew (Below.refl _ _)
            have BR : Below w3.heap.size w3 w3 := Below.refl _ _
            go_region_held3 (fun w_ => Below w.heap.size w w_ ∧ w_.cell? ⟨w1.heap.size, 0, none⟩ = some (.bool neg) ∧ w_.cell? ⟨w1.heap.size, 1, none⟩ = some (.int .u64 (hiN p)) ∧ w_.cell? ⟨w1.heap.size, 2, none⟩ = some (.int .u64 (loN p)) ∧ w_.cell? ⟨w2.heap.size, 0, none⟩ = some (.bool false) ∧ w_.cell? ⟨w2.heap.size, 1, none⟩ = some (.int .u64 (hiN q)) ∧ w_.cell? ⟨w2.heap.size, 2, none⟩ = some (.int .u64 (loN q))) (first | with_reducible exact ⟨Below.setCell (Below.setCell (HBW.out.trans (Below.mono BB zw)) (by dsimp only; omega) _) (by dsimp only; omega) _, Hand.cell_far (by omega) (Hand.cell_far (by omega) ((Below.cell BB (p := ⟨w1.heap.size, 0, none⟩) z_P).trans (HK.out.1))), Hand.cell_far (by omega) (Hand.cell_far (by omega) ((Below.cell BB (p := ⟨w1.heap.size, 1, none⟩) z_P).trans (HK.out.2.1))), Hand.cell_far (by omega) (Hand.cell_far (by omega) ((Below.cell BB (p := ⟨w1.heap.size, 2, none⟩) z_P).trans (HK.out.2.2.1))), Hand.cell_far (by omega) (Hand.cell_far (by omega) ((Below.cell BB (p := ⟨w2.heap.size, 0, none⟩) z_Q).trans (HK.out.2.2.2.1))), Hand.cell_far (by omega) (Hand.cell_far (by omega) ((Below.cell BB (p := ⟨w2.heap.size, 1, none⟩) z_Q).trans (HK.out.2.2.2.2.1))), Hand.cell_far (by omega) (Hand.cell_far (by omega) ((Below.cell BB (p := ⟨w2.heap.size, 2, none⟩) z_Q).trans (HK.out.2.2.2.2.2)))⟩ | with_reducible (refine ⟨?_, (Below.cell BR (p := ⟨w1.heap.size, 0, none⟩) z_P).trans (HK.out.1), (Below.cell BR (p := ⟨w1.heap.size, 1, none⟩) z_P).trans (HK.out.2.1), (Below.cell BR (p := ⟨w1.heap.size, 2, none⟩) z_P).trans (HK.out.2.2.1), (Below.cell BR (p := ⟨w2.heap.size, 0, none⟩) z_Q).trans (HK.out.2.2.2.1), (Below.cell BR (p := ⟨w2.heap.size, 1, none⟩) z_Q).trans (HK.out.2.2.2.2.1), (Below.cell BR (p := ⟨w2.heap.size, 2, none⟩) z_Q).trans (HK.out.2.2.2.2.2)⟩; apply (HBW.out.trans (Below.mono BR zw))) | with_reducible (refine ⟨?_, (Below.cell BD (p := ⟨w1.heap.size, 0, none⟩) z_P).trans (HK.out.1), (Below.cell BD (p := ⟨w1.heap.size, 1, none⟩) z_P).trans (HK.out.2.1), (Below.cell BD (p := ⟨w1.heap.size, 2, none⟩) z_P).trans (HK.out.2.2.1), (Below.cell BD (p := ⟨w2.heap.size, 0, none⟩) z_Q).trans (HK.out.2.2.2.1), (Below.cell BD (p := ⟨w2.heap.size, 1, none⟩) z_Q).trans (HK.out.2.2.2.2.1), (Below.cell BD (p := ⟨w2.heap.size, 2, none⟩) z_Q).trans (HK.out.2.2.2.2.2)⟩; apply (HBW.out.trans (Below.mono BD zw))) | with_reducible (refine ⟨?_, (Below.cell BB (p := ⟨w1.heap.size, 0, none⟩) z_P).trans (HK.out.1), (Below.cell BB (p := ⟨w1.heap.size, 1, none⟩) z_P).trans (HK.out.2.1), (Below.cell BB (p := ⟨w1.heap.size, 2, none⟩) z_P).trans (HK.out.2.2.1), (Below.cell BB (p := ⟨w2.heap.size, 0, none⟩) z_Q).trans (HK.out.2.2.2.1), (Below.cell BB (p := ⟨w2.heap.size, 1, none⟩) z_Q).trans (HK.out.2.2.2.2.1), (Below.cell BB (p := ⟨w2.heap.size, 2, none⟩) z_Q).trans (HK.out.2.2.2.2.2)⟩; apply (HBW.out.trans (Below.mono BB zw)))) (first | (go_at_call 70; ((with_reducible refine (M5.out _).mono ?_); rintro e w4 ⟨rfl, hb_⟩; have BB : Below w3.heap.size w3 w4 := Hand.stepB hb_ (by assumption) (Nat.le_refl _); have zB_w4 := Below.size BB; clear hb_; (try clear rR_0 sR_0 rR_1 sR_1); have rR_0 := (Below.cell BB (p := ⟨w.heap.size + 1 + 1, 0, none⟩) z_R).trans (HR_R.out.1); have sR_0 := (Below.frozen BB (p := ⟨w.heap.size + 1 + 1, 0, none⟩) z_R).trans (HR_R.out.2.1); have rR_1 := (Below.cell BB (p := ⟨w.heap.size + 1 + 1, 1, none⟩) z_R).trans (HR_R.out.2.2.1); have sR_1 := (Below.frozen BB (p := ⟨w.heap.size + 1 + 1, 1, none⟩) z_R).trans (HR_R.out.2.2.2))))
            go_wp2
            obtain ⟨g_R, g_P, g_Q, hB⟩ := HG.out
            have g6 := (Hand.hp_below BB z_R).trans g_R
            refine bodyPost_ret (results_ct rfl _ _ (w.heap.size + 1 + 1) 24 #[.int .i64 x, .int .i64 (q : Int)] (0, 0) _ rfl ?_ Tryd.underlying24 rfl (by kernel_rfl)) rfl ⟨rfl, ?_⟩
            · simp (disch := omega) only [Hand.q1, Hand.q5, g6]; rfl
            · repeat (with_reducible first | exact hB.trans (Below.mono BB zw) | apply Below.drew | refine Below.setCell ?_ (by dsimp only; omega) _)
          · obtain ⟨rfl, rfl, rfl⟩ : x = 0 ∧ y = 0 ∧ z = 12 := by
              rcases HFF.out with h | h
              · exact absurd h.2.1 hq1
              · exact h.2
            have hq2 : (hiN q != 0) = true ∨ (hiN q != 0) = false ∧ decide (2147483648 < loN q) = true := by
              by_cases h : hiN q = 0
              · exact .inr ⟨by rw [bne_eq_false_iff_eq]; exact h, by unfold hiN at h; unfold loN; rw [decide_eq_true_eq]; omega⟩
              · exact .inl (by rw [bne_iff_ne]; exact h)
            clear HFF hp1 hq1 M2 M3 M4
            rcases hq2 with hq2 | ⟨hq2, hq3⟩
            all_goals
              go_wp2
              obtain ⟨g_R, g_P, g_Q, hB⟩ := HG.out
              refine bodyPost_ret (results_ct rfl _ _ (w.heap.size + 1 + 1) 24 #[.int .i64 0, .int .i64 0] (0, 0) _ rfl ?_ Tryd.underlying24 rfl (by kernel_rfl)) rfl ⟨rfl, ?_⟩
              · simp (disch := omega) only [Hand.q1, g_R]; rfl
              · exact (hB.setCell (by dsimp only; omega) _).setCell (by dsimp only; omega) _
        · rw [decide_eq_false hp1]
          obtain ⟨rfl, rfl, rfl⟩ : x = 0 ∧ y = 0 ∧ z = 12 := by
            rcases HFF.out with h | h
            · exact absurd h.1 hp1
            · exact h.2
          clear HFF hp1 M2 M3 M4
          go_wp2
          obtain ⟨g_R, g_P, g_Q, hB⟩ := HG.out
          refine bodyPost_ret (results_ct rfl _ _ (w.heap.size + 1 + 1) 24 #[.int .i64 0, .int .i64 0] (0, 0) _ rfl ?_ Tryd.underlying24 rfl (by kernel_rfl)) rfl ⟨rfl, ?_⟩
          · simp (disch := omega) only [Hand.q1, g_R]; rfl
          · exact (hB.setCell (by dsimp only; omega) _).setCell (by dsimp only; omega) _
      · have hkz := hl_zero hk0
        have hcs : ((hiN gk == 0) = true ∧ (loN gk == 0) = false) ∨ (hiN gk == 0) = false := by
          cases h : (hiN gk == 0)
          · exact .inr rfl
          · rw [h] at hkz; exact .inl ⟨rfl, by simpa using hkz⟩
        have hkz2 : ((hiN gk != 0) = false ∧ (loN gk != 0) = true) ∨ (hiN gk != 0) = true := by
          rcases hcs with ⟨h4, h5⟩ | h4
          · exact .inl ⟨by rw [bne, h4]; rfl, by rw [bne, h5]; rfl⟩
          · exact .inr (by rw [bne, h4]; rfl)
        have M1 := Lib.hid (fun w => ref_divided a gk false false HAB.out.1 (by omega) w)
        clear hcs hkz
        rcases hkz2 with ⟨h4, h5⟩ | h4
        all_goals
          go_wp2_with fail
          with_reducible refine (M1.out _).mono ?_
          rintro e w1 ⟨rfl, hb1⟩
          obtain ⟨g_N, g_D, g_R, g_A, g_B, hB⟩ := HG.out
          have h_N : w1.heap[w.heap.size]? = some (.cells #[.bool neg, .int .u64 (hiN n), .int .u64 (loN n)] 74 (0, 0)) := by
            refine Hand.kb hb1 ?_; first | with_reducible exact g_N | (simp (disch := first | omega | (simp only [Hand.sa, Hand.ss, Hand.sd, Hand.sn]; first | done | omega)) only [Hand.q2, Hand.q1, Hand.q5, Hand.q6, Hand.q4, Hand.q3, g_N] <;> rfl)
          have h_D : w1.heap[w.heap.size + 1]? = some (.cells #[.bool false, .int .u64 (hiN D), .int .u64 (loN D)] 74 (0, 0)) := by
            refine Hand.kb hb1 ?_; first | with_reducible exact g_D | (simp (disch := first | omega | (simp only [Hand.sa, Hand.ss, Hand.sd, Hand.sn]; first | done | omega)) only [Hand.q2, Hand.q1, Hand.q5, Hand.q6, Hand.q4, Hand.q3, g_D] <;> rfl)
          have h_R : w1.heap[w.heap.size + 1 + 1]? = some (.cells #[.int .i64 0, .int .i64 0] 24 (0, 0)) := by
            refine Hand.kb hb1 ?_; first | with_reducible exact g_R | (simp (disch := first | omega | (simp only [Hand.sa, Hand.ss, Hand.sd, Hand.sn]; first | done | omega)) only [Hand.q2, Hand.q1, Hand.q5, Hand.q6, Hand.q4, Hand.q3, g_R] <;> rfl)
          have h_A : w1.heap[w.heap.size + 1 + 1 + 1]? = some (.cells #[.bool false, .int .u64 (hiN a), .int .u64 (loN a)] 74 (0, 0)) := by
            refine Hand.kb hb1 ?_; first | with_reducible exact g_A | (simp (disch := first | omega | (simp only [Hand.sa, Hand.ss, Hand.sd, Hand.sn]; first | done | omega)) only [Hand.q2, Hand.q1, Hand.q5, Hand.q6, Hand.q4, Hand.q3, g_A] <;> rfl)
          have h_B : w1.heap[w.heap.size + 1 + 1 + 1 + 1]? = some (.cells #[.bool false, .int .u64 (hiN gk), .int .u64 (loN gk)] 74 (0, 0)) := by
            refine Hand.kb hb1 ?_; first | with_reducible exact g_B | (simp (disch := first | omega | (simp only [Hand.sa, Hand.ss, Hand.sd, Hand.sn]; first | done | omega)) only [Hand.q2, Hand.q1, Hand.q5, Hand.q6, Hand.q4, Hand.q3, g_B] <;> rfl)
          have hB' : Below w.heap.size w w1 := Hand.stepB hb1 (by repeat (with_reducible first | apply hB | apply Below.drew | apply pw_below_drewN | (apply Below.setCell; rotate_left; (dsimp only; omega)) | (apply Below.alloc; rotate_left; (first | omega | (simp only [Hand.sa, Hand.ss, Hand.sd, Hand.sn]; omega))))) (Nat.le_refl _)
          clear HG hB g_N g_D g_R g_A g_B zw z_N z1_N z2_N y0_N y1_N c_N_0 f_N_0 c_N_1 f_N_1 c_N_2 f_N_2 z_D z1_D z2_D y0_D y1_D c_D_0 f_D_0 c_D_1 f_D_1 c_D_2 f_D_2 z_R z1_R z2_R y0_R y1_R c_R_0 f_R_0 c_R_1 f_R_1 z_A z1_A z2_A y0_A y1_A c_A_0 f_A_0 c_A_1 f_A_1 c_A_2 f_A_2 z_B z1_B z2_B y0_B y1_B c_B_0 f_B_0 c_B_1 f_B_1 c_B_2 f_B_2
          clear hb1
          have g_N := h_N
          have g_D := h_D
          have g_R := h_R
          have g_A := h_A
          have g_B := h_B
          have hB := hB'
          clear hB' h_N h_D h_R h_A h_B
          obtain ⟨z_N, z1_N, z2_N, y0_N, y1_N⟩ := Hand.hz g_N
          obtain ⟨c_N_0, f_N_0, c_N_1, f_N_1, c_N_2, f_N_2⟩ := Hand.hc3 g_N
          obtain ⟨z_D, z1_D, z2_D, y0_D, y1_D⟩ := Hand.hz g_D
          obtain ⟨c_D_0, f_D_0, c_D_1, f_D_1, c_D_2, f_D_2⟩ := Hand.hc3 g_D
          obtain ⟨z_R, z1_R, z2_R, y0_R, y1_R⟩ := Hand.hz g_R
          obtain ⟨c_R_0, f_R_0, c_R_1, f_R_1⟩ := Hand.hc2 g_R
          obtain ⟨z_A, z1_A, z2_A, y0_A, y1_A⟩ := Hand.hz g_A
          obtain ⟨c_A_0, f_A_0, c_A_1, f_A_1, c_A_2, f_A_2⟩ := Hand.hc3 g_A
          obtain ⟨z_B, z1_B, z2_B, y0_B, y1_B⟩ := Hand.hz g_B
          obtain ⟨c_B_0, f_B_0, c_B_1, f_B_1, c_B_2, f_B_2⟩ := Hand.hc3 g_B
          have zw : w.heap.size ≤ w1.heap.size := hB.size
          have HG := Lib.hid (And.intro g_N (And.intro g_D (And.intro g_R (And.intro g_A (And.intro g_B (hB))))))
          clear g_N g_D g_R g_A g_B hB
          go_wp2
          go_roundg (a % gk)
          case measure => exact Nat.mod_lt _ (by omega)
          case rel =>
            obtain ⟨g_N, g_D, g_R, g_A, g_B, hB⟩ := HG.out
            refine ⟨gk, by omega, HAB.out.2, Nat.lt_trans (Nat.mod_lt _ (by omega)) HAB.out.2, by rw [← HGR.out, Nat.gcd_comm a gk, Nat.gcd_rec gk a, Nat.gcd_comm], ?_, ?_, ?_, ?_, ?_, ?_⟩
            · simp (disch := first | omega | (simp only [Hand.sa, Hand.ss, Hand.sd]; first | done | omega)) only [Hand.q1, Hand.q2, Hand.q4, Hand.q5, g_N] <;> rfl
            · simp (disch := first | omega | (simp only [Hand.sa, Hand.ss, Hand.sd]; first | done | omega)) only [Hand.q1, Hand.q2, Hand.q4, Hand.q5, g_D] <;> rfl
            · simp (disch := first | omega | (simp only [Hand.sa, Hand.ss, Hand.sd]; first | done | omega)) only [Hand.q1, Hand.q2, Hand.q4, Hand.q5, g_R] <;> rfl
            · simp (disch := first | omega | (simp only [Hand.sa, Hand.ss, Hand.sd]; first | done | omega)) only [Hand.q1, Hand.q2, Hand.q4, Hand.q5, g_A] <;> rfl
            · simp (disch := first | omega | (simp only [Hand.sa, Hand.ss, Hand.sd]; first | done | omega)) only [Hand.q1, Hand.q2, Hand.q4, Hand.q5, g_B] <;> rfl
            · repeat (with_reducible first | exact hB | apply Below.drew | refine Below.setCell ?_ (by dsimp only; omega) _ | refine Below.alloc ?_ (by first | omega | (simp only [Hand.sa, Hand.ss, Hand.sd]; omega)) _)
theorem lowest_any (neg : Bool) (n D : Nat) (w : World) (h0 : n = 0 → neg = false) (hn : n < 340282366920938463463374607431768211456) (hD0 : 0 < D) (hD : D < 340282366920938463463374607431768211456) :
    Calls Tryd.prog 53 #[.agg #[.bool neg, .int .u64 (hiN n), .int .u64 (loN n)], .agg #[.bool false, .int .u64 (hiN D), .int .u64 (loN D)]] w fun e w' =>
      e = .returned (.tuple #[.agg #[.int .i64 (fitS neg n D).1, .int .i64 (fitS neg n D).2.1], .int .i64 (fitS neg n D).2.2]) ∧ Below w.heap.size w w' := by
  by_cases h : n = 0
  · subst h
    rw [h0 rfl]
    have e : fitS false 0 D = (0, 1, 0) := by
      unfold fitS
      rw [Nat.gcd_zero_left, Nat.zero_div, Nat.div_self hD0]; rfl
    rw [e]
    exact lowest_zero D w
  · exact lowest_some neg n D _ _ _ _ _ _ w (by omega) hn hD0 hD rfl rfl rfl rfl
end Go.Proofs.YtofndakpenpkbaaDoor.PA
