/- RatioRings, walked in parts: the first ones. -/
import Derived.Test.YtofndakpenpkbaaDoorRingA
namespace Go.Proofs.YtofndakpenpkbaaDoor.PA
open Go.RowKit Go.ChangeShapes Go.WideShapes Go.Proofs.YtofndakpenpkbaaDoorW.PrintWords Go.Proofs.YtofndakpenpkbaaDoorW.PrintLast Go.Proofs.YtofndakpenpkbaaDoorW.PrintMore
attribute [local go_sem high] eqA24
set_option linter.unusedSimpArgs false
set_option linter.unusedVariables false
set_option maxHeartbeats 8000000 in
set_option maxRecDepth 100000 in
theorem rings3_e (w : World) (a b c d e f p1 q1 p2 q2 r1 r2 p3 q3 r3 : Int)
    (hN : At12 w a b c d e f p2 q2 p3 q3 r2 r3)
    (M3 : RT 21 #[.agg #[.int .i64 c, .int .i64 d], .agg #[.int .i64 e, .int .i64 f]] p3 q3 r3)
    (F0 : RB 33 #[.int .i64 r1] false) : At10 w a b c d e f p1 q1 p2 q2 r1 r2 := by
  intro s9 s10 s13 s14 s15 s16 s17 s18 s19 s20 s21 s22 s23 s24 s25 s26 s27 s28 s29 s30 s31 s32 s33 s34 s35 s36 s37 s38 s39 s40 s41 s42 s43 s44 s45 s46 s47 s48 s49 s50 s51 s52 s53 s54 s55 s56 s57 s58 s59 s60 s61 s62 s63 s64 s65 s66 s67 s68 s69 s70 s71 s72 s73 s74 s75 s76 s77 s78 s79 s80 s81 s82 s83 s84 s85 s86 s87 s88 s89 s90 s91 s92 s93 s94 s95 s96 s97 s98 s99 s100 s101 s102 s103 s104 s105 s106 s107 s108 s109 s110 s111 s112 s113 s114 s115 s116 s117 s118 s119 s120 s121 s122 s123 s124 s125 s126 s127 s128 s129 s130 s131 s132 s133 s134 s135 s136 s137 s138 s139 s140 s141 s142 s143 s144 s145 s146 s147 s148 s149 s150 s151 s152 s153 s154 s155 s156 s157 s158 s159 s160 s161 s162 s163 s164 s165 s166 s167 s168 s169 s170 s171 s172 s173 s174 s175 s176 s177 s178 s179 s180 s181 s182 s183 s184 s185 s186 s187 s188 s189 s190 s191 s192 s193 s194 s195 s196 s197 s198 s199 s200 s201 s202 s203 s204 s205 s206 s207 s208 s209 s210 s211 s212 s213 s214 s215 s216 s217 s218 s219 s220 s221 s222 s223 s224 s225 gA gB gC gP gX W hfacts hB
  obtain ⟨g_A, g_B, g_C, g_P, g_X⟩ := hfacts
  obtain ⟨z_A, z1_A, z2_A, y0_A, y1_A⟩ := Hand.hz g_A
  obtain ⟨c_A_0, f_A_0, c_A_1, f_A_1⟩ := Hand.hc2 g_A
  obtain ⟨z_B, z1_B, z2_B, y0_B, y1_B⟩ := Hand.hz g_B
  obtain ⟨c_B_0, f_B_0, c_B_1, f_B_1⟩ := Hand.hc2 g_B
  obtain ⟨z_C, z1_C, z2_C, y0_C, y1_C⟩ := Hand.hz g_C
  obtain ⟨c_C_0, f_C_0, c_C_1, f_C_1⟩ := Hand.hc2 g_C
  obtain ⟨z_P, z1_P, z2_P, y0_P, y1_P⟩ := Hand.hz g_P
  obtain ⟨c_P_0, f_P_0, c_P_1, f_P_1⟩ := Hand.hc2 g_P
  obtain ⟨z_X, z1_X, z2_X, y0_X, y1_X⟩ := Hand.hz g_X
  obtain ⟨c_X_0, f_X_0, c_X_1, f_X_1⟩ := Hand.hc2 g_X
  have zw : w.heap.size ≤ W.heap.size := hB.size
  have HG := Lib.hid (And.intro g_A (And.intro g_B (And.intro g_C (And.intro g_P (And.intro g_X (hB))))))
  clear g_A g_B g_C g_P g_X hB
  rw [ringsE10]
  refine wp_seq_k (fun K10 hK10 => ?_)
  have HK10 := Lib.hid hK10
  clear hK10
  conv => arg 2; whnf
  go_wp2_with fail
  with_reducible refine (M3.out _).mono ?_
  rintro e w1 ⟨rfl, hb1⟩
  obtain ⟨g_A, g_B, g_C, g_P, g_X, hB⟩ := HG.out
  have h_A : w1.heap[gA]? = some (.cells #[.int .i64 a, .int .i64 b] 24 (0, 0)) := by
    refine Hand.kb hb1 ?_; first | with_reducible exact g_A | (simp (disch := first | omega | (simp only [Hand.sa, Hand.ss, Hand.sd, Hand.sn]; first | done | omega)) only [Hand.q2, Hand.q1, Hand.q5, Hand.q6, Hand.q4, Hand.q3, g_A] <;> rfl)
  have h_B : w1.heap[gB]? = some (.cells #[.int .i64 c, .int .i64 d] 24 (0, 0)) := by
    refine Hand.kb hb1 ?_; first | with_reducible exact g_B | (simp (disch := first | omega | (simp only [Hand.sa, Hand.ss, Hand.sd, Hand.sn]; first | done | omega)) only [Hand.q2, Hand.q1, Hand.q5, Hand.q6, Hand.q4, Hand.q3, g_B] <;> rfl)
  have h_C : w1.heap[gC]? = some (.cells #[.int .i64 e, .int .i64 f] 24 (0, 0)) := by
    refine Hand.kb hb1 ?_; first | with_reducible exact g_C | (simp (disch := first | omega | (simp only [Hand.sa, Hand.ss, Hand.sd, Hand.sn]; first | done | omega)) only [Hand.q2, Hand.q1, Hand.q5, Hand.q6, Hand.q4, Hand.q3, g_C] <;> rfl)
  have h_P : w1.heap[gP]? = some (.cells #[.int .i64 p1, .int .i64 q1] 24 (0, 0)) := by
    refine Hand.kb hb1 ?_; first | with_reducible exact g_P | (simp (disch := first | omega | (simp only [Hand.sa, Hand.ss, Hand.sd, Hand.sn]; first | done | omega)) only [Hand.q2, Hand.q1, Hand.q5, Hand.q6, Hand.q4, Hand.q3, g_P] <;> rfl)
  have h_X : w1.heap[gX]? = some (.cells #[.int .i64 p2, .int .i64 q2] 24 (0, 0)) := by
    refine Hand.kb hb1 ?_; first | with_reducible exact g_X | (simp (disch := first | omega | (simp only [Hand.sa, Hand.ss, Hand.sd, Hand.sn]; first | done | omega)) only [Hand.q2, Hand.q1, Hand.q5, Hand.q6, Hand.q4, Hand.q3, g_X] <;> rfl)
  have hB' : Below w.heap.size w w1 := Hand.stepB hb1 (by repeat (with_reducible first | apply hB | apply Below.drew | apply pw_below_drewN | (apply Below.setCell; rotate_left; (dsimp only; omega)) | (apply Below.alloc; rotate_left; (first | omega | (simp only [Hand.sa, Hand.ss, Hand.sd, Hand.sn]; omega))))) (Nat.le_refl _)
  clear HG hB g_A g_B g_C g_P g_X zw z_A z1_A z2_A y0_A y1_A c_A_0 f_A_0 c_A_1 f_A_1 z_B z1_B z2_B y0_B y1_B c_B_0 f_B_0 c_B_1 f_B_1 z_C z1_C z2_C y0_C y1_C c_C_0 f_C_0 c_C_1 f_C_1 z_P z1_P z2_P y0_P y1_P c_P_0 f_P_0 c_P_1 f_P_1 z_X z1_X z2_X y0_X y1_X c_X_0 f_X_0 c_X_1 f_X_1
  clear hb1
  have g_A := h_A
  have g_B := h_B
  have g_C := h_C
  have g_P := h_P
  have g_X := h_X
  have hB := hB'
  clear hB' h_A h_B h_C h_P h_X
  obtain ⟨z_A, z1_A, z2_A, y0_A, y1_A⟩ := Hand.hz g_A
  obtain ⟨c_A_0, f_A_0, c_A_1, f_A_1⟩ := Hand.hc2 g_A
  obtain ⟨z_B, z1_B, z2_B, y0_B, y1_B⟩ := Hand.hz g_B
  obtain ⟨c_B_0, f_B_0, c_B_1, f_B_1⟩ := Hand.hc2 g_B
  obtain ⟨z_C, z1_C, z2_C, y0_C, y1_C⟩ := Hand.hz g_C
  obtain ⟨c_C_0, f_C_0, c_C_1, f_C_1⟩ := Hand.hc2 g_C
  obtain ⟨z_P, z1_P, z2_P, y0_P, y1_P⟩ := Hand.hz g_P
  obtain ⟨c_P_0, f_P_0, c_P_1, f_P_1⟩ := Hand.hc2 g_P
  obtain ⟨z_X, z1_X, z2_X, y0_X, y1_X⟩ := Hand.hz g_X
  obtain ⟨c_X_0, f_X_0, c_X_1, f_X_1⟩ := Hand.hc2 g_X
  have zw : w.heap.size ≤ w1.heap.size := hB.size
  have HG := Lib.hid (And.intro g_A (And.intro g_B (And.intro g_C (And.intro g_P (And.intro g_X (hB))))))
  clear g_A g_B g_C g_P g_X hB
  go_wp2
  refine HK10.out _ _ ?_
  rw [ringsE11]
  refine wp_seq_k (fun K11 hK11 => ?_)
  have HK11 := Lib.hid hK11
  clear hK11
  conv => arg 2; whnf
  go_wp2_with fail
  with_reducible refine (F0.out _).mono ?_
  rintro e w2 ⟨rfl, hb2⟩
  obtain ⟨g_A, g_B, g_C, g_P, g_X, hB⟩ := HG.out
  have h_A : w2.heap[gA]? = some (.cells #[.int .i64 a, .int .i64 b] 24 (0, 0)) := by
    refine Hand.kb hb2 ?_; first | with_reducible exact g_A | (simp (disch := first | omega | (simp only [Hand.sa, Hand.ss, Hand.sd, Hand.sn]; first | done | omega)) only [Hand.q2, Hand.q1, Hand.q5, Hand.q6, Hand.q4, Hand.q3, g_A] <;> rfl)
  have h_B : w2.heap[gB]? = some (.cells #[.int .i64 c, .int .i64 d] 24 (0, 0)) := by
    refine Hand.kb hb2 ?_; first | with_reducible exact g_B | (simp (disch := first | omega | (simp only [Hand.sa, Hand.ss, Hand.sd, Hand.sn]; first | done | omega)) only [Hand.q2, Hand.q1, Hand.q5, Hand.q6, Hand.q4, Hand.q3, g_B] <;> rfl)
  have h_C : w2.heap[gC]? = some (.cells #[.int .i64 e, .int .i64 f] 24 (0, 0)) := by
    refine Hand.kb hb2 ?_; first | with_reducible exact g_C | (simp (disch := first | omega | (simp only [Hand.sa, Hand.ss, Hand.sd, Hand.sn]; first | done | omega)) only [Hand.q2, Hand.q1, Hand.q5, Hand.q6, Hand.q4, Hand.q3, g_C] <;> rfl)
  have h_P : w2.heap[gP]? = some (.cells #[.int .i64 p1, .int .i64 q1] 24 (0, 0)) := by
    refine Hand.kb hb2 ?_; first | with_reducible exact g_P | (simp (disch := first | omega | (simp only [Hand.sa, Hand.ss, Hand.sd, Hand.sn]; first | done | omega)) only [Hand.q2, Hand.q1, Hand.q5, Hand.q6, Hand.q4, Hand.q3, g_P] <;> rfl)
  have h_X : w2.heap[gX]? = some (.cells #[.int .i64 p2, .int .i64 q2] 24 (0, 0)) := by
    refine Hand.kb hb2 ?_; first | with_reducible exact g_X | (simp (disch := first | omega | (simp only [Hand.sa, Hand.ss, Hand.sd, Hand.sn]; first | done | omega)) only [Hand.q2, Hand.q1, Hand.q5, Hand.q6, Hand.q4, Hand.q3, g_X] <;> rfl)
  have h_S : w2.heap[w1.heap.size]? = some (.cells #[.int .i64 p3, .int .i64 q3] 24 (0, 0)) := by
    refine Hand.kb hb2 ?_; simp (disch := first | omega | (simp only [Hand.sa, Hand.ss, Hand.sd, Hand.sn]; first | done | omega)) only [Hand.q2, Hand.q1, Hand.q5, Hand.q6, Hand.q4, Hand.q3] <;> rfl
  have hB' : Below w.heap.size w w2 := Hand.stepB hb2 (by repeat (with_reducible first | apply hB | apply Below.drew | apply pw_below_drewN | (apply Below.setCell; rotate_left; (dsimp only; omega)) | (apply Below.alloc; rotate_left; (first | omega | (simp only [Hand.sa, Hand.ss, Hand.sd, Hand.sn]; omega))))) (Nat.le_refl _)
  clear HG hB g_A g_B g_C g_P g_X zw z_A z1_A z2_A y0_A y1_A c_A_0 f_A_0 c_A_1 f_A_1 z_B z1_B z2_B y0_B y1_B c_B_0 f_B_0 c_B_1 f_B_1 z_C z1_C z2_C y0_C y1_C c_C_0 f_C_0 c_C_1 f_C_1 z_P z1_P z2_P y0_P y1_P c_P_0 f_P_0 c_P_1 f_P_1 z_X z1_X z2_X y0_X y1_X c_X_0 f_X_0 c_X_1 f_X_1
  clear hb2
  have g_A := h_A
  have g_B := h_B
  have g_C := h_C
  have g_P := h_P
  have g_X := h_X
  have g_S := h_S
  have hB := hB'
  clear hB' h_A h_B h_C h_P h_X h_S
  obtain ⟨z_A, z1_A, z2_A, y0_A, y1_A⟩ := Hand.hz g_A
  obtain ⟨c_A_0, f_A_0, c_A_1, f_A_1⟩ := Hand.hc2 g_A
  obtain ⟨z_B, z1_B, z2_B, y0_B, y1_B⟩ := Hand.hz g_B
  obtain ⟨c_B_0, f_B_0, c_B_1, f_B_1⟩ := Hand.hc2 g_B
  obtain ⟨z_C, z1_C, z2_C, y0_C, y1_C⟩ := Hand.hz g_C
  obtain ⟨c_C_0, f_C_0, c_C_1, f_C_1⟩ := Hand.hc2 g_C
  obtain ⟨z_P, z1_P, z2_P, y0_P, y1_P⟩ := Hand.hz g_P
  obtain ⟨c_P_0, f_P_0, c_P_1, f_P_1⟩ := Hand.hc2 g_P
  obtain ⟨z_X, z1_X, z2_X, y0_X, y1_X⟩ := Hand.hz g_X
  obtain ⟨c_X_0, f_X_0, c_X_1, f_X_1⟩ := Hand.hc2 g_X
  obtain ⟨z_S, z1_S, z2_S, y0_S, y1_S⟩ := Hand.hz g_S
  obtain ⟨c_S_0, f_S_0, c_S_1, f_S_1⟩ := Hand.hc2 g_S
  have zw : w.heap.size ≤ w2.heap.size := hB.size
  have HG := Lib.hid (And.intro g_A (And.intro g_B (And.intro g_C (And.intro g_P (And.intro g_X (And.intro g_S (hB)))))))
  clear g_A g_B g_C g_P g_X g_S hB
  go_wp2
  obtain ⟨g_A, g_B, g_C, g_P, g_X, g_S, hB⟩ := HG.out
  refine HK11.out _ _ (hN ?_ ?_)
  · repeat' (with_reducible apply And.intro)
    all_goals (repeat (with_reducible first | exact g_A | exact g_B | exact g_C | exact g_X | exact g_S | exact Hand.kn (by first | omega | (simp only [Hand.sa, Hand.ss, Hand.sd, Hand.sn]; first | done | omega)) | refine Hand.ka ?_ | refine Hand.kd ?_ | refine Hand.ks (by first | omega | (simp only [Hand.sa, Hand.ss, Hand.sd, Hand.sn]; first | done | omega)) ?_))
  · repeat (with_reducible first | exact hB | apply Below.drew | (apply Below.setCell; rotate_left; (dsimp only; first | omega | (simp only [Hand.sa, Hand.ss, Hand.sd, Hand.sn]; first | done | omega))) | (apply Below.alloc; rotate_left; (first | omega | (simp only [Hand.sa, Hand.ss, Hand.sd, Hand.sn]; first | done | omega))))
set_option maxHeartbeats 8000000 in
set_option maxRecDepth 100000 in
theorem rings3_k (w : World) (a b c d e f p1 q1 p2 q2 r2 p3 q3 r3 : Int)
    (hN : At12 w a b c d e f p2 q2 p3 q3 r2 r3)
    (M3 : RT 21 #[.agg #[.int .i64 c, .int .i64 d], .agg #[.int .i64 e, .int .i64 f]] p3 q3 r3)
    (F0 : RB 33 #[.int .i64 0] true)
    (F1 : RB 33 #[.int .i64 r3] false) : At10 w a b c d e f p1 q1 p2 q2 0 r2 := by
  intro s9 s10 s13 s14 s15 s16 s17 s18 s19 s20 s21 s22 s23 s24 s25 s26 s27 s28 s29 s30 s31 s32 s33 s34 s35 s36 s37 s38 s39 s40 s41 s42 s43 s44 s45 s46 s47 s48 s49 s50 s51 s52 s53 s54 s55 s56 s57 s58 s59 s60 s61 s62 s63 s64 s65 s66 s67 s68 s69 s70 s71 s72 s73 s74 s75 s76 s77 s78 s79 s80 s81 s82 s83 s84 s85 s86 s87 s88 s89 s90 s91 s92 s93 s94 s95 s96 s97 s98 s99 s100 s101 s102 s103 s104 s105 s106 s107 s108 s109 s110 s111 s112 s113 s114 s115 s116 s117 s118 s119 s120 s121 s122 s123 s124 s125 s126 s127 s128 s129 s130 s131 s132 s133 s134 s135 s136 s137 s138 s139 s140 s141 s142 s143 s144 s145 s146 s147 s148 s149 s150 s151 s152 s153 s154 s155 s156 s157 s158 s159 s160 s161 s162 s163 s164 s165 s166 s167 s168 s169 s170 s171 s172 s173 s174 s175 s176 s177 s178 s179 s180 s181 s182 s183 s184 s185 s186 s187 s188 s189 s190 s191 s192 s193 s194 s195 s196 s197 s198 s199 s200 s201 s202 s203 s204 s205 s206 s207 s208 s209 s210 s211 s212 s213 s214 s215 s216 s217 s218 s219 s220 s221 s222 s223 s224 s225 gA gB gC gP gX W hfacts hB
  obtain ⟨g_A, g_B, g_C, g_P, g_X⟩ := hfacts
  obtain ⟨z_A, z1_A, z2_A, y0_A, y1_A⟩ := Hand.hz g_A
  obtain ⟨c_A_0, f_A_0, c_A_1, f_A_1⟩ := Hand.hc2 g_A
  obtain ⟨z_B, z1_B, z2_B, y0_B, y1_B⟩ := Hand.hz g_B
  obtain ⟨c_B_0, f_B_0, c_B_1, f_B_1⟩ := Hand.hc2 g_B
  obtain ⟨z_C, z1_C, z2_C, y0_C, y1_C⟩ := Hand.hz g_C
  obtain ⟨c_C_0, f_C_0, c_C_1, f_C_1⟩ := Hand.hc2 g_C
  obtain ⟨z_P, z1_P, z2_P, y0_P, y1_P⟩ := Hand.hz g_P
  obtain ⟨c_P_0, f_P_0, c_P_1, f_P_1⟩ := Hand.hc2 g_P
  obtain ⟨z_X, z1_X, z2_X, y0_X, y1_X⟩ := Hand.hz g_X
  obtain ⟨c_X_0, f_X_0, c_X_1, f_X_1⟩ := Hand.hc2 g_X
  have zw : w.heap.size ≤ W.heap.size := hB.size
  have HG := Lib.hid (And.intro g_A (And.intro g_B (And.intro g_C (And.intro g_P (And.intro g_X (hB))))))
  clear g_A g_B g_C g_P g_X hB
  rw [ringsE10]
  refine wp_seq_k (fun K10 hK10 => ?_)
  have HK10 := Lib.hid hK10
  clear hK10
  conv => arg 2; whnf
  go_wp2_with fail
  with_reducible refine (M3.out _).mono ?_
  rintro e w1 ⟨rfl, hb1⟩
  obtain ⟨g_A, g_B, g_C, g_P, g_X, hB⟩ := HG.out
  have h_A : w1.heap[gA]? = some (.cells #[.int .i64 a, .int .i64 b] 24 (0, 0)) := by
    refine Hand.kb hb1 ?_; first | with_reducible exact g_A | (simp (disch := first | omega | (simp only [Hand.sa, Hand.ss, Hand.sd, Hand.sn]; first | done | omega)) only [Hand.q2, Hand.q1, Hand.q5, Hand.q6, Hand.q4, Hand.q3, g_A] <;> rfl)
  have h_B : w1.heap[gB]? = some (.cells #[.int .i64 c, .int .i64 d] 24 (0, 0)) := by
    refine Hand.kb hb1 ?_; first | with_reducible exact g_B | (simp (disch := first | omega | (simp only [Hand.sa, Hand.ss, Hand.sd, Hand.sn]; first | done | omega)) only [Hand.q2, Hand.q1, Hand.q5, Hand.q6, Hand.q4, Hand.q3, g_B] <;> rfl)
  have h_C : w1.heap[gC]? = some (.cells #[.int .i64 e, .int .i64 f] 24 (0, 0)) := by
    refine Hand.kb hb1 ?_; first | with_reducible exact g_C | (simp (disch := first | omega | (simp only [Hand.sa, Hand.ss, Hand.sd, Hand.sn]; first | done | omega)) only [Hand.q2, Hand.q1, Hand.q5, Hand.q6, Hand.q4, Hand.q3, g_C] <;> rfl)
  have h_P : w1.heap[gP]? = some (.cells #[.int .i64 p1, .int .i64 q1] 24 (0, 0)) := by
    refine Hand.kb hb1 ?_; first | with_reducible exact g_P | (simp (disch := first | omega | (simp only [Hand.sa, Hand.ss, Hand.sd, Hand.sn]; first | done | omega)) only [Hand.q2, Hand.q1, Hand.q5, Hand.q6, Hand.q4, Hand.q3, g_P] <;> rfl)
  have h_X : w1.heap[gX]? = some (.cells #[.int .i64 p2, .int .i64 q2] 24 (0, 0)) := by
    refine Hand.kb hb1 ?_; first | with_reducible exact g_X | (simp (disch := first | omega | (simp only [Hand.sa, Hand.ss, Hand.sd, Hand.sn]; first | done | omega)) only [Hand.q2, Hand.q1, Hand.q5, Hand.q6, Hand.q4, Hand.q3, g_X] <;> rfl)
  have hB' : Below w.heap.size w w1 := Hand.stepB hb1 (by repeat (with_reducible first | apply hB | apply Below.drew | apply pw_below_drewN | (apply Below.setCell; rotate_left; (dsimp only; omega)) | (apply Below.alloc; rotate_left; (first | omega | (simp only [Hand.sa, Hand.ss, Hand.sd, Hand.sn]; omega))))) (Nat.le_refl _)
  clear HG hB g_A g_B g_C g_P g_X zw z_A z1_A z2_A y0_A y1_A c_A_0 f_A_0 c_A_1 f_A_1 z_B z1_B z2_B y0_B y1_B c_B_0 f_B_0 c_B_1 f_B_1 z_C z1_C z2_C y0_C y1_C c_C_0 f_C_0 c_C_1 f_C_1 z_P z1_P z2_P y0_P y1_P c_P_0 f_P_0 c_P_1 f_P_1 z_X z1_X z2_X y0_X y1_X c_X_0 f_X_0 c_X_1 f_X_1
  clear hb1
  have g_A := h_A
  have g_B := h_B
  have g_C := h_C
  have g_P := h_P
  have g_X := h_X
  have hB := hB'
  clear hB' h_A h_B h_C h_P h_X
  obtain ⟨z_A, z1_A, z2_A, y0_A, y1_A⟩ := Hand.hz g_A
  obtain ⟨c_A_0, f_A_0, c_A_1, f_A_1⟩ := Hand.hc2 g_A
  obtain ⟨z_B, z1_B, z2_B, y0_B, y1_B⟩ := Hand.hz g_B
  obtain ⟨c_B_0, f_B_0, c_B_1, f_B_1⟩ := Hand.hc2 g_B
  obtain ⟨z_C, z1_C, z2_C, y0_C, y1_C⟩ := Hand.hz g_C
  obtain ⟨c_C_0, f_C_0, c_C_1, f_C_1⟩ := Hand.hc2 g_C
  obtain ⟨z_P, z1_P, z2_P, y0_P, y1_P⟩ := Hand.hz g_P
  obtain ⟨c_P_0, f_P_0, c_P_1, f_P_1⟩ := Hand.hc2 g_P
  obtain ⟨z_X, z1_X, z2_X, y0_X, y1_X⟩ := Hand.hz g_X
  obtain ⟨c_X_0, f_X_0, c_X_1, f_X_1⟩ := Hand.hc2 g_X
  have zw : w.heap.size ≤ w1.heap.size := hB.size
  have HG := Lib.hid (And.intro g_A (And.intro g_B (And.intro g_C (And.intro g_P (And.intro g_X (hB))))))
  clear g_A g_B g_C g_P g_X hB
  go_wp2
  refine HK10.out _ _ ?_
  rw [ringsE11]
  refine wp_seq_k (fun K11 hK11 => ?_)
  have HK11 := Lib.hid hK11
  clear hK11
  conv => arg 2; whnf
  go_wp2_with fail
  with_reducible refine (F0.out _).mono ?_
  rintro e w2 ⟨rfl, hb2⟩
  obtain ⟨g_A, g_B, g_C, g_P, g_X, hB⟩ := HG.out
  have h_A : w2.heap[gA]? = some (.cells #[.int .i64 a, .int .i64 b] 24 (0, 0)) := by
    refine Hand.kb hb2 ?_; first | with_reducible exact g_A | (simp (disch := first | omega | (simp only [Hand.sa, Hand.ss, Hand.sd, Hand.sn]; first | done | omega)) only [Hand.q2, Hand.q1, Hand.q5, Hand.q6, Hand.q4, Hand.q3, g_A] <;> rfl)
  have h_B : w2.heap[gB]? = some (.cells #[.int .i64 c, .int .i64 d] 24 (0, 0)) := by
    refine Hand.kb hb2 ?_; first | with_reducible exact g_B | (simp (disch := first | omega | (simp only [Hand.sa, Hand.ss, Hand.sd, Hand.sn]; first | done | omega)) only [Hand.q2, Hand.q1, Hand.q5, Hand.q6, Hand.q4, Hand.q3, g_B] <;> rfl)
  have h_C : w2.heap[gC]? = some (.cells #[.int .i64 e, .int .i64 f] 24 (0, 0)) := by
    refine Hand.kb hb2 ?_; first | with_reducible exact g_C | (simp (disch := first | omega | (simp only [Hand.sa, Hand.ss, Hand.sd, Hand.sn]; first | done | omega)) only [Hand.q2, Hand.q1, Hand.q5, Hand.q6, Hand.q4, Hand.q3, g_C] <;> rfl)
  have h_P : w2.heap[gP]? = some (.cells #[.int .i64 p1, .int .i64 q1] 24 (0, 0)) := by
    refine Hand.kb hb2 ?_; first | with_reducible exact g_P | (simp (disch := first | omega | (simp only [Hand.sa, Hand.ss, Hand.sd, Hand.sn]; first | done | omega)) only [Hand.q2, Hand.q1, Hand.q5, Hand.q6, Hand.q4, Hand.q3, g_P] <;> rfl)
  have h_X : w2.heap[gX]? = some (.cells #[.int .i64 p2, .int .i64 q2] 24 (0, 0)) := by
    refine Hand.kb hb2 ?_; first | with_reducible exact g_X | (simp (disch := first | omega | (simp only [Hand.sa, Hand.ss, Hand.sd, Hand.sn]; first | done | omega)) only [Hand.q2, Hand.q1, Hand.q5, Hand.q6, Hand.q4, Hand.q3, g_X] <;> rfl)
  have h_S : w2.heap[w1.heap.size]? = some (.cells #[.int .i64 p3, .int .i64 q3] 24 (0, 0)) := by
    refine Hand.kb hb2 ?_; simp (disch := first | omega | (simp only [Hand.sa, Hand.ss, Hand.sd, Hand.sn]; first | done | omega)) only [Hand.q2, Hand.q1, Hand.q5, Hand.q6, Hand.q4, Hand.q3] <;> rfl
  have hB' : Below w.heap.size w w2 := Hand.stepB hb2 (by repeat (with_reducible first | apply hB | apply Below.drew | apply pw_below_drewN | (apply Below.setCell; rotate_left; (dsimp only; omega)) | (apply Below.alloc; rotate_left; (first | omega | (simp only [Hand.sa, Hand.ss, Hand.sd, Hand.sn]; omega))))) (Nat.le_refl _)
  clear HG hB g_A g_B g_C g_P g_X zw z_A z1_A z2_A y0_A y1_A c_A_0 f_A_0 c_A_1 f_A_1 z_B z1_B z2_B y0_B y1_B c_B_0 f_B_0 c_B_1 f_B_1 z_C z1_C z2_C y0_C y1_C c_C_0 f_C_0 c_C_1 f_C_1 z_P z1_P z2_P y0_P y1_P c_P_0 f_P_0 c_P_1 f_P_1 z_X z1_X z2_X y0_X y1_X c_X_0 f_X_0 c_X_1 f_X_1
  clear hb2
  have g_A := h_A
  have g_B := h_B
  have g_C := h_C
  have g_P := h_P
  have g_X := h_X
  have g_S := h_S
  have hB := hB'
  clear hB' h_A h_B h_C h_P h_X h_S
  obtain ⟨z_A, z1_A, z2_A, y0_A, y1_A⟩ := Hand.hz g_A
  obtain ⟨c_A_0, f_A_0, c_A_1, f_A_1⟩ := Hand.hc2 g_A
  obtain ⟨z_B, z1_B, z2_B, y0_B, y1_B⟩ := Hand.hz g_B
  obtain ⟨c_B_0, f_B_0, c_B_1, f_B_1⟩ := Hand.hc2 g_B
  obtain ⟨z_C, z1_C, z2_C, y0_C, y1_C⟩ := Hand.hz g_C
  obtain ⟨c_C_0, f_C_0, c_C_1, f_C_1⟩ := Hand.hc2 g_C
  obtain ⟨z_P, z1_P, z2_P, y0_P, y1_P⟩ := Hand.hz g_P
  obtain ⟨c_P_0, f_P_0, c_P_1, f_P_1⟩ := Hand.hc2 g_P
  obtain ⟨z_X, z1_X, z2_X, y0_X, y1_X⟩ := Hand.hz g_X
  obtain ⟨c_X_0, f_X_0, c_X_1, f_X_1⟩ := Hand.hc2 g_X
  obtain ⟨z_S, z1_S, z2_S, y0_S, y1_S⟩ := Hand.hz g_S
  obtain ⟨c_S_0, f_S_0, c_S_1, f_S_1⟩ := Hand.hc2 g_S
  have zw : w.heap.size ≤ w2.heap.size := hB.size
  have HG := Lib.hid (And.intro g_A (And.intro g_B (And.intro g_C (And.intro g_P (And.intro g_X (And.intro g_S (hB)))))))
  clear g_A g_B g_C g_P g_X g_S hB
  go_wp2_with fail
  with_reducible refine (F1.out _).mono ?_
  rintro e w3 ⟨rfl, hb3⟩
  obtain ⟨g_A, g_B, g_C, g_P, g_X, g_S, hB⟩ := HG.out
  have h_A : w3.heap[gA]? = some (.cells #[.int .i64 a, .int .i64 b] 24 (0, 0)) := by
    refine Hand.kb hb3 ?_; first | with_reducible exact g_A | (simp (disch := first | omega | (simp only [Hand.sa, Hand.ss, Hand.sd, Hand.sn]; first | done | omega)) only [Hand.q2, Hand.q1, Hand.q5, Hand.q6, Hand.q4, Hand.q3, g_A] <;> rfl)
  have h_B : w3.heap[gB]? = some (.cells #[.int .i64 c, .int .i64 d] 24 (0, 0)) := by
    refine Hand.kb hb3 ?_; first | with_reducible exact g_B | (simp (disch := first | omega | (simp only [Hand.sa, Hand.ss, Hand.sd, Hand.sn]; first | done | omega)) only [Hand.q2, Hand.q1, Hand.q5, Hand.q6, Hand.q4, Hand.q3, g_B] <;> rfl)
  have h_C : w3.heap[gC]? = some (.cells #[.int .i64 e, .int .i64 f] 24 (0, 0)) := by
    refine Hand.kb hb3 ?_; first | with_reducible exact g_C | (simp (disch := first | omega | (simp only [Hand.sa, Hand.ss, Hand.sd, Hand.sn]; first | done | omega)) only [Hand.q2, Hand.q1, Hand.q5, Hand.q6, Hand.q4, Hand.q3, g_C] <;> rfl)
  have h_P : w3.heap[gP]? = some (.cells #[.int .i64 p1, .int .i64 q1] 24 (0, 0)) := by
    refine Hand.kb hb3 ?_; first | with_reducible exact g_P | (simp (disch := first | omega | (simp only [Hand.sa, Hand.ss, Hand.sd, Hand.sn]; first | done | omega)) only [Hand.q2, Hand.q1, Hand.q5, Hand.q6, Hand.q4, Hand.q3, g_P] <;> rfl)
  have h_X : w3.heap[gX]? = some (.cells #[.int .i64 p2, .int .i64 q2] 24 (0, 0)) := by
    refine Hand.kb hb3 ?_; first | with_reducible exact g_X | (simp (disch := first | omega | (simp only [Hand.sa, Hand.ss, Hand.sd, Hand.sn]; first | done | omega)) only [Hand.q2, Hand.q1, Hand.q5, Hand.q6, Hand.q4, Hand.q3, g_X] <;> rfl)
  have h_S : w3.heap[w1.heap.size]? = some (.cells #[.int .i64 p3, .int .i64 q3] 24 (0, 0)) := by
    refine Hand.kb hb3 ?_; first | with_reducible exact g_S | (simp (disch := first | omega | (simp only [Hand.sa, Hand.ss, Hand.sd, Hand.sn]; first | done | omega)) only [Hand.q2, Hand.q1, Hand.q5, Hand.q6, Hand.q4, Hand.q3, g_S] <;> rfl)
  have hB' : Below w.heap.size w w3 := Hand.stepB hb3 (by repeat (with_reducible first | apply hB | apply Below.drew | apply pw_below_drewN | (apply Below.setCell; rotate_left; (dsimp only; omega)) | (apply Below.alloc; rotate_left; (first | omega | (simp only [Hand.sa, Hand.ss, Hand.sd, Hand.sn]; omega))))) (Nat.le_refl _)
  clear HG hB g_A g_B g_C g_P g_X g_S zw z_A z1_A z2_A y0_A y1_A c_A_0 f_A_0 c_A_1 f_A_1 z_B z1_B z2_B y0_B y1_B c_B_0 f_B_0 c_B_1 f_B_1 z_C z1_C z2_C y0_C y1_C c_C_0 f_C_0 c_C_1 f_C_1 z_P z1_P z2_P y0_P y1_P c_P_0 f_P_0 c_P_1 f_P_1 z_X z1_X z2_X y0_X y1_X c_X_0 f_X_0 c_X_1 f_X_1 z_S z1_S z2_S y0_S y1_S c_S_0 f_S_0 c_S_1 f_S_1
  clear hb3
  have g_A := h_A
  have g_B := h_B
  have g_C := h_C
  have g_P := h_P
  have g_X := h_X
  have g_S := h_S
  have hB := hB'
  clear hB' h_A h_B h_C h_P h_X h_S
  obtain ⟨z_A, z1_A, z2_A, y0_A, y1_A⟩ := Hand.hz g_A
  obtain ⟨c_A_0, f_A_0, c_A_1, f_A_1⟩ := Hand.hc2 g_A
  obtain ⟨z_B, z1_B, z2_B, y0_B, y1_B⟩ := Hand.hz g_B
  obtain ⟨c_B_0, f_B_0, c_B_1, f_B_1⟩ := Hand.hc2 g_B
  obtain ⟨z_C, z1_C, z2_C, y0_C, y1_C⟩ := Hand.hz g_C
  obtain ⟨c_C_0, f_C_0, c_C_1, f_C_1⟩ := Hand.hc2 g_C
  obtain ⟨z_P, z1_P, z2_P, y0_P, y1_P⟩ := Hand.hz g_P
  obtain ⟨c_P_0, f_P_0, c_P_1, f_P_1⟩ := Hand.hc2 g_P
  obtain ⟨z_X, z1_X, z2_X, y0_X, y1_X⟩ := Hand.hz g_X
  obtain ⟨c_X_0, f_X_0, c_X_1, f_X_1⟩ := Hand.hc2 g_X
  obtain ⟨z_S, z1_S, z2_S, y0_S, y1_S⟩ := Hand.hz g_S
  obtain ⟨c_S_0, f_S_0, c_S_1, f_S_1⟩ := Hand.hc2 g_S
  have zw : w.heap.size ≤ w3.heap.size := hB.size
  have HG := Lib.hid (And.intro g_A (And.intro g_B (And.intro g_C (And.intro g_P (And.intro g_X (And.intro g_S (hB)))))))
  clear g_A g_B g_C g_P g_X g_S hB
  go_wp2
  obtain ⟨g_A, g_B, g_C, g_P, g_X, g_S, hB⟩ := HG.out
  refine HK11.out _ _ (hN ?_ ?_)
  · repeat' (with_reducible apply And.intro)
    all_goals (repeat (with_reducible first | exact g_A | exact g_B | exact g_C | exact g_X | exact g_S | exact Hand.kn (by first | omega | (simp only [Hand.sa, Hand.ss, Hand.sd, Hand.sn]; first | done | omega)) | refine Hand.ka ?_ | refine Hand.kd ?_ | refine Hand.ks (by first | omega | (simp only [Hand.sa, Hand.ss, Hand.sd, Hand.sn]; first | done | omega)) ?_))
  · repeat (with_reducible first | exact hB | apply Below.drew | (apply Below.setCell; rotate_left; (dsimp only; first | omega | (simp only [Hand.sa, Hand.ss, Hand.sd, Hand.sn]; first | done | omega))) | (apply Below.alloc; rotate_left; (first | omega | (simp only [Hand.sa, Hand.ss, Hand.sd, Hand.sn]; first | done | omega))))
set_option maxHeartbeats 8000000 in
set_option maxRecDepth 100000 in
theorem rings3 (w : World) (a b c d e f p1 q1 p2 q2 r2 p3 q3 l1 l2 l3 : Int)
    (hN : At12 w a b c d e f p2 q2 p3 q3 r2 0)
    (M3 : RT 21 #[.agg #[.int .i64 c, .int .i64 d], .agg #[.int .i64 e, .int .i64 f]] p3 q3 0)
    (F0 : RB 33 #[.int .i64 0] true)
    (F1 : RB 33 #[.int .i64 0] true)
    (L : RT 21 #[.agg #[.int .i64 p1, .int .i64 q1], .agg #[.int .i64 e, .int .i64 f]] l1 l2 l3)
    (R : RT 21 #[.agg #[.int .i64 a, .int .i64 b], .agg #[.int .i64 p3, .int .i64 q3]] l1 l2 l3) : At10 w a b c d e f p1 q1 p2 q2 0 r2 := by
  intro s9 s10 s13 s14 s15 s16 s17 s18 s19 s20 s21 s22 s23 s24 s25 s26 s27 s28 s29 s30 s31 s32 s33 s34 s35 s36 s37 s38 s39 s40 s41 s42 s43 s44 s45 s46 s47 s48 s49 s50 s51 s52 s53 s54 s55 s56 s57 s58 s59 s60 s61 s62 s63 s64 s65 s66 s67 s68 s69 s70 s71 s72 s73 s74 s75 s76 s77 s78 s79 s80 s81 s82 s83 s84 s85 s86 s87 s88 s89 s90 s91 s92 s93 s94 s95 s96 s97 s98 s99 s100 s101 s102 s103 s104 s105 s106 s107 s108 s109 s110 s111 s112 s113 s114 s115 s116 s117 s118 s119 s120 s121 s122 s123 s124 s125 s126 s127 s128 s129 s130 s131 s132 s133 s134 s135 s136 s137 s138 s139 s140 s141 s142 s143 s144 s145 s146 s147 s148 s149 s150 s151 s152 s153 s154 s155 s156 s157 s158 s159 s160 s161 s162 s163 s164 s165 s166 s167 s168 s169 s170 s171 s172 s173 s174 s175 s176 s177 s178 s179 s180 s181 s182 s183 s184 s185 s186 s187 s188 s189 s190 s191 s192 s193 s194 s195 s196 s197 s198 s199 s200 s201 s202 s203 s204 s205 s206 s207 s208 s209 s210 s211 s212 s213 s214 s215 s216 s217 s218 s219 s220 s221 s222 s223 s224 s225 gA gB gC gP gX W hfacts hB
  obtain ⟨g_A, g_B, g_C, g_P, g_X⟩ := hfacts
  obtain ⟨z_A, z1_A, z2_A, y0_A, y1_A⟩ := Hand.hz g_A
  obtain ⟨c_A_0, f_A_0, c_A_1, f_A_1⟩ := Hand.hc2 g_A
  obtain ⟨z_B, z1_B, z2_B, y0_B, y1_B⟩ := Hand.hz g_B
  obtain ⟨c_B_0, f_B_0, c_B_1, f_B_1⟩ := Hand.hc2 g_B
  obtain ⟨z_C, z1_C, z2_C, y0_C, y1_C⟩ := Hand.hz g_C
  obtain ⟨c_C_0, f_C_0, c_C_1, f_C_1⟩ := Hand.hc2 g_C
  obtain ⟨z_P, z1_P, z2_P, y0_P, y1_P⟩ := Hand.hz g_P
  obtain ⟨c_P_0, f_P_0, c_P_1, f_P_1⟩ := Hand.hc2 g_P
  obtain ⟨z_X, z1_X, z2_X, y0_X, y1_X⟩ := Hand.hz g_X
  obtain ⟨c_X_0, f_X_0, c_X_1, f_X_1⟩ := Hand.hc2 g_X
  have zw : w.heap.size ≤ W.heap.size := hB.size
  have HG := Lib.hid (And.intro g_A (And.intro g_B (And.intro g_C (And.intro g_P (And.intro g_X (hB))))))
  clear g_A g_B g_C g_P g_X hB
  rw [ringsE10]
  refine wp_seq_k (fun K10 hK10 => ?_)
  have HK10 := Lib.hid hK10
  clear hK10
  conv => arg 2; whnf
  go_wp2_with fail
  with_reducible refine (M3.out _).mono ?_
  rintro e w1 ⟨rfl, hb1⟩
  obtain ⟨g_A, g_B, g_C, g_P, g_X, hB⟩ := HG.out
  have h_A : w1.heap[gA]? = some (.cells #[.int .i64 a, .int .i64 b] 24 (0, 0)) := by
    refine Hand.kb hb1 ?_; first | with_reducible exact g_A | (simp (disch := first | omega | (simp only [Hand.sa, Hand.ss, Hand.sd, Hand.sn]; first | done | omega)) only [Hand.q2, Hand.q1, Hand.q5, Hand.q6, Hand.q4, Hand.q3, g_A] <;> rfl)
  have h_B : w1.heap[gB]? = some (.cells #[.int .i64 c, .int .i64 d] 24 (0, 0)) := by
    refine Hand.kb hb1 ?_; first | with_reducible exact g_B | (simp (disch := first | omega | (simp only [Hand.sa, Hand.ss, Hand.sd, Hand.sn]; first | done | omega)) only [Hand.q2, Hand.q1, Hand.q5, Hand.q6, Hand.q4, Hand.q3, g_B] <;> rfl)
  have h_C : w1.heap[gC]? = some (.cells #[.int .i64 e, .int .i64 f] 24 (0, 0)) := by
    refine Hand.kb hb1 ?_; first | with_reducible exact g_C | (simp (disch := first | omega | (simp only [Hand.sa, Hand.ss, Hand.sd, Hand.sn]; first | done | omega)) only [Hand.q2, Hand.q1, Hand.q5, Hand.q6, Hand.q4, Hand.q3, g_C] <;> rfl)
  have h_P : w1.heap[gP]? = some (.cells #[.int .i64 p1, .int .i64 q1] 24 (0, 0)) := by
    refine Hand.kb hb1 ?_; first | with_reducible exact g_P | (simp (disch := first | omega | (simp only [Hand.sa, Hand.ss, Hand.sd, Hand.sn]; first | done | omega)) only [Hand.q2, Hand.q1, Hand.q5, Hand.q6, Hand.q4, Hand.q3, g_P] <;> rfl)
  have h_X : w1.heap[gX]? = some (.cells #[.int .i64 p2, .int .i64 q2] 24 (0, 0)) := by
    refine Hand.kb hb1 ?_; first | with_reducible exact g_X | (simp (disch := first | omega | (simp only [Hand.sa, Hand.ss, Hand.sd, Hand.sn]; first | done | omega)) only [Hand.q2, Hand.q1, Hand.q5, Hand.q6, Hand.q4, Hand.q3, g_X] <;> rfl)
  have hB' : Below w.heap.size w w1 := Hand.stepB hb1 (by repeat (with_reducible first | apply hB | apply Below.drew | apply pw_below_drewN | (apply Below.setCell; rotate_left; (dsimp only; omega)) | (apply Below.alloc; rotate_left; (first | omega | (simp only [Hand.sa, Hand.ss, Hand.sd, Hand.sn]; omega))))) (Nat.le_refl _)
  clear HG hB g_A g_B g_C g_P g_X zw z_A z1_A z2_A y0_A y1_A c_A_0 f_A_0 c_A_1 f_A_1 z_B z1_B z2_B y0_B y1_B c_B_0 f_B_0 c_B_1 f_B_1 z_C z1_C z2_C y0_C y1_C c_C_0 f_C_0 c_C_1 f_C_1 z_P z1_P z2_P y0_P y1_P c_P_0 f_P_0 c_P_1 f_P_1 z_X z1_X z2_X y0_X y1_X c_X_0 f_X_0 c_X_1 f_X_1
  clear hb1
  have g_A := h_A
  have g_B := h_B
  have g_C := h_C
  have g_P := h_P
  have g_X := h_X
  have hB := hB'
  clear hB' h_A h_B h_C h_P h_X
  obtain ⟨z_A, z1_A, z2_A, y0_A, y1_A⟩ := Hand.hz g_A
  obtain ⟨c_A_0, f_A_0, c_A_1, f_A_1⟩ := Hand.hc2 g_A
  obtain ⟨z_B, z1_B, z2_B, y0_B, y1_B⟩ := Hand.hz g_B
  obtain ⟨c_B_0, f_B_0, c_B_1, f_B_1⟩ := Hand.hc2 g_B
  obtain ⟨z_C, z1_C, z2_C, y0_C, y1_C⟩ := Hand.hz g_C
  obtain ⟨c_C_0, f_C_0, c_C_1, f_C_1⟩ := Hand.hc2 g_C
  obtain ⟨z_P, z1_P, z2_P, y0_P, y1_P⟩ := Hand.hz g_P
  obtain ⟨c_P_0, f_P_0, c_P_1, f_P_1⟩ := Hand.hc2 g_P
  obtain ⟨z_X, z1_X, z2_X, y0_X, y1_X⟩ := Hand.hz g_X
  obtain ⟨c_X_0, f_X_0, c_X_1, f_X_1⟩ := Hand.hc2 g_X
  have zw : w.heap.size ≤ w1.heap.size := hB.size
  have HG := Lib.hid (And.intro g_A (And.intro g_B (And.intro g_C (And.intro g_P (And.intro g_X (hB))))))
  clear g_A g_B g_C g_P g_X hB
  go_wp2
  refine HK10.out _ _ ?_
  rw [ringsE11]
  refine wp_seq_k (fun K11 hK11 => ?_)
  have HK11 := Lib.hid hK11
  clear hK11
  conv => arg 2; whnf
  go_wp2_with fail
  with_reducible refine (F0.out _).mono ?_
  rintro e w2 ⟨rfl, hb2⟩
  obtain ⟨g_A, g_B, g_C, g_P, g_X, hB⟩ := HG.out
  have h_A : w2.heap[gA]? = some (.cells #[.int .i64 a, .int .i64 b] 24 (0, 0)) := by
    refine Hand.kb hb2 ?_; first | with_reducible exact g_A | (simp (disch := first | omega | (simp only [Hand.sa, Hand.ss, Hand.sd, Hand.sn]; first | done | omega)) only [Hand.q2, Hand.q1, Hand.q5, Hand.q6, Hand.q4, Hand.q3, g_A] <;> rfl)
  have h_B : w2.heap[gB]? = some (.cells #[.int .i64 c, .int .i64 d] 24 (0, 0)) := by
    refine Hand.kb hb2 ?_; first | with_reducible exact g_B | (simp (disch := first | omega | (simp only [Hand.sa, Hand.ss, Hand.sd, Hand.sn]; first | done | omega)) only [Hand.q2, Hand.q1, Hand.q5, Hand.q6, Hand.q4, Hand.q3, g_B] <;> rfl)
  have h_C : w2.heap[gC]? = some (.cells #[.int .i64 e, .int .i64 f] 24 (0, 0)) := by
    refine Hand.kb hb2 ?_; first | with_reducible exact g_C | (simp (disch := first | omega | (simp only [Hand.sa, Hand.ss, Hand.sd, Hand.sn]; first | done | omega)) only [Hand.q2, Hand.q1, Hand.q5, Hand.q6, Hand.q4, Hand.q3, g_C] <;> rfl)
  have h_P : w2.heap[gP]? = some (.cells #[.int .i64 p1, .int .i64 q1] 24 (0, 0)) := by
    refine Hand.kb hb2 ?_; first | with_reducible exact g_P | (simp (disch := first | omega | (simp only [Hand.sa, Hand.ss, Hand.sd, Hand.sn]; first | done | omega)) only [Hand.q2, Hand.q1, Hand.q5, Hand.q6, Hand.q4, Hand.q3, g_P] <;> rfl)
  have h_X : w2.heap[gX]? = some (.cells #[.int .i64 p2, .int .i64 q2] 24 (0, 0)) := by
    refine Hand.kb hb2 ?_; first | with_reducible exact g_X | (simp (disch := first | omega | (simp only [Hand.sa, Hand.ss, Hand.sd, Hand.sn]; first | done | omega)) only [Hand.q2, Hand.q1, Hand.q5, Hand.q6, Hand.q4, Hand.q3, g_X] <;> rfl)
  have h_S : w2.heap[w1.heap.size]? = some (.cells #[.int .i64 p3, .int .i64 q3] 24 (0, 0)) := by
    refine Hand.kb hb2 ?_; simp (disch := first | omega | (simp only [Hand.sa, Hand.ss, Hand.sd, Hand.sn]; first | done | omega)) only [Hand.q2, Hand.q1, Hand.q5, Hand.q6, Hand.q4, Hand.q3] <;> rfl
  have hB' : Below w.heap.size w w2 := Hand.stepB hb2 (by repeat (with_reducible first | apply hB | apply Below.drew | apply pw_below_drewN | (apply Below.setCell; rotate_left; (dsimp only; omega)) | (apply Below.alloc; rotate_left; (first | omega | (simp only [Hand.sa, Hand.ss, Hand.sd, Hand.sn]; omega))))) (Nat.le_refl _)
  clear HG hB g_A g_B g_C g_P g_X zw z_A z1_A z2_A y0_A y1_A c_A_0 f_A_0 c_A_1 f_A_1 z_B z1_B z2_B y0_B y1_B c_B_0 f_B_0 c_B_1 f_B_1 z_C z1_C z2_C y0_C y1_C c_C_0 f_C_0 c_C_1 f_C_1 z_P z1_P z2_P y0_P y1_P c_P_0 f_P_0 c_P_1 f_P_1 z_X z1_X z2_X y0_X y1_X c_X_0 f_X_0 c_X_1 f_X_1
  clear hb2
  have g_A := h_A
  have g_B := h_B
  have g_C := h_C
  have g_P := h_P
  have g_X := h_X
  have g_S := h_S
  have hB := hB'
  clear hB' h_A h_B h_C h_P h_X h_S
  obtain ⟨z_A, z1_A, z2_A, y0_A, y1_A⟩ := Hand.hz g_A
  obtain ⟨c_A_0, f_A_0, c_A_1, f_A_1⟩ := Hand.hc2 g_A
  obtain ⟨z_B, z1_B, z2_B, y0_B, y1_B⟩ := Hand.hz g_B
  obtain ⟨c_B_0, f_B_0, c_B_1, f_B_1⟩ := Hand.hc2 g_B
  obtain ⟨z_C, z1_C, z2_C, y0_C, y1_C⟩ := Hand.hz g_C
  obtain ⟨c_C_0, f_C_0, c_C_1, f_C_1⟩ := Hand.hc2 g_C
  obtain ⟨z_P, z1_P, z2_P, y0_P, y1_P⟩ := Hand.hz g_P
  obtain ⟨c_P_0, f_P_0, c_P_1, f_P_1⟩ := Hand.hc2 g_P
  obtain ⟨z_X, z1_X, z2_X, y0_X, y1_X⟩ := Hand.hz g_X
  obtain ⟨c_X_0, f_X_0, c_X_1, f_X_1⟩ := Hand.hc2 g_X
  obtain ⟨z_S, z1_S, z2_S, y0_S, y1_S⟩ := Hand.hz g_S
  obtain ⟨c_S_0, f_S_0, c_S_1, f_S_1⟩ := Hand.hc2 g_S
  have zw : w.heap.size ≤ w2.heap.size := hB.size
  have HG := Lib.hid (And.intro g_A (And.intro g_B (And.intro g_C (And.intro g_P (And.intro g_X (And.intro g_S (hB)))))))
  clear g_A g_B g_C g_P g_X g_S hB
  go_wp2_with fail
  with_reducible refine (F1.out _).mono ?_
  rintro e w3 ⟨rfl, hb3⟩
  obtain ⟨g_A, g_B, g_C, g_P, g_X, g_S, hB⟩ := HG.out
  have h_A : w3.heap[gA]? = some (.cells #[.int .i64 a, .int .i64 b] 24 (0, 0)) := by
    refine Hand.kb hb3 ?_; first | with_reducible exact g_A | (simp (disch := first | omega | (simp only [Hand.sa, Hand.ss, Hand.sd, Hand.sn]; first | done | omega)) only [Hand.q2, Hand.q1, Hand.q5, Hand.q6, Hand.q4, Hand.q3, g_A] <;> rfl)
  have h_B : w3.heap[gB]? = some (.cells #[.int .i64 c, .int .i64 d] 24 (0, 0)) := by
    refine Hand.kb hb3 ?_; first | with_reducible exact g_B | (simp (disch := first | omega | (simp only [Hand.sa, Hand.ss, Hand.sd, Hand.sn]; first | done | omega)) only [Hand.q2, Hand.q1, Hand.q5, Hand.q6, Hand.q4, Hand.q3, g_B] <;> rfl)
  have h_C : w3.heap[gC]? = some (.cells #[.int .i64 e, .int .i64 f] 24 (0, 0)) := by
    refine Hand.kb hb3 ?_; first | with_reducible exact g_C | (simp (disch := first | omega | (simp only [Hand.sa, Hand.ss, Hand.sd, Hand.sn]; first | done | omega)) only [Hand.q2, Hand.q1, Hand.q5, Hand.q6, Hand.q4, Hand.q3, g_C] <;> rfl)
  have h_P : w3.heap[gP]? = some (.cells #[.int .i64 p1, .int .i64 q1] 24 (0, 0)) := by
    refine Hand.kb hb3 ?_; first | with_reducible exact g_P | (simp (disch := first | omega | (simp only [Hand.sa, Hand.ss, Hand.sd, Hand.sn]; first | done | omega)) only [Hand.q2, Hand.q1, Hand.q5, Hand.q6, Hand.q4, Hand.q3, g_P] <;> rfl)
  have h_X : w3.heap[gX]? = some (.cells #[.int .i64 p2, .int .i64 q2] 24 (0, 0)) := by
    refine Hand.kb hb3 ?_; first | with_reducible exact g_X | (simp (disch := first | omega | (simp only [Hand.sa, Hand.ss, Hand.sd, Hand.sn]; first | done | omega)) only [Hand.q2, Hand.q1, Hand.q5, Hand.q6, Hand.q4, Hand.q3, g_X] <;> rfl)
  have h_S : w3.heap[w1.heap.size]? = some (.cells #[.int .i64 p3, .int .i64 q3] 24 (0, 0)) := by
    refine Hand.kb hb3 ?_; first | with_reducible exact g_S | (simp (disch := first | omega | (simp only [Hand.sa, Hand.ss, Hand.sd, Hand.sn]; first | done | omega)) only [Hand.q2, Hand.q1, Hand.q5, Hand.q6, Hand.q4, Hand.q3, g_S] <;> rfl)
  have hB' : Below w.heap.size w w3 := Hand.stepB hb3 (by repeat (with_reducible first | apply hB | apply Below.drew | apply pw_below_drewN | (apply Below.setCell; rotate_left; (dsimp only; omega)) | (apply Below.alloc; rotate_left; (first | omega | (simp only [Hand.sa, Hand.ss, Hand.sd, Hand.sn]; omega))))) (Nat.le_refl _)
  clear HG hB g_A g_B g_C g_P g_X g_S zw z_A z1_A z2_A y0_A y1_A c_A_0 f_A_0 c_A_1 f_A_1 z_B z1_B z2_B y0_B y1_B c_B_0 f_B_0 c_B_1 f_B_1 z_C z1_C z2_C y0_C y1_C c_C_0 f_C_0 c_C_1 f_C_1 z_P z1_P z2_P y0_P y1_P c_P_0 f_P_0 c_P_1 f_P_1 z_X z1_X z2_X y0_X y1_X c_X_0 f_X_0 c_X_1 f_X_1 z_S z1_S z2_S y0_S y1_S c_S_0 f_S_0 c_S_1 f_S_1
  clear hb3
  have g_A := h_A
  have g_B := h_B
  have g_C := h_C
  have g_P := h_P
  have g_X := h_X
  have g_S := h_S
  have hB := hB'
  clear hB' h_A h_B h_C h_P h_X h_S
  obtain ⟨z_A, z1_A, z2_A, y0_A, y1_A⟩ := Hand.hz g_A
  obtain ⟨c_A_0, f_A_0, c_A_1, f_A_1⟩ := Hand.hc2 g_A
  obtain ⟨z_B, z1_B, z2_B, y0_B, y1_B⟩ := Hand.hz g_B
  obtain ⟨c_B_0, f_B_0, c_B_1, f_B_1⟩ := Hand.hc2 g_B
  obtain ⟨z_C, z1_C, z2_C, y0_C, y1_C⟩ := Hand.hz g_C
  obtain ⟨c_C_0, f_C_0, c_C_1, f_C_1⟩ := Hand.hc2 g_C
  obtain ⟨z_P, z1_P, z2_P, y0_P, y1_P⟩ := Hand.hz g_P
  obtain ⟨c_P_0, f_P_0, c_P_1, f_P_1⟩ := Hand.hc2 g_P
  obtain ⟨z_X, z1_X, z2_X, y0_X, y1_X⟩ := Hand.hz g_X
  obtain ⟨c_X_0, f_X_0, c_X_1, f_X_1⟩ := Hand.hc2 g_X
  obtain ⟨z_S, z1_S, z2_S, y0_S, y1_S⟩ := Hand.hz g_S
  obtain ⟨c_S_0, f_S_0, c_S_1, f_S_1⟩ := Hand.hc2 g_S
  have zw : w.heap.size ≤ w3.heap.size := hB.size
  have HG := Lib.hid (And.intro g_A (And.intro g_B (And.intro g_C (And.intro g_P (And.intro g_X (And.intro g_S (hB)))))))
  clear g_A g_B g_C g_P g_X g_S hB
  go_wp2_with fail
  with_reducible refine (L.out _).mono ?_
  rintro e w4 ⟨rfl, hb4⟩
  obtain ⟨g_A, g_B, g_C, g_P, g_X, g_S, hB⟩ := HG.out
  have h_A : w4.heap[gA]? = some (.cells #[.int .i64 a, .int .i64 b] 24 (0, 0)) := by
    refine Hand.kb hb4 ?_; first | with_reducible exact g_A | (simp (disch := first | omega | (simp only [Hand.sa, Hand.ss, Hand.sd, Hand.sn]; first | done | omega)) only [Hand.q2, Hand.q1, Hand.q5, Hand.q6, Hand.q4, Hand.q3, g_A] <;> rfl)
  have h_B : w4.heap[gB]? = some (.cells #[.int .i64 c, .int .i64 d] 24 (0, 0)) := by
    refine Hand.kb hb4 ?_; first | with_reducible exact g_B | (simp (disch := first | omega | (simp only [Hand.sa, Hand.ss, Hand.sd, Hand.sn]; first | done | omega)) only [Hand.q2, Hand.q1, Hand.q5, Hand.q6, Hand.q4, Hand.q3, g_B] <;> rfl)
  have h_C : w4.heap[gC]? = some (.cells #[.int .i64 e, .int .i64 f] 24 (0, 0)) := by
    refine Hand.kb hb4 ?_; first | with_reducible exact g_C | (simp (disch := first | omega | (simp only [Hand.sa, Hand.ss, Hand.sd, Hand.sn]; first | done | omega)) only [Hand.q2, Hand.q1, Hand.q5, Hand.q6, Hand.q4, Hand.q3, g_C] <;> rfl)
  have h_P : w4.heap[gP]? = some (.cells #[.int .i64 p1, .int .i64 q1] 24 (0, 0)) := by
    refine Hand.kb hb4 ?_; first | with_reducible exact g_P | (simp (disch := first | omega | (simp only [Hand.sa, Hand.ss, Hand.sd, Hand.sn]; first | done | omega)) only [Hand.q2, Hand.q1, Hand.q5, Hand.q6, Hand.q4, Hand.q3, g_P] <;> rfl)
  have h_X : w4.heap[gX]? = some (.cells #[.int .i64 p2, .int .i64 q2] 24 (0, 0)) := by
    refine Hand.kb hb4 ?_; first | with_reducible exact g_X | (simp (disch := first | omega | (simp only [Hand.sa, Hand.ss, Hand.sd, Hand.sn]; first | done | omega)) only [Hand.q2, Hand.q1, Hand.q5, Hand.q6, Hand.q4, Hand.q3, g_X] <;> rfl)
  have h_S : w4.heap[w1.heap.size]? = some (.cells #[.int .i64 p3, .int .i64 q3] 24 (0, 0)) := by
    refine Hand.kb hb4 ?_; first | with_reducible exact g_S | (simp (disch := first | omega | (simp only [Hand.sa, Hand.ss, Hand.sd, Hand.sn]; first | done | omega)) only [Hand.q2, Hand.q1, Hand.q5, Hand.q6, Hand.q4, Hand.q3, g_S] <;> rfl)
  have hB' : Below w.heap.size w w4 := Hand.stepB hb4 (by repeat (with_reducible first | apply hB | apply Below.drew | apply pw_below_drewN | (apply Below.setCell; rotate_left; (dsimp only; omega)) | (apply Below.alloc; rotate_left; (first | omega | (simp only [Hand.sa, Hand.ss, Hand.sd, Hand.sn]; omega))))) (Nat.le_refl _)
  clear HG hB g_A g_B g_C g_P g_X g_S zw z_A z1_A z2_A y0_A y1_A c_A_0 f_A_0 c_A_1 f_A_1 z_B z1_B z2_B y0_B y1_B c_B_0 f_B_0 c_B_1 f_B_1 z_C z1_C z2_C y0_C y1_C c_C_0 f_C_0 c_C_1 f_C_1 z_P z1_P z2_P y0_P y1_P c_P_0 f_P_0 c_P_1 f_P_1 z_X z1_X z2_X y0_X y1_X c_X_0 f_X_0 c_X_1 f_X_1 z_S z1_S z2_S y0_S y1_S c_S_0 f_S_0 c_S_1 f_S_1
  clear hb4
  have g_A := h_A
  have g_B := h_B
  have g_C := h_C
  have g_P := h_P
  have g_X := h_X
  have g_S := h_S
  have hB := hB'
  clear hB' h_A h_B h_C h_P h_X h_S
  obtain ⟨z_A, z1_A, z2_A, y0_A, y1_A⟩ := Hand.hz g_A
  obtain ⟨c_A_0, f_A_0, c_A_1, f_A_1⟩ := Hand.hc2 g_A
  obtain ⟨z_B, z1_B, z2_B, y0_B, y1_B⟩ := Hand.hz g_B
  obtain ⟨c_B_0, f_B_0, c_B_1, f_B_1⟩ := Hand.hc2 g_B
  obtain ⟨z_C, z1_C, z2_C, y0_C, y1_C⟩ := Hand.hz g_C
  obtain ⟨c_C_0, f_C_0, c_C_1, f_C_1⟩ := Hand.hc2 g_C
  obtain ⟨z_P, z1_P, z2_P, y0_P, y1_P⟩ := Hand.hz g_P
  obtain ⟨c_P_0, f_P_0, c_P_1, f_P_1⟩ := Hand.hc2 g_P
  obtain ⟨z_X, z1_X, z2_X, y0_X, y1_X⟩ := Hand.hz g_X
  obtain ⟨c_X_0, f_X_0, c_X_1, f_X_1⟩ := Hand.hc2 g_X
  obtain ⟨z_S, z1_S, z2_S, y0_S, y1_S⟩ := Hand.hz g_S
  obtain ⟨c_S_0, f_S_0, c_S_1, f_S_1⟩ := Hand.hc2 g_S
  have zw : w.heap.size ≤ w4.heap.size := hB.size
  have HG := Lib.hid (And.intro g_A (And.intro g_B (And.intro g_C (And.intro g_P (And.intro g_X (And.intro g_S (hB)))))))
  clear g_A g_B g_C g_P g_X g_S hB
  go_wp2_with fail
  with_reducible refine (R.out _).mono ?_
  rintro e w5 ⟨rfl, hb5⟩
  obtain ⟨g_A, g_B, g_C, g_P, g_X, g_S, hB⟩ := HG.out
  have h_A : w5.heap[gA]? = some (.cells #[.int .i64 a, .int .i64 b] 24 (0, 0)) := by
    refine Hand.kb hb5 ?_; first | with_reducible exact g_A | (simp (disch := first | omega | (simp only [Hand.sa, Hand.ss, Hand.sd, Hand.sn]; first | done | omega)) only [Hand.q2, Hand.q1, Hand.q5, Hand.q6, Hand.q4, Hand.q3, g_A] <;> rfl)
  have h_B : w5.heap[gB]? = some (.cells #[.int .i64 c, .int .i64 d] 24 (0, 0)) := by
    refine Hand.kb hb5 ?_; first | with_reducible exact g_B | (simp (disch := first | omega | (simp only [Hand.sa, Hand.ss, Hand.sd, Hand.sn]; first | done | omega)) only [Hand.q2, Hand.q1, Hand.q5, Hand.q6, Hand.q4, Hand.q3, g_B] <;> rfl)
  have h_C : w5.heap[gC]? = some (.cells #[.int .i64 e, .int .i64 f] 24 (0, 0)) := by
    refine Hand.kb hb5 ?_; first | with_reducible exact g_C | (simp (disch := first | omega | (simp only [Hand.sa, Hand.ss, Hand.sd, Hand.sn]; first | done | omega)) only [Hand.q2, Hand.q1, Hand.q5, Hand.q6, Hand.q4, Hand.q3, g_C] <;> rfl)
  have h_P : w5.heap[gP]? = some (.cells #[.int .i64 p1, .int .i64 q1] 24 (0, 0)) := by
    refine Hand.kb hb5 ?_; first | with_reducible exact g_P | (simp (disch := first | omega | (simp only [Hand.sa, Hand.ss, Hand.sd, Hand.sn]; first | done | omega)) only [Hand.q2, Hand.q1, Hand.q5, Hand.q6, Hand.q4, Hand.q3, g_P] <;> rfl)
  have h_X : w5.heap[gX]? = some (.cells #[.int .i64 p2, .int .i64 q2] 24 (0, 0)) := by
    refine Hand.kb hb5 ?_; first | with_reducible exact g_X | (simp (disch := first | omega | (simp only [Hand.sa, Hand.ss, Hand.sd, Hand.sn]; first | done | omega)) only [Hand.q2, Hand.q1, Hand.q5, Hand.q6, Hand.q4, Hand.q3, g_X] <;> rfl)
  have h_S : w5.heap[w1.heap.size]? = some (.cells #[.int .i64 p3, .int .i64 q3] 24 (0, 0)) := by
    refine Hand.kb hb5 ?_; first | with_reducible exact g_S | (simp (disch := first | omega | (simp only [Hand.sa, Hand.ss, Hand.sd, Hand.sn]; first | done | omega)) only [Hand.q2, Hand.q1, Hand.q5, Hand.q6, Hand.q4, Hand.q3, g_S] <;> rfl)
  have h_U : w5.heap[w4.heap.size]? = some (.cells #[.int .i64 l1, .int .i64 l2] 24 (0, 0)) := by
    refine Hand.kb hb5 ?_; simp (disch := first | omega | (simp only [Hand.sa, Hand.ss, Hand.sd, Hand.sn]; first | done | omega)) only [Hand.q2, Hand.q1, Hand.q5, Hand.q6, Hand.q4, Hand.q3] <;> rfl
  have hB' : Below w.heap.size w w5 := Hand.stepB hb5 (by repeat (with_reducible first | apply hB | apply Below.drew | apply pw_below_drewN | (apply Below.setCell; rotate_left; (dsimp only; omega)) | (apply Below.alloc; rotate_left; (first | omega | (simp only [Hand.sa, Hand.ss, Hand.sd, Hand.sn]; omega))))) (Nat.le_refl _)
  clear HG hB g_A g_B g_C g_P g_X g_S zw z_A z1_A z2_A y0_A y1_A c_A_0 f_A_0 c_A_1 f_A_1 z_B z1_B z2_B y0_B y1_B c_B_0 f_B_0 c_B_1 f_B_1 z_C z1_C z2_C y0_C y1_C c_C_0 f_C_0 c_C_1 f_C_1 z_P z1_P z2_P y0_P y1_P c_P_0 f_P_0 c_P_1 f_P_1 z_X z1_X z2_X y0_X y1_X c_X_0 f_X_0 c_X_1 f_X_1 z_S z1_S z2_S y0_S y1_S c_S_0 f_S_0 c_S_1 f_S_1
  clear hb5
  have g_A := h_A
  have g_B := h_B
  have g_C := h_C
  have g_P := h_P
  have g_X := h_X
  have g_S := h_S
  have g_U := h_U
  have hB := hB'
  clear hB' h_A h_B h_C h_P h_X h_S h_U
  obtain ⟨z_A, z1_A, z2_A, y0_A, y1_A⟩ := Hand.hz g_A
  obtain ⟨c_A_0, f_A_0, c_A_1, f_A_1⟩ := Hand.hc2 g_A
  obtain ⟨z_B, z1_B, z2_B, y0_B, y1_B⟩ := Hand.hz g_B
  obtain ⟨c_B_0, f_B_0, c_B_1, f_B_1⟩ := Hand.hc2 g_B
  obtain ⟨z_C, z1_C, z2_C, y0_C, y1_C⟩ := Hand.hz g_C
  obtain ⟨c_C_0, f_C_0, c_C_1, f_C_1⟩ := Hand.hc2 g_C
  obtain ⟨z_P, z1_P, z2_P, y0_P, y1_P⟩ := Hand.hz g_P
  obtain ⟨c_P_0, f_P_0, c_P_1, f_P_1⟩ := Hand.hc2 g_P
  obtain ⟨z_X, z1_X, z2_X, y0_X, y1_X⟩ := Hand.hz g_X
  obtain ⟨c_X_0, f_X_0, c_X_1, f_X_1⟩ := Hand.hc2 g_X
  obtain ⟨z_S, z1_S, z2_S, y0_S, y1_S⟩ := Hand.hz g_S
  obtain ⟨c_S_0, f_S_0, c_S_1, f_S_1⟩ := Hand.hc2 g_S
  obtain ⟨z_U, z1_U, z2_U, y0_U, y1_U⟩ := Hand.hz g_U
  obtain ⟨c_U_0, f_U_0, c_U_1, f_U_1⟩ := Hand.hc2 g_U
  have zw : w.heap.size ≤ w5.heap.size := hB.size
  have HG := Lib.hid (And.intro g_A (And.intro g_B (And.intro g_C (And.intro g_P (And.intro g_X (And.intro g_S (And.intro g_U (hB))))))))
  clear g_A g_B g_C g_P g_X g_S g_U hB
  go_wp2
  obtain ⟨g_A, g_B, g_C, g_P, g_X, g_S, g_U, hB⟩ := HG.out
  refine HK11.out _ _ (hN ?_ ?_)
  · repeat' (with_reducible apply And.intro)
    all_goals (repeat (with_reducible first | exact g_A | exact g_B | exact g_C | exact g_X | exact g_S | exact Hand.kn (by first | omega | (simp only [Hand.sa, Hand.ss, Hand.sd, Hand.sn]; first | done | omega)) | refine Hand.ka ?_ | refine Hand.kd ?_ | refine Hand.ks (by first | omega | (simp only [Hand.sa, Hand.ss, Hand.sd, Hand.sn]; first | done | omega)) ?_))
  · repeat (with_reducible first | exact hB | apply Below.drew | (apply Below.setCell; rotate_left; (dsimp only; first | omega | (simp only [Hand.sa, Hand.ss, Hand.sd, Hand.sn]; first | done | omega))) | (apply Below.alloc; rotate_left; (first | omega | (simp only [Hand.sa, Hand.ss, Hand.sd, Hand.sn]; first | done | omega))))
set_option maxHeartbeats 8000000 in
set_option maxRecDepth 100000 in
theorem rings2_g (w : World) (a b c d e f p1 q1 p2 q2 r1 r2 : Int)
    (hN : At10 w a b c d e f p1 q1 p2 q2 r1 r2)
    (F0 : RB 33 #[.int .i64 r2] false) : At9 w a b c d e f p1 q1 p2 q2 r1 r2 := by
  intro s9 s10 s13 s14 s15 s16 s17 s18 s19 s20 s21 s22 s23 s24 s25 s26 s27 s28 s29 s30 s31 s32 s33 s34 s35 s36 s37 s38 s39 s40 s41 s42 s43 s44 s45 s46 s47 s48 s49 s50 s51 s52 s53 s54 s55 s56 s57 s58 s59 s60 s61 s62 s63 s64 s65 s66 s67 s68 s69 s70 s71 s72 s73 s74 s75 s76 s77 s78 s79 s80 s81 s82 s83 s84 s85 s86 s87 s88 s89 s90 s91 s92 s93 s94 s95 s96 s97 s98 s99 s100 s101 s102 s103 s104 s105 s106 s107 s108 s109 s110 s111 s112 s113 s114 s115 s116 s117 s118 s119 s120 s121 s122 s123 s124 s125 s126 s127 s128 s129 s130 s131 s132 s133 s134 s135 s136 s137 s138 s139 s140 s141 s142 s143 s144 s145 s146 s147 s148 s149 s150 s151 s152 s153 s154 s155 s156 s157 s158 s159 s160 s161 s162 s163 s164 s165 s166 s167 s168 s169 s170 s171 s172 s173 s174 s175 s176 s177 s178 s179 s180 s181 s182 s183 s184 s185 s186 s187 s188 s189 s190 s191 s192 s193 s194 s195 s196 s197 s198 s199 s200 s201 s202 s203 s204 s205 s206 s207 s208 s209 s210 s211 s212 s213 s214 s215 s216 s217 s218 s219 s220 s221 s222 s223 s224 s225 gA gB gC gP gX W hfacts hB
  obtain ⟨g_A, g_B, g_C, g_P, g_X⟩ := hfacts
  obtain ⟨z_A, z1_A, z2_A, y0_A, y1_A⟩ := Hand.hz g_A
  obtain ⟨c_A_0, f_A_0, c_A_1, f_A_1⟩ := Hand.hc2 g_A
  obtain ⟨z_B, z1_B, z2_B, y0_B, y1_B⟩ := Hand.hz g_B
  obtain ⟨c_B_0, f_B_0, c_B_1, f_B_1⟩ := Hand.hc2 g_B
  obtain ⟨z_C, z1_C, z2_C, y0_C, y1_C⟩ := Hand.hz g_C
  obtain ⟨c_C_0, f_C_0, c_C_1, f_C_1⟩ := Hand.hc2 g_C
  obtain ⟨z_P, z1_P, z2_P, y0_P, y1_P⟩ := Hand.hz g_P
  obtain ⟨c_P_0, f_P_0, c_P_1, f_P_1⟩ := Hand.hc2 g_P
  obtain ⟨z_X, z1_X, z2_X, y0_X, y1_X⟩ := Hand.hz g_X
  obtain ⟨c_X_0, f_X_0, c_X_1, f_X_1⟩ := Hand.hc2 g_X
  have zw : w.heap.size ≤ W.heap.size := hB.size
  have HG := Lib.hid (And.intro g_A (And.intro g_B (And.intro g_C (And.intro g_P (And.intro g_X (hB))))))
  clear g_A g_B g_C g_P g_X hB
  rw [ringsE9]
  refine wp_seq_k (fun K9 hK9 => ?_)
  have HK9 := Lib.hid hK9
  clear hK9
  conv => arg 2; whnf
  go_wp2_with fail
  with_reducible refine (F0.out _).mono ?_
  rintro e w1 ⟨rfl, hb1⟩
  obtain ⟨g_A, g_B, g_C, g_P, g_X, hB⟩ := HG.out
  have h_A : w1.heap[gA]? = some (.cells #[.int .i64 a, .int .i64 b] 24 (0, 0)) := by
    refine Hand.kb hb1 ?_; first | with_reducible exact g_A | (simp (disch := first | omega | (simp only [Hand.sa, Hand.ss, Hand.sd, Hand.sn]; first | done | omega)) only [Hand.q2, Hand.q1, Hand.q5, Hand.q6, Hand.q4, Hand.q3, g_A] <;> rfl)
  have h_B : w1.heap[gB]? = some (.cells #[.int .i64 c, .int .i64 d] 24 (0, 0)) := by
    refine Hand.kb hb1 ?_; first | with_reducible exact g_B | (simp (disch := first | omega | (simp only [Hand.sa, Hand.ss, Hand.sd, Hand.sn]; first | done | omega)) only [Hand.q2, Hand.q1, Hand.q5, Hand.q6, Hand.q4, Hand.q3, g_B] <;> rfl)
  have h_C : w1.heap[gC]? = some (.cells #[.int .i64 e, .int .i64 f] 24 (0, 0)) := by
    refine Hand.kb hb1 ?_; first | with_reducible exact g_C | (simp (disch := first | omega | (simp only [Hand.sa, Hand.ss, Hand.sd, Hand.sn]; first | done | omega)) only [Hand.q2, Hand.q1, Hand.q5, Hand.q6, Hand.q4, Hand.q3, g_C] <;> rfl)
  have h_P : w1.heap[gP]? = some (.cells #[.int .i64 p1, .int .i64 q1] 24 (0, 0)) := by
    refine Hand.kb hb1 ?_; first | with_reducible exact g_P | (simp (disch := first | omega | (simp only [Hand.sa, Hand.ss, Hand.sd, Hand.sn]; first | done | omega)) only [Hand.q2, Hand.q1, Hand.q5, Hand.q6, Hand.q4, Hand.q3, g_P] <;> rfl)
  have h_X : w1.heap[gX]? = some (.cells #[.int .i64 p2, .int .i64 q2] 24 (0, 0)) := by
    refine Hand.kb hb1 ?_; first | with_reducible exact g_X | (simp (disch := first | omega | (simp only [Hand.sa, Hand.ss, Hand.sd, Hand.sn]; first | done | omega)) only [Hand.q2, Hand.q1, Hand.q5, Hand.q6, Hand.q4, Hand.q3, g_X] <;> rfl)
  have hB' : Below w.heap.size w w1 := Hand.stepB hb1 (by repeat (with_reducible first | apply hB | apply Below.drew | apply pw_below_drewN | (apply Below.setCell; rotate_left; (dsimp only; omega)) | (apply Below.alloc; rotate_left; (first | omega | (simp only [Hand.sa, Hand.ss, Hand.sd, Hand.sn]; omega))))) (Nat.le_refl _)
  clear HG hB g_A g_B g_C g_P g_X zw z_A z1_A z2_A y0_A y1_A c_A_0 f_A_0 c_A_1 f_A_1 z_B z1_B z2_B y0_B y1_B c_B_0 f_B_0 c_B_1 f_B_1 z_C z1_C z2_C y0_C y1_C c_C_0 f_C_0 c_C_1 f_C_1 z_P z1_P z2_P y0_P y1_P c_P_0 f_P_0 c_P_1 f_P_1 z_X z1_X z2_X y0_X y1_X c_X_0 f_X_0 c_X_1 f_X_1
  clear hb1
  have g_A := h_A
  have g_B := h_B
  have g_C := h_C
  have g_P := h_P
  have g_X := h_X
  have hB := hB'
  clear hB' h_A h_B h_C h_P h_X
  obtain ⟨z_A, z1_A, z2_A, y0_A, y1_A⟩ := Hand.hz g_A
  obtain ⟨c_A_0, f_A_0, c_A_1, f_A_1⟩ := Hand.hc2 g_A
  obtain ⟨z_B, z1_B, z2_B, y0_B, y1_B⟩ := Hand.hz g_B
  obtain ⟨c_B_0, f_B_0, c_B_1, f_B_1⟩ := Hand.hc2 g_B
  obtain ⟨z_C, z1_C, z2_C, y0_C, y1_C⟩ := Hand.hz g_C
  obtain ⟨c_C_0, f_C_0, c_C_1, f_C_1⟩ := Hand.hc2 g_C
  obtain ⟨z_P, z1_P, z2_P, y0_P, y1_P⟩ := Hand.hz g_P
  obtain ⟨c_P_0, f_P_0, c_P_1, f_P_1⟩ := Hand.hc2 g_P
  obtain ⟨z_X, z1_X, z2_X, y0_X, y1_X⟩ := Hand.hz g_X
  obtain ⟨c_X_0, f_X_0, c_X_1, f_X_1⟩ := Hand.hc2 g_X
  have zw : w.heap.size ≤ w1.heap.size := hB.size
  have HG := Lib.hid (And.intro g_A (And.intro g_B (And.intro g_C (And.intro g_P (And.intro g_X (hB))))))
  clear g_A g_B g_C g_P g_X hB
  go_wp2
  obtain ⟨g_A, g_B, g_C, g_P, g_X, hB⟩ := HG.out
  refine HK9.out _ _ (hN ?_ ?_)
  · repeat' (with_reducible apply And.intro)
    all_goals (repeat (with_reducible first | exact g_A | exact g_B | exact g_C | exact g_P | exact g_X | exact Hand.kn (by first | omega | (simp only [Hand.sa, Hand.ss, Hand.sd, Hand.sn]; first | done | omega)) | refine Hand.ka ?_ | refine Hand.kd ?_ | refine Hand.ks (by first | omega | (simp only [Hand.sa, Hand.ss, Hand.sd, Hand.sn]; first | done | omega)) ?_))
  · repeat (with_reducible first | exact hB | apply Below.drew | (apply Below.setCell; rotate_left; (dsimp only; first | omega | (simp only [Hand.sa, Hand.ss, Hand.sd, Hand.sn]; first | done | omega))) | (apply Below.alloc; rotate_left; (first | omega | (simp only [Hand.sa, Hand.ss, Hand.sd, Hand.sn]; first | done | omega))))
set_option maxHeartbeats 8000000 in
set_option maxRecDepth 100000 in
theorem rings2_0 (w : World) (a b d e f p1 q1 p2 q2 r1 : Int)
    (hN : At10 w a b 0 d e f p1 q1 p2 q2 r1 0)
    (F0 : RB 33 #[.int .i64 0] true) : At9 w a b 0 d e f p1 q1 p2 q2 r1 0 := by
  intro s9 s10 s13 s14 s15 s16 s17 s18 s19 s20 s21 s22 s23 s24 s25 s26 s27 s28 s29 s30 s31 s32 s33 s34 s35 s36 s37 s38 s39 s40 s41 s42 s43 s44 s45 s46 s47 s48 s49 s50 s51 s52 s53 s54 s55 s56 s57 s58 s59 s60 s61 s62 s63 s64 s65 s66 s67 s68 s69 s70 s71 s72 s73 s74 s75 s76 s77 s78 s79 s80 s81 s82 s83 s84 s85 s86 s87 s88 s89 s90 s91 s92 s93 s94 s95 s96 s97 s98 s99 s100 s101 s102 s103 s104 s105 s106 s107 s108 s109 s110 s111 s112 s113 s114 s115 s116 s117 s118 s119 s120 s121 s122 s123 s124 s125 s126 s127 s128 s129 s130 s131 s132 s133 s134 s135 s136 s137 s138 s139 s140 s141 s142 s143 s144 s145 s146 s147 s148 s149 s150 s151 s152 s153 s154 s155 s156 s157 s158 s159 s160 s161 s162 s163 s164 s165 s166 s167 s168 s169 s170 s171 s172 s173 s174 s175 s176 s177 s178 s179 s180 s181 s182 s183 s184 s185 s186 s187 s188 s189 s190 s191 s192 s193 s194 s195 s196 s197 s198 s199 s200 s201 s202 s203 s204 s205 s206 s207 s208 s209 s210 s211 s212 s213 s214 s215 s216 s217 s218 s219 s220 s221 s222 s223 s224 s225 gA gB gC gP gX W hfacts hB
  obtain ⟨g_A, g_B, g_C, g_P, g_X⟩ := hfacts
  obtain ⟨z_A, z1_A, z2_A, y0_A, y1_A⟩ := Hand.hz g_A
  obtain ⟨c_A_0, f_A_0, c_A_1, f_A_1⟩ := Hand.hc2 g_A
  obtain ⟨z_B, z1_B, z2_B, y0_B, y1_B⟩ := Hand.hz g_B
  obtain ⟨c_B_0, f_B_0, c_B_1, f_B_1⟩ := Hand.hc2 g_B
  obtain ⟨z_C, z1_C, z2_C, y0_C, y1_C⟩ := Hand.hz g_C
  obtain ⟨c_C_0, f_C_0, c_C_1, f_C_1⟩ := Hand.hc2 g_C
  obtain ⟨z_P, z1_P, z2_P, y0_P, y1_P⟩ := Hand.hz g_P
  obtain ⟨c_P_0, f_P_0, c_P_1, f_P_1⟩ := Hand.hc2 g_P
  obtain ⟨z_X, z1_X, z2_X, y0_X, y1_X⟩ := Hand.hz g_X
  obtain ⟨c_X_0, f_X_0, c_X_1, f_X_1⟩ := Hand.hc2 g_X
  have zw : w.heap.size ≤ W.heap.size := hB.size
  have HG := Lib.hid (And.intro g_A (And.intro g_B (And.intro g_C (And.intro g_P (And.intro g_X (hB))))))
  clear g_A g_B g_C g_P g_X hB
  rw [ringsE9]
  refine wp_seq_k (fun K9 hK9 => ?_)
  have HK9 := Lib.hid hK9
  clear hK9
  conv => arg 2; whnf
  go_wp2_with fail
  with_reducible refine (F0.out _).mono ?_
  rintro e w1 ⟨rfl, hb1⟩
  obtain ⟨g_A, g_B, g_C, g_P, g_X, hB⟩ := HG.out
  have h_A : w1.heap[gA]? = some (.cells #[.int .i64 a, .int .i64 b] 24 (0, 0)) := by
    refine Hand.kb hb1 ?_; first | with_reducible exact g_A | (simp (disch := first | omega | (simp only [Hand.sa, Hand.ss, Hand.sd, Hand.sn]; first | done | omega)) only [Hand.q2, Hand.q1, Hand.q5, Hand.q6, Hand.q4, Hand.q3, g_A] <;> rfl)
  have h_B : w1.heap[gB]? = some (.cells #[.int .i64 0, .int .i64 d] 24 (0, 0)) := by
    refine Hand.kb hb1 ?_; first | with_reducible exact g_B | (simp (disch := first | omega | (simp only [Hand.sa, Hand.ss, Hand.sd, Hand.sn]; first | done | omega)) only [Hand.q2, Hand.q1, Hand.q5, Hand.q6, Hand.q4, Hand.q3, g_B] <;> rfl)
  have h_C : w1.heap[gC]? = some (.cells #[.int .i64 e, .int .i64 f] 24 (0, 0)) := by
    refine Hand.kb hb1 ?_; first | with_reducible exact g_C | (simp (disch := first | omega | (simp only [Hand.sa, Hand.ss, Hand.sd, Hand.sn]; first | done | omega)) only [Hand.q2, Hand.q1, Hand.q5, Hand.q6, Hand.q4, Hand.q3, g_C] <;> rfl)
  have h_P : w1.heap[gP]? = some (.cells #[.int .i64 p1, .int .i64 q1] 24 (0, 0)) := by
    refine Hand.kb hb1 ?_; first | with_reducible exact g_P | (simp (disch := first | omega | (simp only [Hand.sa, Hand.ss, Hand.sd, Hand.sn]; first | done | omega)) only [Hand.q2, Hand.q1, Hand.q5, Hand.q6, Hand.q4, Hand.q3, g_P] <;> rfl)
  have h_X : w1.heap[gX]? = some (.cells #[.int .i64 p2, .int .i64 q2] 24 (0, 0)) := by
    refine Hand.kb hb1 ?_; first | with_reducible exact g_X | (simp (disch := first | omega | (simp only [Hand.sa, Hand.ss, Hand.sd, Hand.sn]; first | done | omega)) only [Hand.q2, Hand.q1, Hand.q5, Hand.q6, Hand.q4, Hand.q3, g_X] <;> rfl)
  have hB' : Below w.heap.size w w1 := Hand.stepB hb1 (by repeat (with_reducible first | apply hB | apply Below.drew | apply pw_below_drewN | (apply Below.setCell; rotate_left; (dsimp only; omega)) | (apply Below.alloc; rotate_left; (first | omega | (simp only [Hand.sa, Hand.ss, Hand.sd, Hand.sn]; omega))))) (Nat.le_refl _)
  clear HG hB g_A g_B g_C g_P g_X zw z_A z1_A z2_A y0_A y1_A c_A_0 f_A_0 c_A_1 f_A_1 z_B z1_B z2_B y0_B y1_B c_B_0 f_B_0 c_B_1 f_B_1 z_C z1_C z2_C y0_C y1_C c_C_0 f_C_0 c_C_1 f_C_1 z_P z1_P z2_P y0_P y1_P c_P_0 f_P_0 c_P_1 f_P_1 z_X z1_X z2_X y0_X y1_X c_X_0 f_X_0 c_X_1 f_X_1
  clear hb1
  have g_A := h_A
  have g_B := h_B
  have g_C := h_C
  have g_P := h_P
  have g_X := h_X
  have hB := hB'
  clear hB' h_A h_B h_C h_P h_X
  obtain ⟨z_A, z1_A, z2_A, y0_A, y1_A⟩ := Hand.hz g_A
  obtain ⟨c_A_0, f_A_0, c_A_1, f_A_1⟩ := Hand.hc2 g_A
  obtain ⟨z_B, z1_B, z2_B, y0_B, y1_B⟩ := Hand.hz g_B
  obtain ⟨c_B_0, f_B_0, c_B_1, f_B_1⟩ := Hand.hc2 g_B
  obtain ⟨z_C, z1_C, z2_C, y0_C, y1_C⟩ := Hand.hz g_C
  obtain ⟨c_C_0, f_C_0, c_C_1, f_C_1⟩ := Hand.hc2 g_C
  obtain ⟨z_P, z1_P, z2_P, y0_P, y1_P⟩ := Hand.hz g_P
  obtain ⟨c_P_0, f_P_0, c_P_1, f_P_1⟩ := Hand.hc2 g_P
  obtain ⟨z_X, z1_X, z2_X, y0_X, y1_X⟩ := Hand.hz g_X
  obtain ⟨c_X_0, f_X_0, c_X_1, f_X_1⟩ := Hand.hc2 g_X
  have zw : w.heap.size ≤ w1.heap.size := hB.size
  have HG := Lib.hid (And.intro g_A (And.intro g_B (And.intro g_C (And.intro g_P (And.intro g_X (hB))))))
  clear g_A g_B g_C g_P g_X hB
  go_wp2
  obtain ⟨g_A, g_B, g_C, g_P, g_X, hB⟩ := HG.out
  refine HK9.out _ _ (hN ?_ ?_)
  · repeat' (with_reducible apply And.intro)
    all_goals (repeat (with_reducible first | exact g_A | exact g_B | exact g_C | exact g_P | exact g_X | exact Hand.kn (by first | omega | (simp only [Hand.sa, Hand.ss, Hand.sd, Hand.sn]; first | done | omega)) | refine Hand.ka ?_ | refine Hand.kd ?_ | refine Hand.ks (by first | omega | (simp only [Hand.sa, Hand.ss, Hand.sd, Hand.sn]; first | done | omega)) ?_))
  · repeat (with_reducible first | exact hB | apply Below.drew | (apply Below.setCell; rotate_left; (dsimp only; first | omega | (simp only [Hand.sa, Hand.ss, Hand.sd, Hand.sn]; first | done | omega))) | (apply Below.alloc; rotate_left; (first | omega | (simp only [Hand.sa, Hand.ss, Hand.sd, Hand.sn]; first | done | omega))))
set_option maxHeartbeats 8000000 in
set_option maxRecDepth 100000 in
theorem rings2 (w : World) (a b c d e f p1 q1 p2 q2 r1 : Int)
    (hc1 : (c != 0) = true)
    (hc2 : (c == 0) = false)
    (hN : At10 w a b c d e f p1 q1 p2 q2 r1 0)
    (F0 : RB 33 #[.int .i64 0] true)
    (L : RT 30 #[.agg #[.int .i64 p2, .int .i64 q2], .agg #[.int .i64 c, .int .i64 d]] a b 0)
    (F1 : RB 33 #[.int .i64 0] true)
    (R1 : RB 19 #[.agg #[.int .i64 p2, .int .i64 q2]] true) : At9 w a b c d e f p1 q1 p2 q2 r1 0 := by
  intro s9 s10 s13 s14 s15 s16 s17 s18 s19 s20 s21 s22 s23 s24 s25 s26 s27 s28 s29 s30 s31 s32 s33 s34 s35 s36 s37 s38 s39 s40 s41 s42 s43 s44 s45 s46 s47 s48 s49 s50 s51 s52 s53 s54 s55 s56 s57 s58 s59 s60 s61 s62 s63 s64 s65 s66 s67 s68 s69 s70 s71 s72 s73 s74 s75 s76 s77 s78 s79 s80 s81 s82 s83 s84 s85 s86 s87 s88 s89 s90 s91 s92 s93 s94 s95 s96 s97 s98 s99 s100 s101 s102 s103 s104 s105 s106 s107 s108 s109 s110 s111 s112 s113 s114 s115 s116 s117 s118 s119 s120 s121 s122 s123 s124 s125 s126 s127 s128 s129 s130 s131 s132 s133 s134 s135 s136 s137 s138 s139 s140 s141 s142 s143 s144 s145 s146 s147 s148 s149 s150 s151 s152 s153 s154 s155 s156 s157 s158 s159 s160 s161 s162 s163 s164 s165 s166 s167 s168 s169 s170 s171 s172 s173 s174 s175 s176 s177 s178 s179 s180 s181 s182 s183 s184 s185 s186 s187 s188 s189 s190 s191 s192 s193 s194 s195 s196 s197 s198 s199 s200 s201 s202 s203 s204 s205 s206 s207 s208 s209 s210 s211 s212 s213 s214 s215 s216 s217 s218 s219 s220 s221 s222 s223 s224 s225 gA gB gC gP gX W hfacts hB
  obtain ⟨g_A, g_B, g_C, g_P, g_X⟩ := hfacts
  obtain ⟨z_A, z1_A, z2_A, y0_A, y1_A⟩ := Hand.hz g_A
  obtain ⟨c_A_0, f_A_0, c_A_1, f_A_1⟩ := Hand.hc2 g_A
  obtain ⟨z_B, z1_B, z2_B, y0_B, y1_B⟩ := Hand.hz g_B
  obtain ⟨c_B_0, f_B_0, c_B_1, f_B_1⟩ := Hand.hc2 g_B
  obtain ⟨z_C, z1_C, z2_C, y0_C, y1_C⟩ := Hand.hz g_C
  obtain ⟨c_C_0, f_C_0, c_C_1, f_C_1⟩ := Hand.hc2 g_C
  obtain ⟨z_P, z1_P, z2_P, y0_P, y1_P⟩ := Hand.hz g_P
  obtain ⟨c_P_0, f_P_0, c_P_1, f_P_1⟩ := Hand.hc2 g_P
  obtain ⟨z_X, z1_X, z2_X, y0_X, y1_X⟩ := Hand.hz g_X
  obtain ⟨c_X_0, f_X_0, c_X_1, f_X_1⟩ := Hand.hc2 g_X
  have zw : w.heap.size ≤ W.heap.size := hB.size
  have HG := Lib.hid (And.intro g_A (And.intro g_B (And.intro g_C (And.intro g_P (And.intro g_X (hB))))))
  clear g_A g_B g_C g_P g_X hB
  rw [ringsE9]
  refine wp_seq_k (fun K9 hK9 => ?_)
  have HK9 := Lib.hid hK9
  clear hK9
  conv => arg 2; whnf
  go_wp2_with fail
  with_reducible refine (F0.out _).mono ?_
  rintro e w1 ⟨rfl, hb1⟩
  obtain ⟨g_A, g_B, g_C, g_P, g_X, hB⟩ := HG.out
  have h_A : w1.heap[gA]? = some (.cells #[.int .i64 a, .int .i64 b] 24 (0, 0)) := by
    refine Hand.kb hb1 ?_; first | with_reducible exact g_A | (simp (disch := first | omega | (simp only [Hand.sa, Hand.ss, Hand.sd, Hand.sn]; first | done | omega)) only [Hand.q2, Hand.q1, Hand.q5, Hand.q6, Hand.q4, Hand.q3, g_A] <;> rfl)
  have h_B : w1.heap[gB]? = some (.cells #[.int .i64 c, .int .i64 d] 24 (0, 0)) := by
    refine Hand.kb hb1 ?_; first | with_reducible exact g_B | (simp (disch := first | omega | (simp only [Hand.sa, Hand.ss, Hand.sd, Hand.sn]; first | done | omega)) only [Hand.q2, Hand.q1, Hand.q5, Hand.q6, Hand.q4, Hand.q3, g_B] <;> rfl)
  have h_C : w1.heap[gC]? = some (.cells #[.int .i64 e, .int .i64 f] 24 (0, 0)) := by
    refine Hand.kb hb1 ?_; first | with_reducible exact g_C | (simp (disch := first | omega | (simp only [Hand.sa, Hand.ss, Hand.sd, Hand.sn]; first | done | omega)) only [Hand.q2, Hand.q1, Hand.q5, Hand.q6, Hand.q4, Hand.q3, g_C] <;> rfl)
  have h_P : w1.heap[gP]? = some (.cells #[.int .i64 p1, .int .i64 q1] 24 (0, 0)) := by
    refine Hand.kb hb1 ?_; first | with_reducible exact g_P | (simp (disch := first | omega | (simp only [Hand.sa, Hand.ss, Hand.sd, Hand.sn]; first | done | omega)) only [Hand.q2, Hand.q1, Hand.q5, Hand.q6, Hand.q4, Hand.q3, g_P] <;> rfl)
  have h_X : w1.heap[gX]? = some (.cells #[.int .i64 p2, .int .i64 q2] 24 (0, 0)) := by
    refine Hand.kb hb1 ?_; first | with_reducible exact g_X | (simp (disch := first | omega | (simp only [Hand.sa, Hand.ss, Hand.sd, Hand.sn]; first | done | omega)) only [Hand.q2, Hand.q1, Hand.q5, Hand.q6, Hand.q4, Hand.q3, g_X] <;> rfl)
  have hB' : Below w.heap.size w w1 := Hand.stepB hb1 (by repeat (with_reducible first | apply hB | apply Below.drew | apply pw_below_drewN | (apply Below.setCell; rotate_left; (dsimp only; omega)) | (apply Below.alloc; rotate_left; (first | omega | (simp only [Hand.sa, Hand.ss, Hand.sd, Hand.sn]; omega))))) (Nat.le_refl _)
  clear HG hB g_A g_B g_C g_P g_X zw z_A z1_A z2_A y0_A y1_A c_A_0 f_A_0 c_A_1 f_A_1 z_B z1_B z2_B y0_B y1_B c_B_0 f_B_0 c_B_1 f_B_1 z_C z1_C z2_C y0_C y1_C c_C_0 f_C_0 c_C_1 f_C_1 z_P z1_P z2_P y0_P y1_P c_P_0 f_P_0 c_P_1 f_P_1 z_X z1_X z2_X y0_X y1_X c_X_0 f_X_0 c_X_1 f_X_1
  clear hb1
  have g_A := h_A
  have g_B := h_B
  have g_C := h_C
  have g_P := h_P
  have g_X := h_X
  have hB := hB'
  clear hB' h_A h_B h_C h_P h_X
  obtain ⟨z_A, z1_A, z2_A, y0_A, y1_A⟩ := Hand.hz g_A
  obtain ⟨c_A_0, f_A_0, c_A_1, f_A_1⟩ := Hand.hc2 g_A
  obtain ⟨z_B, z1_B, z2_B, y0_B, y1_B⟩ := Hand.hz g_B
  obtain ⟨c_B_0, f_B_0, c_B_1, f_B_1⟩ := Hand.hc2 g_B
  obtain ⟨z_C, z1_C, z2_C, y0_C, y1_C⟩ := Hand.hz g_C
  obtain ⟨c_C_0, f_C_0, c_C_1, f_C_1⟩ := Hand.hc2 g_C
  obtain ⟨z_P, z1_P, z2_P, y0_P, y1_P⟩ := Hand.hz g_P
  obtain ⟨c_P_0, f_P_0, c_P_1, f_P_1⟩ := Hand.hc2 g_P
  obtain ⟨z_X, z1_X, z2_X, y0_X, y1_X⟩ := Hand.hz g_X
  obtain ⟨c_X_0, f_X_0, c_X_1, f_X_1⟩ := Hand.hc2 g_X
  have zw : w.heap.size ≤ w1.heap.size := hB.size
  have HG := Lib.hid (And.intro g_A (And.intro g_B (And.intro g_C (And.intro g_P (And.intro g_X (hB))))))
  clear g_A g_B g_C g_P g_X hB
  go_wp2_with fail
  with_reducible refine (L.out _).mono ?_
  rintro e w2 ⟨rfl, hb2⟩
  obtain ⟨g_A, g_B, g_C, g_P, g_X, hB⟩ := HG.out
  have h_A : w2.heap[gA]? = some (.cells #[.int .i64 a, .int .i64 b] 24 (0, 0)) := by
    refine Hand.kb hb2 ?_; first | with_reducible exact g_A | (simp (disch := first | omega | (simp only [Hand.sa, Hand.ss, Hand.sd, Hand.sn]; first | done | omega)) only [Hand.q2, Hand.q1, Hand.q5, Hand.q6, Hand.q4, Hand.q3, g_A] <;> rfl)
  have h_B : w2.heap[gB]? = some (.cells #[.int .i64 c, .int .i64 d] 24 (0, 0)) := by
    refine Hand.kb hb2 ?_; first | with_reducible exact g_B | (simp (disch := first | omega | (simp only [Hand.sa, Hand.ss, Hand.sd, Hand.sn]; first | done | omega)) only [Hand.q2, Hand.q1, Hand.q5, Hand.q6, Hand.q4, Hand.q3, g_B] <;> rfl)
  have h_C : w2.heap[gC]? = some (.cells #[.int .i64 e, .int .i64 f] 24 (0, 0)) := by
    refine Hand.kb hb2 ?_; first | with_reducible exact g_C | (simp (disch := first | omega | (simp only [Hand.sa, Hand.ss, Hand.sd, Hand.sn]; first | done | omega)) only [Hand.q2, Hand.q1, Hand.q5, Hand.q6, Hand.q4, Hand.q3, g_C] <;> rfl)
  have h_P : w2.heap[gP]? = some (.cells #[.int .i64 p1, .int .i64 q1] 24 (0, 0)) := by
    refine Hand.kb hb2 ?_; first | with_reducible exact g_P | (simp (disch := first | omega | (simp only [Hand.sa, Hand.ss, Hand.sd, Hand.sn]; first | done | omega)) only [Hand.q2, Hand.q1, Hand.q5, Hand.q6, Hand.q4, Hand.q3, g_P] <;> rfl)
  have h_X : w2.heap[gX]? = some (.cells #[.int .i64 p2, .int .i64 q2] 24 (0, 0)) := by
    refine Hand.kb hb2 ?_; first | with_reducible exact g_X | (simp (disch := first | omega | (simp only [Hand.sa, Hand.ss, Hand.sd, Hand.sn]; first | done | omega)) only [Hand.q2, Hand.q1, Hand.q5, Hand.q6, Hand.q4, Hand.q3, g_X] <;> rfl)
  have hB' : Below w.heap.size w w2 := Hand.stepB hb2 (by repeat (with_reducible first | apply hB | apply Below.drew | apply pw_below_drewN | (apply Below.setCell; rotate_left; (dsimp only; omega)) | (apply Below.alloc; rotate_left; (first | omega | (simp only [Hand.sa, Hand.ss, Hand.sd, Hand.sn]; omega))))) (Nat.le_refl _)
  clear HG hB g_A g_B g_C g_P g_X zw z_A z1_A z2_A y0_A y1_A c_A_0 f_A_0 c_A_1 f_A_1 z_B z1_B z2_B y0_B y1_B c_B_0 f_B_0 c_B_1 f_B_1 z_C z1_C z2_C y0_C y1_C c_C_0 f_C_0 c_C_1 f_C_1 z_P z1_P z2_P y0_P y1_P c_P_0 f_P_0 c_P_1 f_P_1 z_X z1_X z2_X y0_X y1_X c_X_0 f_X_0 c_X_1 f_X_1
  clear hb2
  have g_A := h_A
  have g_B := h_B
  have g_C := h_C
  have g_P := h_P
  have g_X := h_X
  have hB := hB'
  clear hB' h_A h_B h_C h_P h_X
  obtain ⟨z_A, z1_A, z2_A, y0_A, y1_A⟩ := Hand.hz g_A
  obtain ⟨c_A_0, f_A_0, c_A_1, f_A_1⟩ := Hand.hc2 g_A
  obtain ⟨z_B, z1_B, z2_B, y0_B, y1_B⟩ := Hand.hz g_B
  obtain ⟨c_B_0, f_B_0, c_B_1, f_B_1⟩ := Hand.hc2 g_B
  obtain ⟨z_C, z1_C, z2_C, y0_C, y1_C⟩ := Hand.hz g_C
  obtain ⟨c_C_0, f_C_0, c_C_1, f_C_1⟩ := Hand.hc2 g_C
  obtain ⟨z_P, z1_P, z2_P, y0_P, y1_P⟩ := Hand.hz g_P
  obtain ⟨c_P_0, f_P_0, c_P_1, f_P_1⟩ := Hand.hc2 g_P
  obtain ⟨z_X, z1_X, z2_X, y0_X, y1_X⟩ := Hand.hz g_X
  obtain ⟨c_X_0, f_X_0, c_X_1, f_X_1⟩ := Hand.hc2 g_X
  have zw : w.heap.size ≤ w2.heap.size := hB.size
  have HG := Lib.hid (And.intro g_A (And.intro g_B (And.intro g_C (And.intro g_P (And.intro g_X (hB))))))
  clear g_A g_B g_C g_P g_X hB
  go_wp2_with fail
  with_reducible refine (F1.out _).mono ?_
  rintro e w3 ⟨rfl, hb3⟩
  obtain ⟨g_A, g_B, g_C, g_P, g_X, hB⟩ := HG.out
  have h_A : w3.heap[gA]? = some (.cells #[.int .i64 a, .int .i64 b] 24 (0, 0)) := by
    refine Hand.kb hb3 ?_; first | with_reducible exact g_A | (simp (disch := first | omega | (simp only [Hand.sa, Hand.ss, Hand.sd, Hand.sn]; first | done | omega)) only [Hand.q2, Hand.q1, Hand.q5, Hand.q6, Hand.q4, Hand.q3, g_A] <;> rfl)
  have h_B : w3.heap[gB]? = some (.cells #[.int .i64 c, .int .i64 d] 24 (0, 0)) := by
    refine Hand.kb hb3 ?_; first | with_reducible exact g_B | (simp (disch := first | omega | (simp only [Hand.sa, Hand.ss, Hand.sd, Hand.sn]; first | done | omega)) only [Hand.q2, Hand.q1, Hand.q5, Hand.q6, Hand.q4, Hand.q3, g_B] <;> rfl)
  have h_C : w3.heap[gC]? = some (.cells #[.int .i64 e, .int .i64 f] 24 (0, 0)) := by
    refine Hand.kb hb3 ?_; first | with_reducible exact g_C | (simp (disch := first | omega | (simp only [Hand.sa, Hand.ss, Hand.sd, Hand.sn]; first | done | omega)) only [Hand.q2, Hand.q1, Hand.q5, Hand.q6, Hand.q4, Hand.q3, g_C] <;> rfl)
  have h_P : w3.heap[gP]? = some (.cells #[.int .i64 p1, .int .i64 q1] 24 (0, 0)) := by
    refine Hand.kb hb3 ?_; first | with_reducible exact g_P | (simp (disch := first | omega | (simp only [Hand.sa, Hand.ss, Hand.sd, Hand.sn]; first | done | omega)) only [Hand.q2, Hand.q1, Hand.q5, Hand.q6, Hand.q4, Hand.q3, g_P] <;> rfl)
  have h_X : w3.heap[gX]? = some (.cells #[.int .i64 p2, .int .i64 q2] 24 (0, 0)) := by
    refine Hand.kb hb3 ?_; first | with_reducible exact g_X | (simp (disch := first | omega | (simp only [Hand.sa, Hand.ss, Hand.sd, Hand.sn]; first | done | omega)) only [Hand.q2, Hand.q1, Hand.q5, Hand.q6, Hand.q4, Hand.q3, g_X] <;> rfl)
  have h_U : w3.heap[w2.heap.size]? = some (.cells #[.int .i64 a, .int .i64 b] 24 (0, 0)) := by
    refine Hand.kb hb3 ?_; simp (disch := first | omega | (simp only [Hand.sa, Hand.ss, Hand.sd, Hand.sn]; first | done | omega)) only [Hand.q2, Hand.q1, Hand.q5, Hand.q6, Hand.q4, Hand.q3] <;> rfl
  have hB' : Below w.heap.size w w3 := Hand.stepB hb3 (by repeat (with_reducible first | apply hB | apply Below.drew | apply pw_below_drewN | (apply Below.setCell; rotate_left; (dsimp only; omega)) | (apply Below.alloc; rotate_left; (first | omega | (simp only [Hand.sa, Hand.ss, Hand.sd, Hand.sn]; omega))))) (Nat.le_refl _)
  clear HG hB g_A g_B g_C g_P g_X zw z_A z1_A z2_A y0_A y1_A c_A_0 f_A_0 c_A_1 f_A_1 z_B z1_B z2_B y0_B y1_B c_B_0 f_B_0 c_B_1 f_B_1 z_C z1_C z2_C y0_C y1_C c_C_0 f_C_0 c_C_1 f_C_1 z_P z1_P z2_P y0_P y1_P c_P_0 f_P_0 c_P_1 f_P_1 z_X z1_X z2_X y0_X y1_X c_X_0 f_X_0 c_X_1 f_X_1
  clear hb3
  have g_A := h_A
  have g_B := h_B
  have g_C := h_C
  have g_P := h_P
  have g_X := h_X
  have g_U := h_U
  have hB := hB'
  clear hB' h_A h_B h_C h_P h_X h_U
  obtain ⟨z_A, z1_A, z2_A, y0_A, y1_A⟩ := Hand.hz g_A
  obtain ⟨c_A_0, f_A_0, c_A_1, f_A_1⟩ := Hand.hc2 g_A
  obtain ⟨z_B, z1_B, z2_B, y0_B, y1_B⟩ := Hand.hz g_B
  obtain ⟨c_B_0, f_B_0, c_B_1, f_B_1⟩ := Hand.hc2 g_B
  obtain ⟨z_C, z1_C, z2_C, y0_C, y1_C⟩ := Hand.hz g_C
  obtain ⟨c_C_0, f_C_0, c_C_1, f_C_1⟩ := Hand.hc2 g_C
  obtain ⟨z_P, z1_P, z2_P, y0_P, y1_P⟩ := Hand.hz g_P
  obtain ⟨c_P_0, f_P_0, c_P_1, f_P_1⟩ := Hand.hc2 g_P
  obtain ⟨z_X, z1_X, z2_X, y0_X, y1_X⟩ := Hand.hz g_X
  obtain ⟨c_X_0, f_X_0, c_X_1, f_X_1⟩ := Hand.hc2 g_X
  obtain ⟨z_U, z1_U, z2_U, y0_U, y1_U⟩ := Hand.hz g_U
  obtain ⟨c_U_0, f_U_0, c_U_1, f_U_1⟩ := Hand.hc2 g_U
  have zw : w.heap.size ≤ w3.heap.size := hB.size
  have HG := Lib.hid (And.intro g_A (And.intro g_B (And.intro g_C (And.intro g_P (And.intro g_X (And.intro g_U (hB)))))))
  clear g_A g_B g_C g_P g_X g_U hB
  go_wp2_with fail
  with_reducible refine (R1.out _).mono ?_
  rintro e w4 ⟨rfl, hb4⟩
  obtain ⟨g_A, g_B, g_C, g_P, g_X, g_U, hB⟩ := HG.out
  have h_A : w4.heap[gA]? = some (.cells #[.int .i64 a, .int .i64 b] 24 (0, 0)) := by
    refine Hand.kb hb4 ?_; first | with_reducible exact g_A | (simp (disch := first | omega | (simp only [Hand.sa, Hand.ss, Hand.sd, Hand.sn]; first | done | omega)) only [Hand.q2, Hand.q1, Hand.q5, Hand.q6, Hand.q4, Hand.q3, g_A] <;> rfl)
  have h_B : w4.heap[gB]? = some (.cells #[.int .i64 c, .int .i64 d] 24 (0, 0)) := by
    refine Hand.kb hb4 ?_; first | with_reducible exact g_B | (simp (disch := first | omega | (simp only [Hand.sa, Hand.ss, Hand.sd, Hand.sn]; first | done | omega)) only [Hand.q2, Hand.q1, Hand.q5, Hand.q6, Hand.q4, Hand.q3, g_B] <;> rfl)
  have h_C : w4.heap[gC]? = some (.cells #[.int .i64 e, .int .i64 f] 24 (0, 0)) := by
    refine Hand.kb hb4 ?_; first | with_reducible exact g_C | (simp (disch := first | omega | (simp only [Hand.sa, Hand.ss, Hand.sd, Hand.sn]; first | done | omega)) only [Hand.q2, Hand.q1, Hand.q5, Hand.q6, Hand.q4, Hand.q3, g_C] <;> rfl)
  have h_P : w4.heap[gP]? = some (.cells #[.int .i64 p1, .int .i64 q1] 24 (0, 0)) := by
    refine Hand.kb hb4 ?_; first | with_reducible exact g_P | (simp (disch := first | omega | (simp only [Hand.sa, Hand.ss, Hand.sd, Hand.sn]; first | done | omega)) only [Hand.q2, Hand.q1, Hand.q5, Hand.q6, Hand.q4, Hand.q3, g_P] <;> rfl)
  have h_X : w4.heap[gX]? = some (.cells #[.int .i64 p2, .int .i64 q2] 24 (0, 0)) := by
    refine Hand.kb hb4 ?_; first | with_reducible exact g_X | (simp (disch := first | omega | (simp only [Hand.sa, Hand.ss, Hand.sd, Hand.sn]; first | done | omega)) only [Hand.q2, Hand.q1, Hand.q5, Hand.q6, Hand.q4, Hand.q3, g_X] <;> rfl)
  have h_U : w4.heap[w2.heap.size]? = some (.cells #[.int .i64 a, .int .i64 b] 24 (0, 0)) := by
    refine Hand.kb hb4 ?_; first | with_reducible exact g_U | (simp (disch := first | omega | (simp only [Hand.sa, Hand.ss, Hand.sd, Hand.sn]; first | done | omega)) only [Hand.q2, Hand.q1, Hand.q5, Hand.q6, Hand.q4, Hand.q3, g_U] <;> rfl)
  have hB' : Below w.heap.size w w4 := Hand.stepB hb4 (by repeat (with_reducible first | apply hB | apply Below.drew | apply pw_below_drewN | (apply Below.setCell; rotate_left; (dsimp only; omega)) | (apply Below.alloc; rotate_left; (first | omega | (simp only [Hand.sa, Hand.ss, Hand.sd, Hand.sn]; omega))))) (Nat.le_refl _)
  clear HG hB g_A g_B g_C g_P g_X g_U zw z_A z1_A z2_A y0_A y1_A c_A_0 f_A_0 c_A_1 f_A_1 z_B z1_B z2_B y0_B y1_B c_B_0 f_B_0 c_B_1 f_B_1 z_C z1_C z2_C y0_C y1_C c_C_0 f_C_0 c_C_1 f_C_1 z_P z1_P z2_P y0_P y1_P c_P_0 f_P_0 c_P_1 f_P_1 z_X z1_X z2_X y0_X y1_X c_X_0 f_X_0 c_X_1 f_X_1 z_U z1_U z2_U y0_U y1_U c_U_0 f_U_0 c_U_1 f_U_1
  clear hb4
  have g_A := h_A
  have g_B := h_B
  have g_C := h_C
  have g_P := h_P
  have g_X := h_X
  have g_U := h_U
  have hB := hB'
  clear hB' h_A h_B h_C h_P h_X h_U
  obtain ⟨z_A, z1_A, z2_A, y0_A, y1_A⟩ := Hand.hz g_A
  obtain ⟨c_A_0, f_A_0, c_A_1, f_A_1⟩ := Hand.hc2 g_A
  obtain ⟨z_B, z1_B, z2_B, y0_B, y1_B⟩ := Hand.hz g_B
  obtain ⟨c_B_0, f_B_0, c_B_1, f_B_1⟩ := Hand.hc2 g_B
  obtain ⟨z_C, z1_C, z2_C, y0_C, y1_C⟩ := Hand.hz g_C
  obtain ⟨c_C_0, f_C_0, c_C_1, f_C_1⟩ := Hand.hc2 g_C
  obtain ⟨z_P, z1_P, z2_P, y0_P, y1_P⟩ := Hand.hz g_P
  obtain ⟨c_P_0, f_P_0, c_P_1, f_P_1⟩ := Hand.hc2 g_P
  obtain ⟨z_X, z1_X, z2_X, y0_X, y1_X⟩ := Hand.hz g_X
  obtain ⟨c_X_0, f_X_0, c_X_1, f_X_1⟩ := Hand.hc2 g_X
  obtain ⟨z_U, z1_U, z2_U, y0_U, y1_U⟩ := Hand.hz g_U
  obtain ⟨c_U_0, f_U_0, c_U_1, f_U_1⟩ := Hand.hc2 g_U
  have zw : w.heap.size ≤ w4.heap.size := hB.size
  have HG := Lib.hid (And.intro g_A (And.intro g_B (And.intro g_C (And.intro g_P (And.intro g_X (And.intro g_U (hB)))))))
  clear g_A g_B g_C g_P g_X g_U hB
  go_wp2
  obtain ⟨g_A, g_B, g_C, g_P, g_X, g_U, hB⟩ := HG.out
  refine HK9.out _ _ (hN ?_ ?_)
  · repeat' (with_reducible apply And.intro)
    all_goals (repeat (with_reducible first | exact g_A | exact g_B | exact g_C | exact g_P | exact g_X | exact Hand.kn (by first | omega | (simp only [Hand.sa, Hand.ss, Hand.sd, Hand.sn]; first | done | omega)) | refine Hand.ka ?_ | refine Hand.kd ?_ | refine Hand.ks (by first | omega | (simp only [Hand.sa, Hand.ss, Hand.sd, Hand.sn]; first | done | omega)) ?_))
  · repeat (with_reducible first | exact hB | apply Below.drew | (apply Below.setCell; rotate_left; (dsimp only; first | omega | (simp only [Hand.sa, Hand.ss, Hand.sd, Hand.sn]; first | done | omega))) | (apply Below.alloc; rotate_left; (first | omega | (simp only [Hand.sa, Hand.ss, Hand.sd, Hand.sn]; first | done | omega))))
set_option maxHeartbeats 8000000 in
set_option maxRecDepth 100000 in
theorem rings1_e (w : World) (a b c d e f p1 q1 p2 q2 r1 r2 : Int)
    (hN : At9 w a b c d e f p1 q1 p2 q2 r1 r2)
    (F0 : RB 33 #[.int .i64 r1] false) : At8 w a b c d e f p1 q1 p2 q2 r1 r2 := by
  intro s9 s10 s13 s14 s15 s16 s17 s18 s19 s20 s21 s22 s23 s24 s25 s26 s27 s28 s29 s30 s31 s32 s33 s34 s35 s36 s37 s38 s39 s40 s41 s42 s43 s44 s45 s46 s47 s48 s49 s50 s51 s52 s53 s54 s55 s56 s57 s58 s59 s60 s61 s62 s63 s64 s65 s66 s67 s68 s69 s70 s71 s72 s73 s74 s75 s76 s77 s78 s79 s80 s81 s82 s83 s84 s85 s86 s87 s88 s89 s90 s91 s92 s93 s94 s95 s96 s97 s98 s99 s100 s101 s102 s103 s104 s105 s106 s107 s108 s109 s110 s111 s112 s113 s114 s115 s116 s117 s118 s119 s120 s121 s122 s123 s124 s125 s126 s127 s128 s129 s130 s131 s132 s133 s134 s135 s136 s137 s138 s139 s140 s141 s142 s143 s144 s145 s146 s147 s148 s149 s150 s151 s152 s153 s154 s155 s156 s157 s158 s159 s160 s161 s162 s163 s164 s165 s166 s167 s168 s169 s170 s171 s172 s173 s174 s175 s176 s177 s178 s179 s180 s181 s182 s183 s184 s185 s186 s187 s188 s189 s190 s191 s192 s193 s194 s195 s196 s197 s198 s199 s200 s201 s202 s203 s204 s205 s206 s207 s208 s209 s210 s211 s212 s213 s214 s215 s216 s217 s218 s219 s220 s221 s222 s223 s224 s225 gA gB gC gP gX W hfacts hB
  obtain ⟨g_A, g_B, g_C, g_P, g_X⟩ := hfacts
  obtain ⟨z_A, z1_A, z2_A, y0_A, y1_A⟩ := Hand.hz g_A
  obtain ⟨c_A_0, f_A_0, c_A_1, f_A_1⟩ := Hand.hc2 g_A
  obtain ⟨z_B, z1_B, z2_B, y0_B, y1_B⟩ := Hand.hz g_B
  obtain ⟨c_B_0, f_B_0, c_B_1, f_B_1⟩ := Hand.hc2 g_B
  obtain ⟨z_C, z1_C, z2_C, y0_C, y1_C⟩ := Hand.hz g_C
  obtain ⟨c_C_0, f_C_0, c_C_1, f_C_1⟩ := Hand.hc2 g_C
  obtain ⟨z_P, z1_P, z2_P, y0_P, y1_P⟩ := Hand.hz g_P
  obtain ⟨c_P_0, f_P_0, c_P_1, f_P_1⟩ := Hand.hc2 g_P
  obtain ⟨z_X, z1_X, z2_X, y0_X, y1_X⟩ := Hand.hz g_X
  obtain ⟨c_X_0, f_X_0, c_X_1, f_X_1⟩ := Hand.hc2 g_X
  have zw : w.heap.size ≤ W.heap.size := hB.size
  have HG := Lib.hid (And.intro g_A (And.intro g_B (And.intro g_C (And.intro g_P (And.intro g_X (hB))))))
  clear g_A g_B g_C g_P g_X hB
  rw [ringsE8]
  refine wp_seq_k (fun K8 hK8 => ?_)
  have HK8 := Lib.hid hK8
  clear hK8
  conv => arg 2; whnf
  go_wp2_with fail
  with_reducible refine (F0.out _).mono ?_
  rintro e w1 ⟨rfl, hb1⟩
  obtain ⟨g_A, g_B, g_C, g_P, g_X, hB⟩ := HG.out
  have h_A : w1.heap[gA]? = some (.cells #[.int .i64 a, .int .i64 b] 24 (0, 0)) := by
    refine Hand.kb hb1 ?_; first | with_reducible exact g_A | (simp (disch := first | omega | (simp only [Hand.sa, Hand.ss, Hand.sd, Hand.sn]; first | done | omega)) only [Hand.q2, Hand.q1, Hand.q5, Hand.q6, Hand.q4, Hand.q3, g_A] <;> rfl)
  have h_B : w1.heap[gB]? = some (.cells #[.int .i64 c, .int .i64 d] 24 (0, 0)) := by
    refine Hand.kb hb1 ?_; first | with_reducible exact g_B | (simp (disch := first | omega | (simp only [Hand.sa, Hand.ss, Hand.sd, Hand.sn]; first | done | omega)) only [Hand.q2, Hand.q1, Hand.q5, Hand.q6, Hand.q4, Hand.q3, g_B] <;> rfl)
  have h_C : w1.heap[gC]? = some (.cells #[.int .i64 e, .int .i64 f] 24 (0, 0)) := by
    refine Hand.kb hb1 ?_; first | with_reducible exact g_C | (simp (disch := first | omega | (simp only [Hand.sa, Hand.ss, Hand.sd, Hand.sn]; first | done | omega)) only [Hand.q2, Hand.q1, Hand.q5, Hand.q6, Hand.q4, Hand.q3, g_C] <;> rfl)
  have h_P : w1.heap[gP]? = some (.cells #[.int .i64 p1, .int .i64 q1] 24 (0, 0)) := by
    refine Hand.kb hb1 ?_; first | with_reducible exact g_P | (simp (disch := first | omega | (simp only [Hand.sa, Hand.ss, Hand.sd, Hand.sn]; first | done | omega)) only [Hand.q2, Hand.q1, Hand.q5, Hand.q6, Hand.q4, Hand.q3, g_P] <;> rfl)
  have h_X : w1.heap[gX]? = some (.cells #[.int .i64 p2, .int .i64 q2] 24 (0, 0)) := by
    refine Hand.kb hb1 ?_; first | with_reducible exact g_X | (simp (disch := first | omega | (simp only [Hand.sa, Hand.ss, Hand.sd, Hand.sn]; first | done | omega)) only [Hand.q2, Hand.q1, Hand.q5, Hand.q6, Hand.q4, Hand.q3, g_X] <;> rfl)
  have hB' : Below w.heap.size w w1 := Hand.stepB hb1 (by repeat (with_reducible first | apply hB | apply Below.drew | apply pw_below_drewN | (apply Below.setCell; rotate_left; (dsimp only; omega)) | (apply Below.alloc; rotate_left; (first | omega | (simp only [Hand.sa, Hand.ss, Hand.sd, Hand.sn]; omega))))) (Nat.le_refl _)
  clear HG hB g_A g_B g_C g_P g_X zw z_A z1_A z2_A y0_A y1_A c_A_0 f_A_0 c_A_1 f_A_1 z_B z1_B z2_B y0_B y1_B c_B_0 f_B_0 c_B_1 f_B_1 z_C z1_C z2_C y0_C y1_C c_C_0 f_C_0 c_C_1 f_C_1 z_P z1_P z2_P y0_P y1_P c_P_0 f_P_0 c_P_1 f_P_1 z_X z1_X z2_X y0_X y1_X c_X_0 f_X_0 c_X_1 f_X_1
  clear hb1
  have g_A := h_A
  have g_B := h_B
  have g_C := h_C
  have g_P := h_P
  have g_X := h_X
  have hB := hB'
  clear hB' h_A h_B h_C h_P h_X
  obtain ⟨z_A, z1_A, z2_A, y0_A, y1_A⟩ := Hand.hz g_A
  obtain ⟨c_A_0, f_A_0, c_A_1, f_A_1⟩ := Hand.hc2 g_A
  obtain ⟨z_B, z1_B, z2_B, y0_B, y1_B⟩ := Hand.hz g_B
  obtain ⟨c_B_0, f_B_0, c_B_1, f_B_1⟩ := Hand.hc2 g_B
  obtain ⟨z_C, z1_C, z2_C, y0_C, y1_C⟩ := Hand.hz g_C
  obtain ⟨c_C_0, f_C_0, c_C_1, f_C_1⟩ := Hand.hc2 g_C
  obtain ⟨z_P, z1_P, z2_P, y0_P, y1_P⟩ := Hand.hz g_P
  obtain ⟨c_P_0, f_P_0, c_P_1, f_P_1⟩ := Hand.hc2 g_P
  obtain ⟨z_X, z1_X, z2_X, y0_X, y1_X⟩ := Hand.hz g_X
  obtain ⟨c_X_0, f_X_0, c_X_1, f_X_1⟩ := Hand.hc2 g_X
  have zw : w.heap.size ≤ w1.heap.size := hB.size
  have HG := Lib.hid (And.intro g_A (And.intro g_B (And.intro g_C (And.intro g_P (And.intro g_X (hB))))))
  clear g_A g_B g_C g_P g_X hB
  go_wp2
  obtain ⟨g_A, g_B, g_C, g_P, g_X, hB⟩ := HG.out
  refine HK8.out _ _ (hN ?_ ?_)
  · repeat' (with_reducible apply And.intro)
    all_goals (repeat (with_reducible first | exact g_A | exact g_B | exact g_C | exact g_P | exact g_X | exact Hand.kn (by first | omega | (simp only [Hand.sa, Hand.ss, Hand.sd, Hand.sn]; first | done | omega)) | refine Hand.ka ?_ | refine Hand.kd ?_ | refine Hand.ks (by first | omega | (simp only [Hand.sa, Hand.ss, Hand.sd, Hand.sn]; first | done | omega)) ?_))
  · repeat (with_reducible first | exact hB | apply Below.drew | (apply Below.setCell; rotate_left; (dsimp only; first | omega | (simp only [Hand.sa, Hand.ss, Hand.sd, Hand.sn]; first | done | omega))) | (apply Below.alloc; rotate_left; (first | omega | (simp only [Hand.sa, Hand.ss, Hand.sd, Hand.sn]; first | done | omega))))
set_option maxHeartbeats 8000000 in
set_option maxRecDepth 100000 in
theorem rings1 (w : World) (a b c d e f p1 q1 p2 q2 r2 : Int)
    (hN : At9 w a b c d e f p1 q1 p2 q2 0 r2)
    (F0 : RB 33 #[.int .i64 0] true)
    (L : RT 24 #[.agg #[.int .i64 p1, .int .i64 q1], .agg #[.int .i64 c, .int .i64 d]] a b 0)
    (F1 : RB 33 #[.int .i64 0] true)
    (R1 : RB 19 #[.agg #[.int .i64 p1, .int .i64 q1]] true) : At8 w a b c d e f p1 q1 p2 q2 0 r2 := by
  intro s9 s10 s13 s14 s15 s16 s17 s18 s19 s20 s21 s22 s23 s24 s25 s26 s27 s28 s29 s30 s31 s32 s33 s34 s35 s36 s37 s38 s39 s40 s41 s42 s43 s44 s45 s46 s47 s48 s49 s50 s51 s52 s53 s54 s55 s56 s57 s58 s59 s60 s61 s62 s63 s64 s65 s66 s67 s68 s69 s70 s71 s72 s73 s74 s75 s76 s77 s78 s79 s80 s81 s82 s83 s84 s85 s86 s87 s88 s89 s90 s91 s92 s93 s94 s95 s96 s97 s98 s99 s100 s101 s102 s103 s104 s105 s106 s107 s108 s109 s110 s111 s112 s113 s114 s115 s116 s117 s118 s119 s120 s121 s122 s123 s124 s125 s126 s127 s128 s129 s130 s131 s132 s133 s134 s135 s136 s137 s138 s139 s140 s141 s142 s143 s144 s145 s146 s147 s148 s149 s150 s151 s152 s153 s154 s155 s156 s157 s158 s159 s160 s161 s162 s163 s164 s165 s166 s167 s168 s169 s170 s171 s172 s173 s174 s175 s176 s177 s178 s179 s180 s181 s182 s183 s184 s185 s186 s187 s188 s189 s190 s191 s192 s193 s194 s195 s196 s197 s198 s199 s200 s201 s202 s203 s204 s205 s206 s207 s208 s209 s210 s211 s212 s213 s214 s215 s216 s217 s218 s219 s220 s221 s222 s223 s224 s225 gA gB gC gP gX W hfacts hB
  obtain ⟨g_A, g_B, g_C, g_P, g_X⟩ := hfacts
  obtain ⟨z_A, z1_A, z2_A, y0_A, y1_A⟩ := Hand.hz g_A
  obtain ⟨c_A_0, f_A_0, c_A_1, f_A_1⟩ := Hand.hc2 g_A
  obtain ⟨z_B, z1_B, z2_B, y0_B, y1_B⟩ := Hand.hz g_B
  obtain ⟨c_B_0, f_B_0, c_B_1, f_B_1⟩ := Hand.hc2 g_B
  obtain ⟨z_C, z1_C, z2_C, y0_C, y1_C⟩ := Hand.hz g_C
  obtain ⟨c_C_0, f_C_0, c_C_1, f_C_1⟩ := Hand.hc2 g_C
  obtain ⟨z_P, z1_P, z2_P, y0_P, y1_P⟩ := Hand.hz g_P
  obtain ⟨c_P_0, f_P_0, c_P_1, f_P_1⟩ := Hand.hc2 g_P
  obtain ⟨z_X, z1_X, z2_X, y0_X, y1_X⟩ := Hand.hz g_X
  obtain ⟨c_X_0, f_X_0, c_X_1, f_X_1⟩ := Hand.hc2 g_X
  have zw : w.heap.size ≤ W.heap.size := hB.size
  have HG := Lib.hid (And.intro g_A (And.intro g_B (And.intro g_C (And.intro g_P (And.intro g_X (hB))))))
  clear g_A g_B g_C g_P g_X hB
  rw [ringsE8]
  refine wp_seq_k (fun K8 hK8 => ?_)
  have HK8 := Lib.hid hK8
  clear hK8
  conv => arg 2; whnf
  go_wp2_with fail
  with_reducible refine (F0.out _).mono ?_
  rintro e w1 ⟨rfl, hb1⟩
  obtain ⟨g_A, g_B, g_C, g_P, g_X, hB⟩ := HG.out
  have h_A : w1.heap[gA]? = some (.cells #[.int .i64 a, .int .i64 b] 24 (0, 0)) := by
    refine Hand.kb hb1 ?_; first | with_reducible exact g_A | (simp (disch := first | omega | (simp only [Hand.sa, Hand.ss, Hand.sd, Hand.sn]; first | done | omega)) only [Hand.q2, Hand.q1, Hand.q5, Hand.q6, Hand.q4, Hand.q3, g_A] <;> rfl)
  have h_B : w1.heap[gB]? = some (.cells #[.int .i64 c, .int .i64 d] 24 (0, 0)) := by
    refine Hand.kb hb1 ?_; first | with_reducible exact g_B | (simp (disch := first | omega | (simp only [Hand.sa, Hand.ss, Hand.sd, Hand.sn]; first | done | omega)) only [Hand.q2, Hand.q1, Hand.q5, Hand.q6, Hand.q4, Hand.q3, g_B] <;> rfl)
  have h_C : w1.heap[gC]? = some (.cells #[.int .i64 e, .int .i64 f] 24 (0, 0)) := by
    refine Hand.kb hb1 ?_; first | with_reducible exact g_C | (simp (disch := first | omega | (simp only [Hand.sa, Hand.ss, Hand.sd, Hand.sn]; first | done | omega)) only [Hand.q2, Hand.q1, Hand.q5, Hand.q6, Hand.q4, Hand.q3, g_C] <;> rfl)
  have h_P : w1.heap[gP]? = some (.cells #[.int .i64 p1, .int .i64 q1] 24 (0, 0)) := by
    refine Hand.kb hb1 ?_; first | with_reducible exact g_P | (simp (disch := first | omega | (simp only [Hand.sa, Hand.ss, Hand.sd, Hand.sn]; first | done | omega)) only [Hand.q2, Hand.q1, Hand.q5, Hand.q6, Hand.q4, Hand.q3, g_P] <;> rfl)
  have h_X : w1.heap[gX]? = some (.cells #[.int .i64 p2, .int .i64 q2] 24 (0, 0)) := by
    refine Hand.kb hb1 ?_; first | with_reducible exact g_X | (simp (disch := first | omega | (simp only [Hand.sa, Hand.ss, Hand.sd, Hand.sn]; first | done | omega)) only [Hand.q2, Hand.q1, Hand.q5, Hand.q6, Hand.q4, Hand.q3, g_X] <;> rfl)
  have hB' : Below w.heap.size w w1 := Hand.stepB hb1 (by repeat (with_reducible first | apply hB | apply Below.drew | apply pw_below_drewN | (apply Below.setCell; rotate_left; (dsimp only; omega)) | (apply Below.alloc; rotate_left; (first | omega | (simp only [Hand.sa, Hand.ss, Hand.sd, Hand.sn]; omega))))) (Nat.le_refl _)
  clear HG hB g_A g_B g_C g_P g_X zw z_A z1_A z2_A y0_A y1_A c_A_0 f_A_0 c_A_1 f_A_1 z_B z1_B z2_B y0_B y1_B c_B_0 f_B_0 c_B_1 f_B_1 z_C z1_C z2_C y0_C y1_C c_C_0 f_C_0 c_C_1 f_C_1 z_P z1_P z2_P y0_P y1_P c_P_0 f_P_0 c_P_1 f_P_1 z_X z1_X z2_X y0_X y1_X c_X_0 f_X_0 c_X_1 f_X_1
  clear hb1
  have g_A := h_A
  have g_B := h_B
  have g_C := h_C
  have g_P := h_P
  have g_X := h_X
  have hB := hB'
  clear hB' h_A h_B h_C h_P h_X
  obtain ⟨z_A, z1_A, z2_A, y0_A, y1_A⟩ := Hand.hz g_A
  obtain ⟨c_A_0, f_A_0, c_A_1, f_A_1⟩ := Hand.hc2 g_A
  obtain ⟨z_B, z1_B, z2_B, y0_B, y1_B⟩ := Hand.hz g_B
  obtain ⟨c_B_0, f_B_0, c_B_1, f_B_1⟩ := Hand.hc2 g_B
  obtain ⟨z_C, z1_C, z2_C, y0_C, y1_C⟩ := Hand.hz g_C
  obtain ⟨c_C_0, f_C_0, c_C_1, f_C_1⟩ := Hand.hc2 g_C
  obtain ⟨z_P, z1_P, z2_P, y0_P, y1_P⟩ := Hand.hz g_P
  obtain ⟨c_P_0, f_P_0, c_P_1, f_P_1⟩ := Hand.hc2 g_P
  obtain ⟨z_X, z1_X, z2_X, y0_X, y1_X⟩ := Hand.hz g_X
  obtain ⟨c_X_0, f_X_0, c_X_1, f_X_1⟩ := Hand.hc2 g_X
  have zw : w.heap.size ≤ w1.heap.size := hB.size
  have HG := Lib.hid (And.intro g_A (And.intro g_B (And.intro g_C (And.intro g_P (And.intro g_X (hB))))))
  clear g_A g_B g_C g_P g_X hB
  go_wp2_with fail
  with_reducible refine (L.out _).mono ?_
  rintro e w2 ⟨rfl, hb2⟩
  obtain ⟨g_A, g_B, g_C, g_P, g_X, hB⟩ := HG.out
  have h_A : w2.heap[gA]? = some (.cells #[.int .i64 a, .int .i64 b] 24 (0, 0)) := by
    refine Hand.kb hb2 ?_; first | with_reducible exact g_A | (simp (disch := first | omega | (simp only [Hand.sa, Hand.ss, Hand.sd, Hand.sn]; first | done | omega)) only [Hand.q2, Hand.q1, Hand.q5, Hand.q6, Hand.q4, Hand.q3, g_A] <;> rfl)
  have h_B : w2.heap[gB]? = some (.cells #[.int .i64 c, .int .i64 d] 24 (0, 0)) := by
    refine Hand.kb hb2 ?_; first | with_reducible exact g_B | (simp (disch := first | omega | (simp only [Hand.sa, Hand.ss, Hand.sd, Hand.sn]; first | done | omega)) only [Hand.q2, Hand.q1, Hand.q5, Hand.q6, Hand.q4, Hand.q3, g_B] <;> rfl)
  have h_C : w2.heap[gC]? = some (.cells #[.int .i64 e, .int .i64 f] 24 (0, 0)) := by
    refine Hand.kb hb2 ?_; first | with_reducible exact g_C | (simp (disch := first | omega | (simp only [Hand.sa, Hand.ss, Hand.sd, Hand.sn]; first | done | omega)) only [Hand.q2, Hand.q1, Hand.q5, Hand.q6, Hand.q4, Hand.q3, g_C] <;> rfl)
  have h_P : w2.heap[gP]? = some (.cells #[.int .i64 p1, .int .i64 q1] 24 (0, 0)) := by
    refine Hand.kb hb2 ?_; first | with_reducible exact g_P | (simp (disch := first | omega | (simp only [Hand.sa, Hand.ss, Hand.sd, Hand.sn]; first | done | omega)) only [Hand.q2, Hand.q1, Hand.q5, Hand.q6, Hand.q4, Hand.q3, g_P] <;> rfl)
  have h_X : w2.heap[gX]? = some (.cells #[.int .i64 p2, .int .i64 q2] 24 (0, 0)) := by
    refine Hand.kb hb2 ?_; first | with_reducible exact g_X | (simp (disch := first | omega | (simp only [Hand.sa, Hand.ss, Hand.sd, Hand.sn]; first | done | omega)) only [Hand.q2, Hand.q1, Hand.q5, Hand.q6, Hand.q4, Hand.q3, g_X] <;> rfl)
  have hB' : Below w.heap.size w w2 := Hand.stepB hb2 (by repeat (with_reducible first | apply hB | apply Below.drew | apply pw_below_drewN | (apply Below.setCell; rotate_left; (dsimp only; omega)) | (apply Below.alloc; rotate_left; (first | omega | (simp only [Hand.sa, Hand.ss, Hand.sd, Hand.sn]; omega))))) (Nat.le_refl _)
  clear HG hB g_A g_B g_C g_P g_X zw z_A z1_A z2_A y0_A y1_A c_A_0 f_A_0 c_A_1 f_A_1 z_B z1_B z2_B y0_B y1_B c_B_0 f_B_0 c_B_1 f_B_1 z_C z1_C z2_C y0_C y1_C c_C_0 f_C_0 c_C_1 f_C_1 z_P z1_P z2_P y0_P y1_P c_P_0 f_P_0 c_P_1 f_P_1 z_X z1_X z2_X y0_X y1_X c_X_0 f_X_0 c_X_1 f_X_1
  clear hb2
  have g_A := h_A
  have g_B := h_B
  have g_C := h_C
  have g_P := h_P
  have g_X := h_X
  have hB := hB'
  clear hB' h_A h_B h_C h_P h_X
  obtain ⟨z_A, z1_A, z2_A, y0_A, y1_A⟩ := Hand.hz g_A
  obtain ⟨c_A_0, f_A_0, c_A_1, f_A_1⟩ := Hand.hc2 g_A
  obtain ⟨z_B, z1_B, z2_B, y0_B, y1_B⟩ := Hand.hz g_B
  obtain ⟨c_B_0, f_B_0, c_B_1, f_B_1⟩ := Hand.hc2 g_B
  obtain ⟨z_C, z1_C, z2_C, y0_C, y1_C⟩ := Hand.hz g_C
  obtain ⟨c_C_0, f_C_0, c_C_1, f_C_1⟩ := Hand.hc2 g_C
  obtain ⟨z_P, z1_P, z2_P, y0_P, y1_P⟩ := Hand.hz g_P
  obtain ⟨c_P_0, f_P_0, c_P_1, f_P_1⟩ := Hand.hc2 g_P
  obtain ⟨z_X, z1_X, z2_X, y0_X, y1_X⟩ := Hand.hz g_X
  obtain ⟨c_X_0, f_X_0, c_X_1, f_X_1⟩ := Hand.hc2 g_X
  have zw : w.heap.size ≤ w2.heap.size := hB.size
  have HG := Lib.hid (And.intro g_A (And.intro g_B (And.intro g_C (And.intro g_P (And.intro g_X (hB))))))
  clear g_A g_B g_C g_P g_X hB
  go_wp2_with fail
  with_reducible refine (F1.out _).mono ?_
  rintro e w3 ⟨rfl, hb3⟩
  obtain ⟨g_A, g_B, g_C, g_P, g_X, hB⟩ := HG.out
  have h_A : w3.heap[gA]? = some (.cells #[.int .i64 a, .int .i64 b] 24 (0, 0)) := by
    refine Hand.kb hb3 ?_; first | with_reducible exact g_A | (simp (disch := first | omega | (simp only [Hand.sa, Hand.ss, Hand.sd, Hand.sn]; first | done | omega)) only [Hand.q2, Hand.q1, Hand.q5, Hand.q6, Hand.q4, Hand.q3, g_A] <;> rfl)
  have h_B : w3.heap[gB]? = some (.cells #[.int .i64 c, .int .i64 d] 24 (0, 0)) := by
    refine Hand.kb hb3 ?_; first | with_reducible exact g_B | (simp (disch := first | omega | (simp only [Hand.sa, Hand.ss, Hand.sd, Hand.sn]; first | done | omega)) only [Hand.q2, Hand.q1, Hand.q5, Hand.q6, Hand.q4, Hand.q3, g_B] <;> rfl)
  have h_C : w3.heap[gC]? = some (.cells #[.int .i64 e, .int .i64 f] 24 (0, 0)) := by
    refine Hand.kb hb3 ?_; first | with_reducible exact g_C | (simp (disch := first | omega | (simp only [Hand.sa, Hand.ss, Hand.sd, Hand.sn]; first | done | omega)) only [Hand.q2, Hand.q1, Hand.q5, Hand.q6, Hand.q4, Hand.q3, g_C] <;> rfl)
  have h_P : w3.heap[gP]? = some (.cells #[.int .i64 p1, .int .i64 q1] 24 (0, 0)) := by
    refine Hand.kb hb3 ?_; first | with_reducible exact g_P | (simp (disch := first | omega | (simp only [Hand.sa, Hand.ss, Hand.sd, Hand.sn]; first | done | omega)) only [Hand.q2, Hand.q1, Hand.q5, Hand.q6, Hand.q4, Hand.q3, g_P] <;> rfl)
  have h_X : w3.heap[gX]? = some (.cells #[.int .i64 p2, .int .i64 q2] 24 (0, 0)) := by
    refine Hand.kb hb3 ?_; first | with_reducible exact g_X | (simp (disch := first | omega | (simp only [Hand.sa, Hand.ss, Hand.sd, Hand.sn]; first | done | omega)) only [Hand.q2, Hand.q1, Hand.q5, Hand.q6, Hand.q4, Hand.q3, g_X] <;> rfl)
  have h_U : w3.heap[w2.heap.size]? = some (.cells #[.int .i64 a, .int .i64 b] 24 (0, 0)) := by
    refine Hand.kb hb3 ?_; simp (disch := first | omega | (simp only [Hand.sa, Hand.ss, Hand.sd, Hand.sn]; first | done | omega)) only [Hand.q2, Hand.q1, Hand.q5, Hand.q6, Hand.q4, Hand.q3] <;> rfl
  have hB' : Below w.heap.size w w3 := Hand.stepB hb3 (by repeat (with_reducible first | apply hB | apply Below.drew | apply pw_below_drewN | (apply Below.setCell; rotate_left; (dsimp only; omega)) | (apply Below.alloc; rotate_left; (first | omega | (simp only [Hand.sa, Hand.ss, Hand.sd, Hand.sn]; omega))))) (Nat.le_refl _)
  clear HG hB g_A g_B g_C g_P g_X zw z_A z1_A z2_A y0_A y1_A c_A_0 f_A_0 c_A_1 f_A_1 z_B z1_B z2_B y0_B y1_B c_B_0 f_B_0 c_B_1 f_B_1 z_C z1_C z2_C y0_C y1_C c_C_0 f_C_0 c_C_1 f_C_1 z_P z1_P z2_P y0_P y1_P c_P_0 f_P_0 c_P_1 f_P_1 z_X z1_X z2_X y0_X y1_X c_X_0 f_X_0 c_X_1 f_X_1
  clear hb3
  have g_A := h_A
  have g_B := h_B
  have g_C := h_C
  have g_P := h_P
  have g_X := h_X
  have g_U := h_U
  have hB := hB'
  clear hB' h_A h_B h_C h_P h_X h_U
  obtain ⟨z_A, z1_A, z2_A, y0_A, y1_A⟩ := Hand.hz g_A
  obtain ⟨c_A_0, f_A_0, c_A_1, f_A_1⟩ := Hand.hc2 g_A
  obtain ⟨z_B, z1_B, z2_B, y0_B, y1_B⟩ := Hand.hz g_B
  obtain ⟨c_B_0, f_B_0, c_B_1, f_B_1⟩ := Hand.hc2 g_B
  obtain ⟨z_C, z1_C, z2_C, y0_C, y1_C⟩ := Hand.hz g_C
  obtain ⟨c_C_0, f_C_0, c_C_1, f_C_1⟩ := Hand.hc2 g_C
  obtain ⟨z_P, z1_P, z2_P, y0_P, y1_P⟩ := Hand.hz g_P
  obtain ⟨c_P_0, f_P_0, c_P_1, f_P_1⟩ := Hand.hc2 g_P
  obtain ⟨z_X, z1_X, z2_X, y0_X, y1_X⟩ := Hand.hz g_X
  obtain ⟨c_X_0, f_X_0, c_X_1, f_X_1⟩ := Hand.hc2 g_X
  obtain ⟨z_U, z1_U, z2_U, y0_U, y1_U⟩ := Hand.hz g_U
  obtain ⟨c_U_0, f_U_0, c_U_1, f_U_1⟩ := Hand.hc2 g_U
  have zw : w.heap.size ≤ w3.heap.size := hB.size
  have HG := Lib.hid (And.intro g_A (And.intro g_B (And.intro g_C (And.intro g_P (And.intro g_X (And.intro g_U (hB)))))))
  clear g_A g_B g_C g_P g_X g_U hB
  go_wp2_with fail
  with_reducible refine (R1.out _).mono ?_
  rintro e w4 ⟨rfl, hb4⟩
  obtain ⟨g_A, g_B, g_C, g_P, g_X, g_U, hB⟩ := HG.out
  have h_A : w4.heap[gA]? = some (.cells #[.int .i64 a, .int .i64 b] 24 (0, 0)) := by
    refine Hand.kb hb4 ?_; first | with_reducible exact g_A | (simp (disch := first | omega | (simp only [Hand.sa, Hand.ss, Hand.sd, Hand.sn]; first | done | omega)) only [Hand.q2, Hand.q1, Hand.q5, Hand.q6, Hand.q4, Hand.q3, g_A] <;> rfl)
  have h_B : w4.heap[gB]? = some (.cells #[.int .i64 c, .int .i64 d] 24 (0, 0)) := by
    refine Hand.kb hb4 ?_; first | with_reducible exact g_B | (simp (disch := first | omega | (simp only [Hand.sa, Hand.ss, Hand.sd, Hand.sn]; first | done | omega)) only [Hand.q2, Hand.q1, Hand.q5, Hand.q6, Hand.q4, Hand.q3, g_B] <;> rfl)
  have h_C : w4.heap[gC]? = some (.cells #[.int .i64 e, .int .i64 f] 24 (0, 0)) := by
    refine Hand.kb hb4 ?_; first | with_reducible exact g_C | (simp (disch := first | omega | (simp only [Hand.sa, Hand.ss, Hand.sd, Hand.sn]; first | done | omega)) only [Hand.q2, Hand.q1, Hand.q5, Hand.q6, Hand.q4, Hand.q3, g_C] <;> rfl)
  have h_P : w4.heap[gP]? = some (.cells #[.int .i64 p1, .int .i64 q1] 24 (0, 0)) := by
    refine Hand.kb hb4 ?_; first | with_reducible exact g_P | (simp (disch := first | omega | (simp only [Hand.sa, Hand.ss, Hand.sd, Hand.sn]; first | done | omega)) only [Hand.q2, Hand.q1, Hand.q5, Hand.q6, Hand.q4, Hand.q3, g_P] <;> rfl)
  have h_X : w4.heap[gX]? = some (.cells #[.int .i64 p2, .int .i64 q2] 24 (0, 0)) := by
    refine Hand.kb hb4 ?_; first | with_reducible exact g_X | (simp (disch := first | omega | (simp only [Hand.sa, Hand.ss, Hand.sd, Hand.sn]; first | done | omega)) only [Hand.q2, Hand.q1, Hand.q5, Hand.q6, Hand.q4, Hand.q3, g_X] <;> rfl)
  have h_U : w4.heap[w2.heap.size]? = some (.cells #[.int .i64 a, .int .i64 b] 24 (0, 0)) := by
    refine Hand.kb hb4 ?_; first | with_reducible exact g_U | (simp (disch := first | omega | (simp only [Hand.sa, Hand.ss, Hand.sd, Hand.sn]; first | done | omega)) only [Hand.q2, Hand.q1, Hand.q5, Hand.q6, Hand.q4, Hand.q3, g_U] <;> rfl)
  have hB' : Below w.heap.size w w4 := Hand.stepB hb4 (by repeat (with_reducible first | apply hB | apply Below.drew | apply pw_below_drewN | (apply Below.setCell; rotate_left; (dsimp only; omega)) | (apply Below.alloc; rotate_left; (first | omega | (simp only [Hand.sa, Hand.ss, Hand.sd, Hand.sn]; omega))))) (Nat.le_refl _)
  clear HG hB g_A g_B g_C g_P g_X g_U zw z_A z1_A z2_A y0_A y1_A c_A_0 f_A_0 c_A_1 f_A_1 z_B z1_B z2_B y0_B y1_B c_B_0 f_B_0 c_B_1 f_B_1 z_C z1_C z2_C y0_C y1_C c_C_0 f_C_0 c_C_1 f_C_1 z_P z1_P z2_P y0_P y1_P c_P_0 f_P_0 c_P_1 f_P_1 z_X z1_X z2_X y0_X y1_X c_X_0 f_X_0 c_X_1 f_X_1 z_U z1_U z2_U y0_U y1_U c_U_0 f_U_0 c_U_1 f_U_1
  clear hb4
  have g_A := h_A
  have g_B := h_B
  have g_C := h_C
  have g_P := h_P
  have g_X := h_X
  have g_U := h_U
  have hB := hB'
  clear hB' h_A h_B h_C h_P h_X h_U
  obtain ⟨z_A, z1_A, z2_A, y0_A, y1_A⟩ := Hand.hz g_A
  obtain ⟨c_A_0, f_A_0, c_A_1, f_A_1⟩ := Hand.hc2 g_A
  obtain ⟨z_B, z1_B, z2_B, y0_B, y1_B⟩ := Hand.hz g_B
  obtain ⟨c_B_0, f_B_0, c_B_1, f_B_1⟩ := Hand.hc2 g_B
  obtain ⟨z_C, z1_C, z2_C, y0_C, y1_C⟩ := Hand.hz g_C
  obtain ⟨c_C_0, f_C_0, c_C_1, f_C_1⟩ := Hand.hc2 g_C
  obtain ⟨z_P, z1_P, z2_P, y0_P, y1_P⟩ := Hand.hz g_P
  obtain ⟨c_P_0, f_P_0, c_P_1, f_P_1⟩ := Hand.hc2 g_P
  obtain ⟨z_X, z1_X, z2_X, y0_X, y1_X⟩ := Hand.hz g_X
  obtain ⟨c_X_0, f_X_0, c_X_1, f_X_1⟩ := Hand.hc2 g_X
  obtain ⟨z_U, z1_U, z2_U, y0_U, y1_U⟩ := Hand.hz g_U
  obtain ⟨c_U_0, f_U_0, c_U_1, f_U_1⟩ := Hand.hc2 g_U
  have zw : w.heap.size ≤ w4.heap.size := hB.size
  have HG := Lib.hid (And.intro g_A (And.intro g_B (And.intro g_C (And.intro g_P (And.intro g_X (And.intro g_U (hB)))))))
  clear g_A g_B g_C g_P g_X g_U hB
  go_wp2
  obtain ⟨g_A, g_B, g_C, g_P, g_X, g_U, hB⟩ := HG.out
  refine HK8.out _ _ (hN ?_ ?_)
  · repeat' (with_reducible apply And.intro)
    all_goals (repeat (with_reducible first | exact g_A | exact g_B | exact g_C | exact g_P | exact g_X | exact Hand.kn (by first | omega | (simp only [Hand.sa, Hand.ss, Hand.sd, Hand.sn]; first | done | omega)) | refine Hand.ka ?_ | refine Hand.kd ?_ | refine Hand.ks (by first | omega | (simp only [Hand.sa, Hand.ss, Hand.sd, Hand.sn]; first | done | omega)) ?_))
  · repeat (with_reducible first | exact hB | apply Below.drew | (apply Below.setCell; rotate_left; (dsimp only; first | omega | (simp only [Hand.sa, Hand.ss, Hand.sd, Hand.sn]; first | done | omega))) | (apply Below.alloc; rotate_left; (first | omega | (simp only [Hand.sa, Hand.ss, Hand.sd, Hand.sn]; first | done | omega))))
set_option maxHeartbeats 8000000 in
set_option maxRecDepth 100000 in
theorem rings0 (w : World) (a b c d e f p1 q1 p2 q2 r1 r2 : Int) (K0 : RB 16 #[] true)
    (hN : At8 w a b c d e f p1 q1 p2 q2 r1 r2)
    (A1 : RT 21 #[.agg #[.int .i64 a, .int .i64 b], .agg #[.int .i64 c, .int .i64 d]] p1 q1 r1)
    (A2 : RT 21 #[.agg #[.int .i64 c, .int .i64 d], .agg #[.int .i64 a, .int .i64 b]] p1 q1 r1)
    (M1 : RT 28 #[.agg #[.int .i64 a, .int .i64 b], .agg #[.int .i64 c, .int .i64 d]] p2 q2 r2)
    (M2 : RT 28 #[.agg #[.int .i64 c, .int .i64 d], .agg #[.int .i64 a, .int .i64 b]] p2 q2 r2) :
    Calls Tryd.prog 7 #[.agg #[.int .i64 a, .int .i64 b], .agg #[.int .i64 c, .int .i64 d], .agg #[.int .i64 e, .int .i64 f]] w fun e w' => e = .returned (.bool true) ∧ Below w.heap.size w w' := by
  go_enter Tryd.func7, Tryd.ntmps7
  go_wp2_with fail
  with_reducible refine (K0.out _).mono ?_
  rintro e w1 ⟨rfl, hb1⟩
  have h_A : w1.heap[w.heap.size]? = some (.cells #[.int .i64 a, .int .i64 b] 24 (0, 0)) := by
    refine Hand.kb hb1 ?_; simp (disch := first | omega | (simp only [Hand.sa, Hand.ss, Hand.sd, Hand.sn]; first | done | omega)) only [Hand.q2, Hand.q1, Hand.q5, Hand.q6, Hand.q4, Hand.q3] <;> rfl
  have h_B : w1.heap[w.heap.size + 1]? = some (.cells #[.int .i64 c, .int .i64 d] 24 (0, 0)) := by
    refine Hand.kb hb1 ?_; simp (disch := first | omega | (simp only [Hand.sa, Hand.ss, Hand.sd, Hand.sn]; first | done | omega)) only [Hand.q2, Hand.q1, Hand.q5, Hand.q6, Hand.q4, Hand.q3] <;> rfl
  have h_C : w1.heap[w.heap.size + 1 + 1]? = some (.cells #[.int .i64 e, .int .i64 f] 24 (0, 0)) := by
    refine Hand.kb hb1 ?_; simp (disch := first | omega | (simp only [Hand.sa, Hand.ss, Hand.sd, Hand.sn]; first | done | omega)) only [Hand.q2, Hand.q1, Hand.q5, Hand.q6, Hand.q4, Hand.q3] <;> rfl
  have hB' : Below w.heap.size w w1 := Hand.stepB hb1 (by repeat (with_reducible first | apply Below.refl _ _ | apply Below.drew | apply pw_below_drewN | (apply Below.setCell; rotate_left; (dsimp only; omega)) | (apply Below.alloc; rotate_left; (first | omega | (simp only [Hand.sa, Hand.ss, Hand.sd, Hand.sn]; omega))))) (Nat.le_refl _)
  clear hb1
  have g_A := h_A
  have g_B := h_B
  have g_C := h_C
  have hB := hB'
  clear hB' h_A h_B h_C
  obtain ⟨z_A, z1_A, z2_A, y0_A, y1_A⟩ := Hand.hz g_A
  obtain ⟨c_A_0, f_A_0, c_A_1, f_A_1⟩ := Hand.hc2 g_A
  obtain ⟨z_B, z1_B, z2_B, y0_B, y1_B⟩ := Hand.hz g_B
  obtain ⟨c_B_0, f_B_0, c_B_1, f_B_1⟩ := Hand.hc2 g_B
  obtain ⟨z_C, z1_C, z2_C, y0_C, y1_C⟩ := Hand.hz g_C
  obtain ⟨c_C_0, f_C_0, c_C_1, f_C_1⟩ := Hand.hc2 g_C
  have zw : w.heap.size ≤ w1.heap.size := hB.size
  have HG := Lib.hid (And.intro g_A (And.intro g_B (And.intro g_C (hB))))
  clear g_A g_B g_C hB
  go_wp2_with fail
  with_reducible refine (A1.out _).mono ?_
  rintro e w2 ⟨rfl, hb2⟩
  obtain ⟨g_A, g_B, g_C, hB⟩ := HG.out
  have h_A : w2.heap[w.heap.size]? = some (.cells #[.int .i64 a, .int .i64 b] 24 (0, 0)) := by
    refine Hand.kb hb2 ?_; first | with_reducible exact g_A | (simp (disch := first | omega | (simp only [Hand.sa, Hand.ss, Hand.sd, Hand.sn]; first | done | omega)) only [Hand.q2, Hand.q1, Hand.q5, Hand.q6, Hand.q4, Hand.q3, g_A] <;> rfl)
  have h_B : w2.heap[w.heap.size + 1]? = some (.cells #[.int .i64 c, .int .i64 d] 24 (0, 0)) := by
    refine Hand.kb hb2 ?_; first | with_reducible exact g_B | (simp (disch := first | omega | (simp only [Hand.sa, Hand.ss, Hand.sd, Hand.sn]; first | done | omega)) only [Hand.q2, Hand.q1, Hand.q5, Hand.q6, Hand.q4, Hand.q3, g_B] <;> rfl)
  have h_C : w2.heap[w.heap.size + 1 + 1]? = some (.cells #[.int .i64 e, .int .i64 f] 24 (0, 0)) := by
    refine Hand.kb hb2 ?_; first | with_reducible exact g_C | (simp (disch := first | omega | (simp only [Hand.sa, Hand.ss, Hand.sd, Hand.sn]; first | done | omega)) only [Hand.q2, Hand.q1, Hand.q5, Hand.q6, Hand.q4, Hand.q3, g_C] <;> rfl)
  have hB' : Below w.heap.size w w2 := Hand.stepB hb2 (by repeat (with_reducible first | apply hB | apply Below.drew | apply pw_below_drewN | (apply Below.setCell; rotate_left; (dsimp only; omega)) | (apply Below.alloc; rotate_left; (first | omega | (simp only [Hand.sa, Hand.ss, Hand.sd, Hand.sn]; omega))))) (Nat.le_refl _)
  clear HG hB g_A g_B g_C zw z_A z1_A z2_A y0_A y1_A c_A_0 f_A_0 c_A_1 f_A_1 z_B z1_B z2_B y0_B y1_B c_B_0 f_B_0 c_B_1 f_B_1 z_C z1_C z2_C y0_C y1_C c_C_0 f_C_0 c_C_1 f_C_1
  clear hb2
  have g_A := h_A
  have g_B := h_B
  have g_C := h_C
  have hB := hB'
  clear hB' h_A h_B h_C
  obtain ⟨z_A, z1_A, z2_A, y0_A, y1_A⟩ := Hand.hz g_A
  obtain ⟨c_A_0, f_A_0, c_A_1, f_A_1⟩ := Hand.hc2 g_A
  obtain ⟨z_B, z1_B, z2_B, y0_B, y1_B⟩ := Hand.hz g_B
  obtain ⟨c_B_0, f_B_0, c_B_1, f_B_1⟩ := Hand.hc2 g_B
  obtain ⟨z_C, z1_C, z2_C, y0_C, y1_C⟩ := Hand.hz g_C
  obtain ⟨c_C_0, f_C_0, c_C_1, f_C_1⟩ := Hand.hc2 g_C
  have zw : w.heap.size ≤ w2.heap.size := hB.size
  have HG := Lib.hid (And.intro g_A (And.intro g_B (And.intro g_C (hB))))
  clear g_A g_B g_C hB
  go_wp2_with fail
  with_reducible refine (A2.out _).mono ?_
  rintro e w3 ⟨rfl, hb3⟩
  obtain ⟨g_A, g_B, g_C, hB⟩ := HG.out
  have h_A : w3.heap[w.heap.size]? = some (.cells #[.int .i64 a, .int .i64 b] 24 (0, 0)) := by
    refine Hand.kb hb3 ?_; first | with_reducible exact g_A | (simp (disch := first | omega | (simp only [Hand.sa, Hand.ss, Hand.sd, Hand.sn]; first | done | omega)) only [Hand.q2, Hand.q1, Hand.q5, Hand.q6, Hand.q4, Hand.q3, g_A] <;> rfl)
  have h_B : w3.heap[w.heap.size + 1]? = some (.cells #[.int .i64 c, .int .i64 d] 24 (0, 0)) := by
    refine Hand.kb hb3 ?_; first | with_reducible exact g_B | (simp (disch := first | omega | (simp only [Hand.sa, Hand.ss, Hand.sd, Hand.sn]; first | done | omega)) only [Hand.q2, Hand.q1, Hand.q5, Hand.q6, Hand.q4, Hand.q3, g_B] <;> rfl)
  have h_C : w3.heap[w.heap.size + 1 + 1]? = some (.cells #[.int .i64 e, .int .i64 f] 24 (0, 0)) := by
    refine Hand.kb hb3 ?_; first | with_reducible exact g_C | (simp (disch := first | omega | (simp only [Hand.sa, Hand.ss, Hand.sd, Hand.sn]; first | done | omega)) only [Hand.q2, Hand.q1, Hand.q5, Hand.q6, Hand.q4, Hand.q3, g_C] <;> rfl)
  have h_P : w3.heap[w2.heap.size]? = some (.cells #[.int .i64 p1, .int .i64 q1] 24 (0, 0)) := by
    refine Hand.kb hb3 ?_; simp (disch := first | omega | (simp only [Hand.sa, Hand.ss, Hand.sd, Hand.sn]; first | done | omega)) only [Hand.q2, Hand.q1, Hand.q5, Hand.q6, Hand.q4, Hand.q3] <;> rfl
  have hB' : Below w.heap.size w w3 := Hand.stepB hb3 (by repeat (with_reducible first | apply hB | apply Below.drew | apply pw_below_drewN | (apply Below.setCell; rotate_left; (dsimp only; omega)) | (apply Below.alloc; rotate_left; (first | omega | (simp only [Hand.sa, Hand.ss, Hand.sd, Hand.sn]; omega))))) (Nat.le_refl _)
  clear HG hB g_A g_B g_C zw z_A z1_A z2_A y0_A y1_A c_A_0 f_A_0 c_A_1 f_A_1 z_B z1_B z2_B y0_B y1_B c_B_0 f_B_0 c_B_1 f_B_1 z_C z1_C z2_C y0_C y1_C c_C_0 f_C_0 c_C_1 f_C_1
  clear hb3
  have g_A := h_A
  have g_B := h_B
  have g_C := h_C
  have g_P := h_P
  have hB := hB'
  clear hB' h_A h_B h_C h_P
  obtain ⟨z_A, z1_A, z2_A, y0_A, y1_A⟩ := Hand.hz g_A
  obtain ⟨c_A_0, f_A_0, c_A_1, f_A_1⟩ := Hand.hc2 g_A
  obtain ⟨z_B, z1_B, z2_B, y0_B, y1_B⟩ := Hand.hz g_B
  obtain ⟨c_B_0, f_B_0, c_B_1, f_B_1⟩ := Hand.hc2 g_B
  obtain ⟨z_C, z1_C, z2_C, y0_C, y1_C⟩ := Hand.hz g_C
  obtain ⟨c_C_0, f_C_0, c_C_1, f_C_1⟩ := Hand.hc2 g_C
  obtain ⟨z_P, z1_P, z2_P, y0_P, y1_P⟩ := Hand.hz g_P
  obtain ⟨c_P_0, f_P_0, c_P_1, f_P_1⟩ := Hand.hc2 g_P
  have zw : w.heap.size ≤ w3.heap.size := hB.size
  have HG := Lib.hid (And.intro g_A (And.intro g_B (And.intro g_C (And.intro g_P (hB)))))
  clear g_A g_B g_C g_P hB
  go_wp2_with fail
  with_reducible refine (M1.out _).mono ?_
  rintro e w4 ⟨rfl, hb4⟩
  obtain ⟨g_A, g_B, g_C, g_P, hB⟩ := HG.out
  have h_A : w4.heap[w.heap.size]? = some (.cells #[.int .i64 a, .int .i64 b] 24 (0, 0)) := by
    refine Hand.kb hb4 ?_; first | with_reducible exact g_A | (simp (disch := first | omega | (simp only [Hand.sa, Hand.ss, Hand.sd, Hand.sn]; first | done | omega)) only [Hand.q2, Hand.q1, Hand.q5, Hand.q6, Hand.q4, Hand.q3, g_A] <;> rfl)
  have h_B : w4.heap[w.heap.size + 1]? = some (.cells #[.int .i64 c, .int .i64 d] 24 (0, 0)) := by
    refine Hand.kb hb4 ?_; first | with_reducible exact g_B | (simp (disch := first | omega | (simp only [Hand.sa, Hand.ss, Hand.sd, Hand.sn]; first | done | omega)) only [Hand.q2, Hand.q1, Hand.q5, Hand.q6, Hand.q4, Hand.q3, g_B] <;> rfl)
  have h_C : w4.heap[w.heap.size + 1 + 1]? = some (.cells #[.int .i64 e, .int .i64 f] 24 (0, 0)) := by
    refine Hand.kb hb4 ?_; first | with_reducible exact g_C | (simp (disch := first | omega | (simp only [Hand.sa, Hand.ss, Hand.sd, Hand.sn]; first | done | omega)) only [Hand.q2, Hand.q1, Hand.q5, Hand.q6, Hand.q4, Hand.q3, g_C] <;> rfl)
  have h_P : w4.heap[w2.heap.size]? = some (.cells #[.int .i64 p1, .int .i64 q1] 24 (0, 0)) := by
    refine Hand.kb hb4 ?_; first | with_reducible exact g_P | (simp (disch := first | omega | (simp only [Hand.sa, Hand.ss, Hand.sd, Hand.sn]; first | done | omega)) only [Hand.q2, Hand.q1, Hand.q5, Hand.q6, Hand.q4, Hand.q3, g_P] <;> rfl)
  have h_Y : w4.heap[w3.heap.size]? = some (.cells #[.int .i64 p1, .int .i64 q1] 24 (0, 0)) := by
    refine Hand.kb hb4 ?_; simp (disch := first | omega | (simp only [Hand.sa, Hand.ss, Hand.sd, Hand.sn]; first | done | omega)) only [Hand.q2, Hand.q1, Hand.q5, Hand.q6, Hand.q4, Hand.q3] <;> rfl
  have hB' : Below w.heap.size w w4 := Hand.stepB hb4 (by repeat (with_reducible first | apply hB | apply Below.drew | apply pw_below_drewN | (apply Below.setCell; rotate_left; (dsimp only; omega)) | (apply Below.alloc; rotate_left; (first | omega | (simp only [Hand.sa, Hand.ss, Hand.sd, Hand.sn]; omega))))) (Nat.le_refl _)
  clear HG hB g_A g_B g_C g_P zw z_A z1_A z2_A y0_A y1_A c_A_0 f_A_0 c_A_1 f_A_1 z_B z1_B z2_B y0_B y1_B c_B_0 f_B_0 c_B_1 f_B_1 z_C z1_C z2_C y0_C y1_C c_C_0 f_C_0 c_C_1 f_C_1 z_P z1_P z2_P y0_P y1_P c_P_0 f_P_0 c_P_1 f_P_1
  clear hb4
  have g_A := h_A
  have g_B := h_B
  have g_C := h_C
  have g_P := h_P
  have g_Y := h_Y
  have hB := hB'
  clear hB' h_A h_B h_C h_P h_Y
  obtain ⟨z_A, z1_A, z2_A, y0_A, y1_A⟩ := Hand.hz g_A
  obtain ⟨c_A_0, f_A_0, c_A_1, f_A_1⟩ := Hand.hc2 g_A
  obtain ⟨z_B, z1_B, z2_B, y0_B, y1_B⟩ := Hand.hz g_B
  obtain ⟨c_B_0, f_B_0, c_B_1, f_B_1⟩ := Hand.hc2 g_B
  obtain ⟨z_C, z1_C, z2_C, y0_C, y1_C⟩ := Hand.hz g_C
  obtain ⟨c_C_0, f_C_0, c_C_1, f_C_1⟩ := Hand.hc2 g_C
  obtain ⟨z_P, z1_P, z2_P, y0_P, y1_P⟩ := Hand.hz g_P
  obtain ⟨c_P_0, f_P_0, c_P_1, f_P_1⟩ := Hand.hc2 g_P
  obtain ⟨z_Y, z1_Y, z2_Y, y0_Y, y1_Y⟩ := Hand.hz g_Y
  obtain ⟨c_Y_0, f_Y_0, c_Y_1, f_Y_1⟩ := Hand.hc2 g_Y
  have zw : w.heap.size ≤ w4.heap.size := hB.size
  have HG := Lib.hid (And.intro g_A (And.intro g_B (And.intro g_C (And.intro g_P (And.intro g_Y (hB))))))
  clear g_A g_B g_C g_P g_Y hB
  go_wp2_with fail
  rename_i Q_ K_ hK_ K2_ hK2_
  have HK := Lib.hid hK_
  clear hK_
  with_reducible refine (M2.out _).mono ?_
  rintro e w5 ⟨rfl, hb5⟩
  obtain ⟨g_A, g_B, g_C, g_P, g_Y, hB⟩ := HG.out
  have h_A : w5.heap[w.heap.size]? = some (.cells #[.int .i64 a, .int .i64 b] 24 (0, 0)) := by
    refine Hand.kb hb5 ?_; first | with_reducible exact g_A | (simp (disch := first | omega | (simp only [Hand.sa, Hand.ss, Hand.sd, Hand.sn]; first | done | omega)) only [Hand.q2, Hand.q1, Hand.q5, Hand.q6, Hand.q4, Hand.q3, g_A] <;> rfl)
  have h_B : w5.heap[w.heap.size + 1]? = some (.cells #[.int .i64 c, .int .i64 d] 24 (0, 0)) := by
    refine Hand.kb hb5 ?_; first | with_reducible exact g_B | (simp (disch := first | omega | (simp only [Hand.sa, Hand.ss, Hand.sd, Hand.sn]; first | done | omega)) only [Hand.q2, Hand.q1, Hand.q5, Hand.q6, Hand.q4, Hand.q3, g_B] <;> rfl)
  have h_C : w5.heap[w.heap.size + 1 + 1]? = some (.cells #[.int .i64 e, .int .i64 f] 24 (0, 0)) := by
    refine Hand.kb hb5 ?_; first | with_reducible exact g_C | (simp (disch := first | omega | (simp only [Hand.sa, Hand.ss, Hand.sd, Hand.sn]; first | done | omega)) only [Hand.q2, Hand.q1, Hand.q5, Hand.q6, Hand.q4, Hand.q3, g_C] <;> rfl)
  have h_P : w5.heap[w2.heap.size]? = some (.cells #[.int .i64 p1, .int .i64 q1] 24 (0, 0)) := by
    refine Hand.kb hb5 ?_; first | with_reducible exact g_P | (simp (disch := first | omega | (simp only [Hand.sa, Hand.ss, Hand.sd, Hand.sn]; first | done | omega)) only [Hand.q2, Hand.q1, Hand.q5, Hand.q6, Hand.q4, Hand.q3, g_P] <;> rfl)
  have h_Y : w5.heap[w3.heap.size]? = some (.cells #[.int .i64 p1, .int .i64 q1] 24 (0, 0)) := by
    refine Hand.kb hb5 ?_; first | with_reducible exact g_Y | (simp (disch := first | omega | (simp only [Hand.sa, Hand.ss, Hand.sd, Hand.sn]; first | done | omega)) only [Hand.q2, Hand.q1, Hand.q5, Hand.q6, Hand.q4, Hand.q3, g_Y] <;> rfl)
  have h_X : w5.heap[w4.heap.size]? = some (.cells #[.int .i64 p2, .int .i64 q2] 24 (0, 0)) := by
    refine Hand.kb hb5 ?_; simp (disch := first | omega | (simp only [Hand.sa, Hand.ss, Hand.sd, Hand.sn]; first | done | omega)) only [Hand.q2, Hand.q1, Hand.q5, Hand.q6, Hand.q4, Hand.q3] <;> rfl
  have hB' : Below w.heap.size w w5 := Hand.stepB hb5 (by repeat (with_reducible first | apply hB | apply Below.drew | apply pw_below_drewN | (apply Below.setCell; rotate_left; (dsimp only; omega)) | (apply Below.alloc; rotate_left; (first | omega | (simp only [Hand.sa, Hand.ss, Hand.sd, Hand.sn]; omega))))) (Nat.le_refl _)
  clear HG hB g_A g_B g_C g_P g_Y zw z_A z1_A z2_A y0_A y1_A c_A_0 f_A_0 c_A_1 f_A_1 z_B z1_B z2_B y0_B y1_B c_B_0 f_B_0 c_B_1 f_B_1 z_C z1_C z2_C y0_C y1_C c_C_0 f_C_0 c_C_1 f_C_1 z_P z1_P z2_P y0_P y1_P c_P_0 f_P_0 c_P_1 f_P_1 z_Y z1_Y z2_Y y0_Y y1_Y c_Y_0 f_Y_0 c_Y_1 f_Y_1
  clear hb5
  have g_A := h_A
  have g_B := h_B
  have g_C := h_C
  have g_P := h_P
  have g_Y := h_Y
  have g_X := h_X
  have hB := hB'
  clear hB' h_A h_B h_C h_P h_Y h_X
  obtain ⟨z_A, z1_A, z2_A, y0_A, y1_A⟩ := Hand.hz g_A
  obtain ⟨c_A_0, f_A_0, c_A_1, f_A_1⟩ := Hand.hc2 g_A
  obtain ⟨z_B, z1_B, z2_B, y0_B, y1_B⟩ := Hand.hz g_B
  obtain ⟨c_B_0, f_B_0, c_B_1, f_B_1⟩ := Hand.hc2 g_B
  obtain ⟨z_C, z1_C, z2_C, y0_C, y1_C⟩ := Hand.hz g_C
  obtain ⟨c_C_0, f_C_0, c_C_1, f_C_1⟩ := Hand.hc2 g_C
  obtain ⟨z_P, z1_P, z2_P, y0_P, y1_P⟩ := Hand.hz g_P
  obtain ⟨c_P_0, f_P_0, c_P_1, f_P_1⟩ := Hand.hc2 g_P
  obtain ⟨z_Y, z1_Y, z2_Y, y0_Y, y1_Y⟩ := Hand.hz g_Y
  obtain ⟨c_Y_0, f_Y_0, c_Y_1, f_Y_1⟩ := Hand.hc2 g_Y
  obtain ⟨z_X, z1_X, z2_X, y0_X, y1_X⟩ := Hand.hz g_X
  obtain ⟨c_X_0, f_X_0, c_X_1, f_X_1⟩ := Hand.hc2 g_X
  have zw : w.heap.size ≤ w5.heap.size := hB.size
  have HG := Lib.hid (And.intro g_A (And.intro g_B (And.intro g_C (And.intro g_P (And.intro g_Y (And.intro g_X (hB)))))))
  clear g_A g_B g_C g_P g_Y g_X hB
  go_wp2
  refine HK.out _ _ ?_
  refine wp_seq_k (fun K9 hK9 => ?_)
  have HK9 := Lib.hid hK9
  clear hK9
  go_wp2
  obtain ⟨g_A, g_B, g_C, g_P, g_Y, g_X, hB⟩ := HG.out
  refine HK9.out _ _ (hN ?_ ?_)
  · repeat' (with_reducible apply And.intro)
    all_goals (repeat (with_reducible first | exact g_A | exact g_B | exact g_C | exact g_P | exact g_X | exact Hand.kn (by first | omega | (simp only [Hand.sa, Hand.ss, Hand.sd, Hand.sn]; first | done | omega)) | refine Hand.ka ?_ | refine Hand.kd ?_ | refine Hand.ks (by first | omega | (simp only [Hand.sa, Hand.ss, Hand.sd, Hand.sn]; first | done | omega)) ?_))
  · repeat (with_reducible first | exact hB | apply Below.drew | (apply Below.setCell; rotate_left; (dsimp only; first | omega | (simp only [Hand.sa, Hand.ss, Hand.sd, Hand.sn]; first | done | omega))) | (apply Below.alloc; rotate_left; (first | omega | (simp only [Hand.sa, Hand.ss, Hand.sd, Hand.sn]; first | done | omega))))
end Go.Proofs.YtofndakpenpkbaaDoor.PA
