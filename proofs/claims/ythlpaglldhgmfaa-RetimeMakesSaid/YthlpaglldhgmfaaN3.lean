/- The reference's Cmp, as chapter 6 asks it. Chapter 6: the reference's ratios told as chapter 6 asks them. The reference's slope, reckon, back, at. The reference's check. -/
import Derived.Test.YthlpaglldhgmfaaN1
import Derived.Test.YthlpaglldhgmfaaPLx1
import Derived.Test.YthlpaglldhgmfaaM3
import Derived.Test.YthlpaglldhgmfaaM4
import Derived.Test.YthlpaglldhgmfaaN2
import Derived.Test.YthlpaglldhgmfaaMA
import Derived.StillTailTactics
set_option maxHeartbeats 1600000
set_option maxRecDepth 100000
namespace Go.Proofs.Ythlpaglldhgmfaa.PA
open Go Go.RowKit Go.Proofs.YthlpaglldhgmfaaW.PrintWords Go.Proofs.YthlpaglldhgmfaaW.PrintLast Go.Proofs.YthlpaglldhgmfaaW.PrintMore Go.Proofs.Ythlpaglldhgmfaa.PR Go.Proofs.Ythlpaglldhgmfaa.PL
set_option linter.unusedSimpArgs false
set_option linter.unusedVariables false
theorem lessW (x y:Int):surtitleref3_Less.f (wI x).1 (wI x).2.1 (wI x).2.2 (wI y).1 (wI y).2.1 (wI y).2.2=some (decide (x<y)):=by
 unfold surtitleref3_Less.f wI
 dsimp only
 rw [above_any,above_any]
 simp only [Option.bind_some]
 by_cases hx:x<0<;>by_cases hy:y<0
 ·rw [decide_eq_true hx,decide_eq_true hy,if_neg (by decide),if_pos rfl];congr 1;rw [decide_eq_decide];omega
 ·rw [decide_eq_true hx,decide_eq_false hy,if_pos (by decide)];congr 1;symm;rw [decide_eq_true_eq];omega
 ·rw [decide_eq_false hx,decide_eq_true hy,if_pos (by decide)];congr 1;symm;rw [decide_eq_false_iff_not];omega
 ·rw [decide_eq_false hx,decide_eq_false hy,if_neg (by decide),if_neg (by decide)];congr 1;rw [decide_eq_decide];omega
theorem cmpI (a b c d:Int) (ha:-9223372036854775808≤a∧a≤9223372036854775807) (hb:0<b∧b≤9223372036854775807) (hc:-9223372036854775808≤c∧c≤9223372036854775807) (hd:0<d∧d≤9223372036854775807) :
  surtitleref3_Cmp.f a b c d=some (cmpS a b c d):=by
 unfold surtitleref3_Cmp.f
 rw [timesW a d (by omega) (by omega) (by omega) (by omega),timesW c b (by omega) (by omega) (by omega) (by omega)]
 simp only [Option.bind_some]
 rw [lessW,lessW]
 simp only [Option.bind_some]
 rw [cmpS_eq hb.1 hd.1]
 by_cases h1:a*d<c*b
 ·rw [if_pos (decide_eq_true h1),if_neg (by omega),if_pos h1]
 ·rw [if_neg (by simpa using h1)]
  by_cases h2:c*b<a*d
  ·rw [if_pos (decide_eq_true h2),if_neg (by omega),if_neg h1]
  ·rw [if_neg (by simpa using h2),if_pos (by omega)]
theorem cmp3_any (a b c d:Int) (w:World) (ha:-9223372036854775808≤a∧a≤9223372036854775807) (hb:0<b∧b≤9223372036854775807) (hc:-9223372036854775808≤c∧c≤9223372036854775807) (hd:0<d∧d≤9223372036854775807) :
  Calls Try.prog 89 #[.agg #[.int .i64 a,.int .i64 b],.agg #[.int .i64 c,.int .i64 d]] w fun e w'=>e = .returned (.int .i64 (cmpS a b c d))∧Below w.heap.size w w' :=
 surtitleref3_Cmp.calls a b c d _ w (cmpI a b c d ha hb hc hd)
theorem qadd_any (a b:Rt) (w:World):Calls Try.prog 60 #[rv a,rv b] w fun e w'=>e = .returned (.tuple #[rv (rAdd a b).1,.int .i64 (rAdd a b).2])∧Below w.heap.size w w':=rh_add a.1 a.2 b.1 b.2 w
theorem qsub_any (a b:Rt) (w:World) (hb:R64 b):Calls Try.prog 59 #[rv a,rv b] w fun e w'=>e = .returned (.tuple #[rv (rSub a b).1,.int .i64 (rSub a b).2])∧Below w.heap.size w w':=rh_sub a.1 a.2 b.1 b.2 w
theorem qmul_any (a b:Rt) (w:World):Calls Try.prog 111 #[rv a,rv b] w fun e w'=>e = .returned (.tuple #[rv (rMul a b).1,.int .i64 (rMul a b).2])∧Below w.heap.size w w':=rh_mul a.1 a.2 b.1 b.2 w
theorem qdiv_any (a b:Rt) (w:World):Calls Try.prog 66 #[rv a,rv b] w fun e w'=>e = .returned (.tuple #[rv (rDiv a b).1,.int .i64 (rDiv a b).2])∧Below w.heap.size w w':=rh_div a.1 a.2 b.1 b.2 w
theorem qright_any (a:Rt) (w:World):Calls Try.prog 61 #[rv a] w fun e w'=>e = .returned (.bool (rRight a))∧Below w.heap.size w w' :=
 surtitleref3_Right.calls 2147483649 a.1 a.2 _ w (rightR 2147483649 (by decide) a.1 a.2)
theorem qcmp_any (a b:Rt) (w:World) (ha:rRight a=true) (hb:rRight b=true):Calls Try.prog 89 #[rv a,rv b] w fun e w'=>e = .returned (.int .i64 (rCmp a b))∧Below w.heap.size w w':=by
 obtain ⟨h1,h2,h3,_⟩:=rightS_iff.1 ha
 obtain ⟨k1,k2,k3,_⟩:=rightS_iff.1 hb
 exact cmp3_any a.1 a.2 b.1 b.2 w ⟨by omega,by omega⟩ ⟨by omega,by omega⟩ ⟨by omega,by omega⟩ ⟨by omega,by omega⟩
end Go.Proofs.Ythlpaglldhgmfaa.PA
namespace Go.Proofs.Ythlpaglldhgmfaa.PA
open Go Go.RowKit Go.Proofs.YthlpaglldhgmfaaW.PrintWords Go.Proofs.YthlpaglldhgmfaaW.PrintLast Go.Proofs.YthlpaglldhgmfaaW.PrintMore
set_option linter.unusedSimpArgs false
set_option linter.unusedVariables false
theorem slope_1 (a1 a2 a3 a4 b1 b2 b3 b4 e1 x1 x2:Int) (h_e1:e1≠0) (w:World)
  (m1:∀ w,Calls Try.prog 59 #[.agg #[.int .i64 b3,.int .i64 b4],.agg #[.int .i64 a3,.int .i64 a4]] w fun e w'=>e = .returned (.tuple #[.agg #[.int .i64 x1,.int .i64 x2],.int .i64 e1])∧Below w.heap.size w w') :
  Calls Try.prog 54 #[.agg #[.int .i64 a1,.int .i64 a2,.int .i64 a3,.int .i64 a4],.agg #[.int .i64 b1,.int .i64 b2,.int .i64 b3,.int .i64 b4]] w fun e w'=>e = .returned (.tuple #[.agg #[.int .i64 0,.int .i64 0],.int .i64 e1])∧Below w.heap.size w w':=by
 have M1:=Lib.hid m1
 clear m1
 go_enter Try.func54,Try.ntmps54
 go_wp2_with fail
 with_reducible refine (M1.out _).mono ?_
 rintro e w1 ⟨rfl,hb1⟩
 have h_A:w1.heap[w.heap.size]?=some (.cells #[.int .i64 a1,.int .i64 a2,.int .i64 a3,.int .i64 a4] 35 (0,0)):=by
  exact Hand.kb hb1 Hand.k
 have h_B:w1.heap[w.heap.size+1]?=some (.cells #[.int .i64 b1,.int .i64 b2,.int .i64 b3,.int .i64 b4] 35 (0,0)):=by
  exact Hand.kb hb1 Hand.k
 have h_R:w1.heap[w.heap.size+1+1]?=some (.cells #[.int .i64 0,.int .i64 0] 31 (0,0)):=by
  exact Hand.kb hb1 Hand.k
 have hB':Below w.heap.size w w1:=Hand.stepB hb1 Hand.b (Nat.le_refl _)
 clear hb1
 have g_A:=h_A
 have g_B:=h_B
 have g_R:=h_R
 have hB:=hB'
 clear hB' h_A h_B h_R
 obtain ⟨z_A,z1_A,z2_A,y0_A,y1_A⟩:=Hand.hz g_A
 obtain ⟨c_A_0,f_A_0,c_A_1,f_A_1,c_A_2,f_A_2,c_A_3,f_A_3⟩:=Hand.hc4 g_A
 obtain ⟨z_B,z1_B,z2_B,y0_B,y1_B⟩:=Hand.hz g_B
 obtain ⟨c_B_0,f_B_0,c_B_1,f_B_1,c_B_2,f_B_2,c_B_3,f_B_3⟩:=Hand.hc4 g_B
 obtain ⟨z_R,z1_R,z2_R,y0_R,y1_R⟩:=Hand.hz g_R
 obtain ⟨c_R_0,f_R_0,c_R_1,f_R_1⟩:=Hand.hc2 g_R
 have zw:w.heap.size≤w1.heap.size:=hB.size
 have HG:=Lib.hid (And.intro g_A (And.intro g_B (And.intro g_R (hB))))
 clear g_A g_B g_R hB
 have k_e1:(e1 != 0)=true:=by simpa using h_e1
 clear h_e1
 go_wp2
 obtain ⟨g_A,g_B,g_R,hB⟩:=HG.out
 refine bodyPost_ret (results_ct rfl _ _ (w.heap.size+1+1) 31 #[.int .i64 0,.int .i64 0] (0,0) _ rfl ?_ Try.underlying31 rfl (by kernel_rfl)) rfl ⟨rfl,?_⟩
 ·simp (disch:=try exact Hand.z) only [Hand.q1,Hand.q2,Hand.q4,Hand.q3,Hand.q5,Hand.q6,Option.map_some,Hand.putc_cells,List.setIfInBounds_toArray,List.set_cons_zero,List.set_cons_succ,g_R];try rfl
 ·exact Hand.b
theorem slope_2 (a1 a2 a3 a4 b1 b2 b3 b4 e1 e2 x1 x2 y1 y2:Int) (h_e1:e1=0) (h_e2:e2≠0) (w:World)
  (m1:∀ w,Calls Try.prog 59 #[.agg #[.int .i64 b3,.int .i64 b4],.agg #[.int .i64 a3,.int .i64 a4]] w fun e w'=>e = .returned (.tuple #[.agg #[.int .i64 x1,.int .i64 x2],.int .i64 e1])∧Below w.heap.size w w')
  (m2:∀ w,Calls Try.prog 59 #[.agg #[.int .i64 b1,.int .i64 b2],.agg #[.int .i64 a1,.int .i64 a2]] w fun e w'=>e = .returned (.tuple #[.agg #[.int .i64 y1,.int .i64 y2],.int .i64 e2])∧Below w.heap.size w w') :
  Calls Try.prog 54 #[.agg #[.int .i64 a1,.int .i64 a2,.int .i64 a3,.int .i64 a4],.agg #[.int .i64 b1,.int .i64 b2,.int .i64 b3,.int .i64 b4]] w fun e w'=>e = .returned (.tuple #[.agg #[.int .i64 0,.int .i64 0],.int .i64 e2])∧Below w.heap.size w w':=by
 have M1:=Lib.hid m1
 have M2:=Lib.hid m2
 clear m1 m2
 go_enter Try.func54,Try.ntmps54
 go_wp2_with fail
 with_reducible refine (M1.out _).mono ?_
 rintro e w1 ⟨rfl,hb1⟩
 have h_A:w1.heap[w.heap.size]?=some (.cells #[.int .i64 a1,.int .i64 a2,.int .i64 a3,.int .i64 a4] 35 (0,0)):=by
  exact Hand.kb hb1 Hand.k
 have h_B:w1.heap[w.heap.size+1]?=some (.cells #[.int .i64 b1,.int .i64 b2,.int .i64 b3,.int .i64 b4] 35 (0,0)):=by
  exact Hand.kb hb1 Hand.k
 have h_R:w1.heap[w.heap.size+1+1]?=some (.cells #[.int .i64 0,.int .i64 0] 31 (0,0)):=by
  exact Hand.kb hb1 Hand.k
 have hB':Below w.heap.size w w1:=Hand.stepB hb1 Hand.b (Nat.le_refl _)
 clear hb1
 have g_A:=h_A
 have g_B:=h_B
 have g_R:=h_R
 have hB:=hB'
 clear hB' h_A h_B h_R
 obtain ⟨z_A,z1_A,z2_A,y0_A,y1_A⟩:=Hand.hz g_A
 obtain ⟨c_A_0,f_A_0,c_A_1,f_A_1,c_A_2,f_A_2,c_A_3,f_A_3⟩:=Hand.hc4 g_A
 obtain ⟨z_B,z1_B,z2_B,y0_B,y1_B⟩:=Hand.hz g_B
 obtain ⟨c_B_0,f_B_0,c_B_1,f_B_1,c_B_2,f_B_2,c_B_3,f_B_3⟩:=Hand.hc4 g_B
 obtain ⟨z_R,z1_R,z2_R,y0_R,y1_R⟩:=Hand.hz g_R
 obtain ⟨c_R_0,f_R_0,c_R_1,f_R_1⟩:=Hand.hc2 g_R
 have zw:w.heap.size≤w1.heap.size:=hB.size
 have HG:=Lib.hid (And.intro g_A (And.intro g_B (And.intro g_R (hB))))
 clear g_A g_B g_R hB
 have k_e1:(e1 != 0)=false:=by simpa using h_e1
 clear h_e1
 go_wp2_with fail
 with_reducible refine (M2.out _).mono ?_
 rintro e w2 ⟨rfl,hb2⟩
 obtain ⟨g_A,g_B,g_R,hB⟩:=HG.out
 have h_A:w2.heap[w.heap.size]?=some (.cells #[.int .i64 a1,.int .i64 a2,.int .i64 a3,.int .i64 a4] 35 (0,0)):=by
  refine Hand.kb hb2 ?_;first|with_reducible exact g_A|(simp (disch:=try exact Hand.z) only [Hand.q2,Hand.q1,Hand.q5,Hand.q6,Hand.q4,Hand.q3,g_A]<;>rfl)
 have h_B:w2.heap[w.heap.size+1]?=some (.cells #[.int .i64 b1,.int .i64 b2,.int .i64 b3,.int .i64 b4] 35 (0,0)):=by
  refine Hand.kb hb2 ?_;first|with_reducible exact g_B|(simp (disch:=try exact Hand.z) only [Hand.q2,Hand.q1,Hand.q5,Hand.q6,Hand.q4,Hand.q3,g_B]<;>rfl)
 have h_R:w2.heap[w.heap.size+1+1]?=some (.cells #[.int .i64 0,.int .i64 0] 31 (0,0)):=by
  refine Hand.kb hb2 ?_;first|with_reducible exact g_R|(simp (disch:=try exact Hand.z) only [Hand.q2,Hand.q1,Hand.q5,Hand.q6,Hand.q4,Hand.q3,g_R]<;>rfl)
 have h_X:w2.heap[w1.heap.size]?=some (.cells #[.int .i64 x1,.int .i64 x2] 31 (0,0)):=by
  exact Hand.kb hb2 Hand.k
 have hB':Below w.heap.size w w2:=Hand.stepB hb2 Hand.b (Nat.le_refl _)
 clear HG hB g_A g_B g_R zw z_A z1_A z2_A y0_A y1_A c_A_0 f_A_0 c_A_1 f_A_1 c_A_2 f_A_2 c_A_3 f_A_3 z_B z1_B z2_B y0_B y1_B c_B_0 f_B_0 c_B_1 f_B_1 c_B_2 f_B_2 c_B_3 f_B_3 z_R z1_R z2_R y0_R y1_R c_R_0 f_R_0 c_R_1 f_R_1
 clear hb2
 have g_A:=h_A
 have g_B:=h_B
 have g_R:=h_R
 have g_X:=h_X
 have hB:=hB'
 clear hB' h_A h_B h_R h_X
 obtain ⟨z_A,z1_A,z2_A,y0_A,y1_A⟩:=Hand.hz g_A
 obtain ⟨c_A_0,f_A_0,c_A_1,f_A_1,c_A_2,f_A_2,c_A_3,f_A_3⟩:=Hand.hc4 g_A
 obtain ⟨z_B,z1_B,z2_B,y0_B,y1_B⟩:=Hand.hz g_B
 obtain ⟨c_B_0,f_B_0,c_B_1,f_B_1,c_B_2,f_B_2,c_B_3,f_B_3⟩:=Hand.hc4 g_B
 obtain ⟨z_R,z1_R,z2_R,y0_R,y1_R⟩:=Hand.hz g_R
 obtain ⟨c_R_0,f_R_0,c_R_1,f_R_1⟩:=Hand.hc2 g_R
 obtain ⟨z_X,z1_X,z2_X,y0_X,y1_X⟩:=Hand.hz g_X
 obtain ⟨c_X_0,f_X_0,c_X_1,f_X_1⟩:=Hand.hc2 g_X
 have zw:w.heap.size≤w2.heap.size:=hB.size
 have HG:=Lib.hid (And.intro g_A (And.intro g_B (And.intro g_R (And.intro g_X (hB)))))
 clear g_A g_B g_R g_X hB
 have k_e2:(e2 != 0)=true:=by simpa using h_e2
 clear h_e2
 go_wp2
 obtain ⟨g_A,g_B,g_R,g_X,hB⟩:=HG.out
 refine bodyPost_ret (results_ct rfl _ _ (w.heap.size+1+1) 31 #[.int .i64 0,.int .i64 0] (0,0) _ rfl ?_ Try.underlying31 rfl (by kernel_rfl)) rfl ⟨rfl,?_⟩
 ·simp (disch:=try exact Hand.z) only [Hand.q1,Hand.q2,Hand.q4,Hand.q3,Hand.q5,Hand.q6,Option.map_some,Hand.putc_cells,List.setIfInBounds_toArray,List.set_cons_zero,List.set_cons_succ,g_R];try rfl
 ·exact Hand.b
theorem slope_3 (a1 a2 a3 a4 b1 b2 b3 b4 e1 e2 e3 x1 x2 y1 y2 z1 z2:Int) (h_e1:e1=0) (h_e2:e2=0) (w:World)
  (m1:∀ w,Calls Try.prog 59 #[.agg #[.int .i64 b3,.int .i64 b4],.agg #[.int .i64 a3,.int .i64 a4]] w fun e w'=>e = .returned (.tuple #[.agg #[.int .i64 x1,.int .i64 x2],.int .i64 e1])∧Below w.heap.size w w')
  (m2:∀ w,Calls Try.prog 59 #[.agg #[.int .i64 b1,.int .i64 b2],.agg #[.int .i64 a1,.int .i64 a2]] w fun e w'=>e = .returned (.tuple #[.agg #[.int .i64 y1,.int .i64 y2],.int .i64 e2])∧Below w.heap.size w w')
  (m3:∀ w,Calls Try.prog 66 #[.agg #[.int .i64 x1,.int .i64 x2],.agg #[.int .i64 y1,.int .i64 y2]] w fun e w'=>e = .returned (.tuple #[.agg #[.int .i64 z1,.int .i64 z2],.int .i64 e3])∧Below w.heap.size w w') :
  Calls Try.prog 54 #[.agg #[.int .i64 a1,.int .i64 a2,.int .i64 a3,.int .i64 a4],.agg #[.int .i64 b1,.int .i64 b2,.int .i64 b3,.int .i64 b4]] w fun e w'=>e = .returned (.tuple #[.agg #[.int .i64 z1,.int .i64 z2],.int .i64 e3])∧Below w.heap.size w w':=by
 have M1:=Lib.hid m1
 have M2:=Lib.hid m2
 have M3:=Lib.hid m3
 clear m1 m2 m3
 go_enter Try.func54,Try.ntmps54
 go_wp2_with fail
 with_reducible refine (M1.out _).mono ?_
 rintro e w1 ⟨rfl,hb1⟩
 have h_A:w1.heap[w.heap.size]?=some (.cells #[.int .i64 a1,.int .i64 a2,.int .i64 a3,.int .i64 a4] 35 (0,0)):=by
  exact Hand.kb hb1 Hand.k
 have h_B:w1.heap[w.heap.size+1]?=some (.cells #[.int .i64 b1,.int .i64 b2,.int .i64 b3,.int .i64 b4] 35 (0,0)):=by
  exact Hand.kb hb1 Hand.k
 have h_R:w1.heap[w.heap.size+1+1]?=some (.cells #[.int .i64 0,.int .i64 0] 31 (0,0)):=by
  exact Hand.kb hb1 Hand.k
 have hB':Below w.heap.size w w1:=Hand.stepB hb1 Hand.b (Nat.le_refl _)
 clear hb1
 have g_A:=h_A
 have g_B:=h_B
 have g_R:=h_R
 have hB:=hB'
 clear hB' h_A h_B h_R
 obtain ⟨z_A,z1_A,z2_A,y0_A,y1_A⟩:=Hand.hz g_A
 obtain ⟨c_A_0,f_A_0,c_A_1,f_A_1,c_A_2,f_A_2,c_A_3,f_A_3⟩:=Hand.hc4 g_A
 obtain ⟨z_B,z1_B,z2_B,y0_B,y1_B⟩:=Hand.hz g_B
 obtain ⟨c_B_0,f_B_0,c_B_1,f_B_1,c_B_2,f_B_2,c_B_3,f_B_3⟩:=Hand.hc4 g_B
 obtain ⟨z_R,z1_R,z2_R,y0_R,y1_R⟩:=Hand.hz g_R
 obtain ⟨c_R_0,f_R_0,c_R_1,f_R_1⟩:=Hand.hc2 g_R
 have zw:w.heap.size≤w1.heap.size:=hB.size
 have HG:=Lib.hid (And.intro g_A (And.intro g_B (And.intro g_R (hB))))
 clear g_A g_B g_R hB
 have k_e1:(e1 != 0)=false:=by simpa using h_e1
 clear h_e1
 go_wp2_with fail
 with_reducible refine (M2.out _).mono ?_
 rintro e w2 ⟨rfl,hb2⟩
 obtain ⟨g_A,g_B,g_R,hB⟩:=HG.out
 have h_A:w2.heap[w.heap.size]?=some (.cells #[.int .i64 a1,.int .i64 a2,.int .i64 a3,.int .i64 a4] 35 (0,0)):=by
  refine Hand.kb hb2 ?_;first|with_reducible exact g_A|(simp (disch:=try exact Hand.z) only [Hand.q2,Hand.q1,Hand.q5,Hand.q6,Hand.q4,Hand.q3,g_A]<;>rfl)
 have h_B:w2.heap[w.heap.size+1]?=some (.cells #[.int .i64 b1,.int .i64 b2,.int .i64 b3,.int .i64 b4] 35 (0,0)):=by
  refine Hand.kb hb2 ?_;first|with_reducible exact g_B|(simp (disch:=try exact Hand.z) only [Hand.q2,Hand.q1,Hand.q5,Hand.q6,Hand.q4,Hand.q3,g_B]<;>rfl)
 have h_R:w2.heap[w.heap.size+1+1]?=some (.cells #[.int .i64 0,.int .i64 0] 31 (0,0)):=by
  refine Hand.kb hb2 ?_;first|with_reducible exact g_R|(simp (disch:=try exact Hand.z) only [Hand.q2,Hand.q1,Hand.q5,Hand.q6,Hand.q4,Hand.q3,g_R]<;>rfl)
 have h_X:w2.heap[w1.heap.size]?=some (.cells #[.int .i64 x1,.int .i64 x2] 31 (0,0)):=by
  exact Hand.kb hb2 Hand.k
 have hB':Below w.heap.size w w2:=Hand.stepB hb2 Hand.b (Nat.le_refl _)
 clear HG hB g_A g_B g_R zw z_A z1_A z2_A y0_A y1_A c_A_0 f_A_0 c_A_1 f_A_1 c_A_2 f_A_2 c_A_3 f_A_3 z_B z1_B z2_B y0_B y1_B c_B_0 f_B_0 c_B_1 f_B_1 c_B_2 f_B_2 c_B_3 f_B_3 z_R z1_R z2_R y0_R y1_R c_R_0 f_R_0 c_R_1 f_R_1
 clear hb2
 have g_A:=h_A
 have g_B:=h_B
 have g_R:=h_R
 have g_X:=h_X
 have hB:=hB'
 clear hB' h_A h_B h_R h_X
 obtain ⟨z_A,z1_A,z2_A,y0_A,y1_A⟩:=Hand.hz g_A
 obtain ⟨c_A_0,f_A_0,c_A_1,f_A_1,c_A_2,f_A_2,c_A_3,f_A_3⟩:=Hand.hc4 g_A
 obtain ⟨z_B,z1_B,z2_B,y0_B,y1_B⟩:=Hand.hz g_B
 obtain ⟨c_B_0,f_B_0,c_B_1,f_B_1,c_B_2,f_B_2,c_B_3,f_B_3⟩:=Hand.hc4 g_B
 obtain ⟨z_R,z1_R,z2_R,y0_R,y1_R⟩:=Hand.hz g_R
 obtain ⟨c_R_0,f_R_0,c_R_1,f_R_1⟩:=Hand.hc2 g_R
 obtain ⟨z_X,z1_X,z2_X,y0_X,y1_X⟩:=Hand.hz g_X
 obtain ⟨c_X_0,f_X_0,c_X_1,f_X_1⟩:=Hand.hc2 g_X
 have zw:w.heap.size≤w2.heap.size:=hB.size
 have HG:=Lib.hid (And.intro g_A (And.intro g_B (And.intro g_R (And.intro g_X (hB)))))
 clear g_A g_B g_R g_X hB
 have k_e2:(e2 != 0)=false:=by simpa using h_e2
 clear h_e2
 go_wp2_with fail
 with_reducible refine (M3.out _).mono ?_
 rintro e w3 ⟨rfl,hb3⟩
 obtain ⟨g_A,g_B,g_R,g_X,hB⟩:=HG.out
 have h_A:w3.heap[w.heap.size]?=some (.cells #[.int .i64 a1,.int .i64 a2,.int .i64 a3,.int .i64 a4] 35 (0,0)):=by
  refine Hand.kb hb3 ?_;first|with_reducible exact g_A|(simp (disch:=try exact Hand.z) only [Hand.q2,Hand.q1,Hand.q5,Hand.q6,Hand.q4,Hand.q3,g_A]<;>rfl)
 have h_B:w3.heap[w.heap.size+1]?=some (.cells #[.int .i64 b1,.int .i64 b2,.int .i64 b3,.int .i64 b4] 35 (0,0)):=by
  refine Hand.kb hb3 ?_;first|with_reducible exact g_B|(simp (disch:=try exact Hand.z) only [Hand.q2,Hand.q1,Hand.q5,Hand.q6,Hand.q4,Hand.q3,g_B]<;>rfl)
 have h_R:w3.heap[w.heap.size+1+1]?=some (.cells #[.int .i64 0,.int .i64 0] 31 (0,0)):=by
  refine Hand.kb hb3 ?_;first|with_reducible exact g_R|(simp (disch:=try exact Hand.z) only [Hand.q2,Hand.q1,Hand.q5,Hand.q6,Hand.q4,Hand.q3,g_R]<;>rfl)
 have h_X:w3.heap[w1.heap.size]?=some (.cells #[.int .i64 x1,.int .i64 x2] 31 (0,0)):=by
  refine Hand.kb hb3 ?_;first|with_reducible exact g_X|(simp (disch:=try exact Hand.z) only [Hand.q2,Hand.q1,Hand.q5,Hand.q6,Hand.q4,Hand.q3,g_X]<;>rfl)
 have h_Y:w3.heap[w2.heap.size]?=some (.cells #[.int .i64 y1,.int .i64 y2] 31 (0,0)):=by
  exact Hand.kb hb3 Hand.k
 have hB':Below w.heap.size w w3:=Hand.stepB hb3 Hand.b (Nat.le_refl _)
 clear HG hB g_A g_B g_R g_X zw z_A z1_A z2_A y0_A y1_A c_A_0 f_A_0 c_A_1 f_A_1 c_A_2 f_A_2 c_A_3 f_A_3 z_B z1_B z2_B y0_B y1_B c_B_0 f_B_0 c_B_1 f_B_1 c_B_2 f_B_2 c_B_3 f_B_3 z_R z1_R z2_R y0_R y1_R c_R_0 f_R_0 c_R_1 f_R_1 z_X z1_X z2_X y0_X y1_X c_X_0 f_X_0 c_X_1 f_X_1
 clear hb3
 have g_A:=h_A
 have g_B:=h_B
 have g_R:=h_R
 have g_X:=h_X
 have g_Y:=h_Y
 have hB:=hB'
 clear hB' h_A h_B h_R h_X h_Y
 obtain ⟨z_A,z1_A,z2_A,y0_A,y1_A⟩:=Hand.hz g_A
 obtain ⟨c_A_0,f_A_0,c_A_1,f_A_1,c_A_2,f_A_2,c_A_3,f_A_3⟩:=Hand.hc4 g_A
 obtain ⟨z_B,z1_B,z2_B,y0_B,y1_B⟩:=Hand.hz g_B
 obtain ⟨c_B_0,f_B_0,c_B_1,f_B_1,c_B_2,f_B_2,c_B_3,f_B_3⟩:=Hand.hc4 g_B
 obtain ⟨z_R,z1_R,z2_R,y0_R,y1_R⟩:=Hand.hz g_R
 obtain ⟨c_R_0,f_R_0,c_R_1,f_R_1⟩:=Hand.hc2 g_R
 obtain ⟨z_X,z1_X,z2_X,y0_X,y1_X⟩:=Hand.hz g_X
 obtain ⟨c_X_0,f_X_0,c_X_1,f_X_1⟩:=Hand.hc2 g_X
 obtain ⟨z_Y,z1_Y,z2_Y,y0_Y,y1_Y⟩:=Hand.hz g_Y
 obtain ⟨c_Y_0,f_Y_0,c_Y_1,f_Y_1⟩:=Hand.hc2 g_Y
 have zw:w.heap.size≤w3.heap.size:=hB.size
 have HG:=Lib.hid (And.intro g_A (And.intro g_B (And.intro g_R (And.intro g_X (And.intro g_Y (hB))))))
 clear g_A g_B g_R g_X g_Y hB
 go_wp2
 obtain ⟨g_A,g_B,g_R,g_X,g_Y,hB⟩:=HG.out
 refine bodyPost_ret (results_ct rfl _ _ (w.heap.size+1+1) 31 #[.int .i64 z1,.int .i64 z2] (0,0) _ rfl ?_ Try.underlying31 rfl (by kernel_rfl)) rfl ⟨rfl,?_⟩
 ·simp (disch:=try exact Hand.z) only [Hand.q1,Hand.q2,Hand.q4,Hand.q3,Hand.q5,Hand.q6,Option.map_some,Hand.putc_cells,List.setIfInBounds_toArray,List.set_cons_zero,List.set_cons_succ,g_R];try rfl
 ·exact Hand.b
theorem reckon_1 (e1 k1 k2 k3 k4 s1 s2 t1 t2 x1 x2:Int) (h_e1:e1≠0) (w:World)
  (m1:∀ w,Calls Try.prog 59 #[.agg #[.int .i64 t1,.int .i64 t2],.agg #[.int .i64 k1,.int .i64 k2]] w fun e w'=>e = .returned (.tuple #[.agg #[.int .i64 x1,.int .i64 x2],.int .i64 e1])∧Below w.heap.size w w') :
  Calls Try.prog 90 #[.agg #[.int .i64 k1,.int .i64 k2,.int .i64 k3,.int .i64 k4],.agg #[.int .i64 s1,.int .i64 s2],.agg #[.int .i64 t1,.int .i64 t2]] w fun e w'=>e = .returned (.tuple #[.agg #[.int .i64 0,.int .i64 0],.int .i64 e1])∧Below w.heap.size w w':=by
 have M1:=Lib.hid m1
 clear m1
 go_enter Try.func90,Try.ntmps90
 go_wp2_with fail
 with_reducible refine (M1.out _).mono ?_
 rintro e w1 ⟨rfl,hb1⟩
 have h_A:w1.heap[w.heap.size]?=some (.cells #[.int .i64 k1,.int .i64 k2,.int .i64 k3,.int .i64 k4] 35 (0,0)):=by
  exact Hand.kb hb1 Hand.k
 have h_S:w1.heap[w.heap.size+1]?=some (.cells #[.int .i64 s1,.int .i64 s2] 31 (0,0)):=by
  exact Hand.kb hb1 Hand.k
 have h_T:w1.heap[w.heap.size+1+1]?=some (.cells #[.int .i64 t1,.int .i64 t2] 31 (0,0)):=by
  exact Hand.kb hb1 Hand.k
 have h_R:w1.heap[w.heap.size+1+1+1]?=some (.cells #[.int .i64 0,.int .i64 0] 31 (0,0)):=by
  exact Hand.kb hb1 Hand.k
 have hB':Below w.heap.size w w1:=Hand.stepB hb1 Hand.b (Nat.le_refl _)
 clear hb1
 have g_A:=h_A
 have g_S:=h_S
 have g_T:=h_T
 have g_R:=h_R
 have hB:=hB'
 clear hB' h_A h_S h_T h_R
 obtain ⟨z_A,z1_A,z2_A,y0_A,y1_A⟩:=Hand.hz g_A
 obtain ⟨c_A_0,f_A_0,c_A_1,f_A_1,c_A_2,f_A_2,c_A_3,f_A_3⟩:=Hand.hc4 g_A
 obtain ⟨z_S,z1_S,z2_S,y0_S,y1_S⟩:=Hand.hz g_S
 obtain ⟨c_S_0,f_S_0,c_S_1,f_S_1⟩:=Hand.hc2 g_S
 obtain ⟨z_T,z1_T,z2_T,y0_T,y1_T⟩:=Hand.hz g_T
 obtain ⟨c_T_0,f_T_0,c_T_1,f_T_1⟩:=Hand.hc2 g_T
 obtain ⟨z_R,z1_R,z2_R,y0_R,y1_R⟩:=Hand.hz g_R
 obtain ⟨c_R_0,f_R_0,c_R_1,f_R_1⟩:=Hand.hc2 g_R
 have zw:w.heap.size≤w1.heap.size:=hB.size
 have HG:=Lib.hid (And.intro g_A (And.intro g_S (And.intro g_T (And.intro g_R (hB)))))
 clear g_A g_S g_T g_R hB
 have k_e1:(e1 != 0)=true:=by simpa using h_e1
 clear h_e1
 have hz1:=z_R
 have n0a:(w1.heap.size=w.heap.size)=False:=eq_false (by omega)
 have n0b:(w.heap.size=w1.heap.size)=False:=eq_false (by omega)
 have n4a:(w1.heap.size=w.heap.size+1)=False:=eq_false (by omega)
 have n4b:(w.heap.size+1=w1.heap.size)=False:=eq_false (by omega)
 have n8a:(w1.heap.size=w.heap.size+1+1)=False:=eq_false (by omega)
 have n8b:(w.heap.size+1+1=w1.heap.size)=False:=eq_false (by omega)
 have n12a:(w1.heap.size=w.heap.size+1+1+1)=False:=eq_false (by omega)
 have n12b:(w.heap.size+1+1+1=w1.heap.size)=False:=eq_false (by omega)
 go_wp2
 obtain ⟨g_A,g_S,g_T,g_R,hB⟩:=HG.out
 refine bodyPost_ret (results_ct rfl _ _ (w.heap.size+1+1+1) 31 #[.int .i64 0,.int .i64 0] (0,0) _ rfl ?_ Try.underlying31 rfl (by kernel_rfl)) rfl ⟨rfl,?_⟩
 ·simp (disch:=try exact Hand.z) only [Hand.q1,Hand.q2,Hand.q4,Hand.q3,Hand.q5,Hand.q6,Option.map_some,Hand.putc_cells,List.setIfInBounds_toArray,List.set_cons_zero,List.set_cons_succ,g_R];try rfl
 ·exact Hand.b
theorem reckon_2 (e1 e2 k1 k2 k3 k4 s1 s2 t1 t2 x1 x2 y1 y2:Int) (h_e1:e1=0) (h_e2:e2≠0) (w:World)
  (m1:∀ w,Calls Try.prog 59 #[.agg #[.int .i64 t1,.int .i64 t2],.agg #[.int .i64 k1,.int .i64 k2]] w fun e w'=>e = .returned (.tuple #[.agg #[.int .i64 x1,.int .i64 x2],.int .i64 e1])∧Below w.heap.size w w')
  (m2:∀ w,Calls Try.prog 111 #[.agg #[.int .i64 x1,.int .i64 x2],.agg #[.int .i64 s1,.int .i64 s2]] w fun e w'=>e = .returned (.tuple #[.agg #[.int .i64 y1,.int .i64 y2],.int .i64 e2])∧Below w.heap.size w w') :
  Calls Try.prog 90 #[.agg #[.int .i64 k1,.int .i64 k2,.int .i64 k3,.int .i64 k4],.agg #[.int .i64 s1,.int .i64 s2],.agg #[.int .i64 t1,.int .i64 t2]] w fun e w'=>e = .returned (.tuple #[.agg #[.int .i64 0,.int .i64 0],.int .i64 e2])∧Below w.heap.size w w':=by
 have M1:=Lib.hid m1
 have M2:=Lib.hid m2
 clear m1 m2
 go_enter Try.func90,Try.ntmps90
 go_wp2_with fail
 with_reducible refine (M1.out _).mono ?_
 rintro e w1 ⟨rfl,hb1⟩
 have h_A:w1.heap[w.heap.size]?=some (.cells #[.int .i64 k1,.int .i64 k2,.int .i64 k3,.int .i64 k4] 35 (0,0)):=by
  exact Hand.kb hb1 Hand.k
 have h_S:w1.heap[w.heap.size+1]?=some (.cells #[.int .i64 s1,.int .i64 s2] 31 (0,0)):=by
  exact Hand.kb hb1 Hand.k
 have h_T:w1.heap[w.heap.size+1+1]?=some (.cells #[.int .i64 t1,.int .i64 t2] 31 (0,0)):=by
  exact Hand.kb hb1 Hand.k
 have h_R:w1.heap[w.heap.size+1+1+1]?=some (.cells #[.int .i64 0,.int .i64 0] 31 (0,0)):=by
  exact Hand.kb hb1 Hand.k
 have hB':Below w.heap.size w w1:=Hand.stepB hb1 Hand.b (Nat.le_refl _)
 clear hb1
 have g_A:=h_A
 have g_S:=h_S
 have g_T:=h_T
 have g_R:=h_R
 have hB:=hB'
 clear hB' h_A h_S h_T h_R
 obtain ⟨z_A,z1_A,z2_A,y0_A,y1_A⟩:=Hand.hz g_A
 obtain ⟨c_A_0,f_A_0,c_A_1,f_A_1,c_A_2,f_A_2,c_A_3,f_A_3⟩:=Hand.hc4 g_A
 obtain ⟨z_S,z1_S,z2_S,y0_S,y1_S⟩:=Hand.hz g_S
 obtain ⟨c_S_0,f_S_0,c_S_1,f_S_1⟩:=Hand.hc2 g_S
 obtain ⟨z_T,z1_T,z2_T,y0_T,y1_T⟩:=Hand.hz g_T
 obtain ⟨c_T_0,f_T_0,c_T_1,f_T_1⟩:=Hand.hc2 g_T
 obtain ⟨z_R,z1_R,z2_R,y0_R,y1_R⟩:=Hand.hz g_R
 obtain ⟨c_R_0,f_R_0,c_R_1,f_R_1⟩:=Hand.hc2 g_R
 have zw:w.heap.size≤w1.heap.size:=hB.size
 have HG:=Lib.hid (And.intro g_A (And.intro g_S (And.intro g_T (And.intro g_R (hB)))))
 clear g_A g_S g_T g_R hB
 have k_e1:(e1 != 0)=false:=by simpa using h_e1
 clear h_e1
 have hz1:=z_R
 have n0a:(w1.heap.size=w.heap.size)=False:=eq_false (by omega)
 have n0b:(w.heap.size=w1.heap.size)=False:=eq_false (by omega)
 have n4a:(w1.heap.size=w.heap.size+1)=False:=eq_false (by omega)
 have n4b:(w.heap.size+1=w1.heap.size)=False:=eq_false (by omega)
 have n8a:(w1.heap.size=w.heap.size+1+1)=False:=eq_false (by omega)
 have n8b:(w.heap.size+1+1=w1.heap.size)=False:=eq_false (by omega)
 have n12a:(w1.heap.size=w.heap.size+1+1+1)=False:=eq_false (by omega)
 have n12b:(w.heap.size+1+1+1=w1.heap.size)=False:=eq_false (by omega)
 go_wp2_with fail
 with_reducible refine (M2.out _).mono ?_
 rintro e w2 ⟨rfl,hb2⟩
 obtain ⟨g_A,g_S,g_T,g_R,hB⟩:=HG.out
 have h_A:w2.heap[w.heap.size]?=some (.cells #[.int .i64 k1,.int .i64 k2,.int .i64 k3,.int .i64 k4] 35 (0,0)):=by
  refine Hand.kb hb2 ?_;first|with_reducible exact g_A|(simp (disch:=try exact Hand.z) only [Hand.q2,Hand.q1,Hand.q5,Hand.q6,Hand.q4,Hand.q3,g_A]<;>rfl)
 have h_S:w2.heap[w.heap.size+1]?=some (.cells #[.int .i64 s1,.int .i64 s2] 31 (0,0)):=by
  refine Hand.kb hb2 ?_;first|with_reducible exact g_S|(simp (disch:=try exact Hand.z) only [Hand.q2,Hand.q1,Hand.q5,Hand.q6,Hand.q4,Hand.q3,g_S]<;>rfl)
 have h_T:w2.heap[w.heap.size+1+1]?=some (.cells #[.int .i64 t1,.int .i64 t2] 31 (0,0)):=by
  refine Hand.kb hb2 ?_;first|with_reducible exact g_T|(simp (disch:=try exact Hand.z) only [Hand.q2,Hand.q1,Hand.q5,Hand.q6,Hand.q4,Hand.q3,g_T]<;>rfl)
 have h_R:w2.heap[w.heap.size+1+1+1]?=some (.cells #[.int .i64 0,.int .i64 0] 31 (0,0)):=by
  refine Hand.kb hb2 ?_;first|with_reducible exact g_R|(simp (disch:=try exact Hand.z) only [Hand.q2,Hand.q1,Hand.q5,Hand.q6,Hand.q4,Hand.q3,g_R]<;>rfl)
 have h_X:w2.heap[w1.heap.size]?=some (.cells #[.int .i64 x1,.int .i64 x2] 31 (0,0)):=by
  exact Hand.kb hb2 Hand.k
 have hB':Below w.heap.size w w2:=Hand.stepB hb2 Hand.b (Nat.le_refl _)
 clear HG hB g_A g_S g_T g_R zw z_A z1_A z2_A y0_A y1_A c_A_0 f_A_0 c_A_1 f_A_1 c_A_2 f_A_2 c_A_3 f_A_3 z_S z1_S z2_S y0_S y1_S c_S_0 f_S_0 c_S_1 f_S_1 z_T z1_T z2_T y0_T y1_T c_T_0 f_T_0 c_T_1 f_T_1 z_R z1_R z2_R y0_R y1_R c_R_0 f_R_0 c_R_1 f_R_1
 clear hb2
 have g_A:=h_A
 have g_S:=h_S
 have g_T:=h_T
 have g_R:=h_R
 have g_X:=h_X
 have hB:=hB'
 clear hB' h_A h_S h_T h_R h_X
 obtain ⟨z_A,z1_A,z2_A,y0_A,y1_A⟩:=Hand.hz g_A
 obtain ⟨c_A_0,f_A_0,c_A_1,f_A_1,c_A_2,f_A_2,c_A_3,f_A_3⟩:=Hand.hc4 g_A
 obtain ⟨z_S,z1_S,z2_S,y0_S,y1_S⟩:=Hand.hz g_S
 obtain ⟨c_S_0,f_S_0,c_S_1,f_S_1⟩:=Hand.hc2 g_S
 obtain ⟨z_T,z1_T,z2_T,y0_T,y1_T⟩:=Hand.hz g_T
 obtain ⟨c_T_0,f_T_0,c_T_1,f_T_1⟩:=Hand.hc2 g_T
 obtain ⟨z_R,z1_R,z2_R,y0_R,y1_R⟩:=Hand.hz g_R
 obtain ⟨c_R_0,f_R_0,c_R_1,f_R_1⟩:=Hand.hc2 g_R
 obtain ⟨z_X,z1_X,z2_X,y0_X,y1_X⟩:=Hand.hz g_X
 obtain ⟨c_X_0,f_X_0,c_X_1,f_X_1⟩:=Hand.hc2 g_X
 have zw:w.heap.size≤w2.heap.size:=hB.size
 have HG:=Lib.hid (And.intro g_A (And.intro g_S (And.intro g_T (And.intro g_R (And.intro g_X (hB))))))
 clear g_A g_S g_T g_R g_X hB
 have k_e2:(e2 != 0)=true:=by simpa using h_e2
 clear h_e2
 go_wp2
 obtain ⟨g_A,g_S,g_T,g_R,g_X,hB⟩:=HG.out
 refine bodyPost_ret (results_ct rfl _ _ (w.heap.size+1+1+1) 31 #[.int .i64 0,.int .i64 0] (0,0) _ rfl ?_ Try.underlying31 rfl (by kernel_rfl)) rfl ⟨rfl,?_⟩
 ·simp (disch:=try exact Hand.z) only [Hand.q1,Hand.q2,Hand.q4,Hand.q3,Hand.q5,Hand.q6,Option.map_some,Hand.putc_cells,List.setIfInBounds_toArray,List.set_cons_zero,List.set_cons_succ,g_R];try rfl
 ·exact Hand.b
theorem reckon_3 (e1 e2 e3 k1 k2 k3 k4 s1 s2 t1 t2 x1 x2 y1 y2 z1 z2:Int) (h_e1:e1=0) (h_e2:e2=0) (w:World)
  (m1:∀ w,Calls Try.prog 59 #[.agg #[.int .i64 t1,.int .i64 t2],.agg #[.int .i64 k1,.int .i64 k2]] w fun e w'=>e = .returned (.tuple #[.agg #[.int .i64 x1,.int .i64 x2],.int .i64 e1])∧Below w.heap.size w w')
  (m2:∀ w,Calls Try.prog 111 #[.agg #[.int .i64 x1,.int .i64 x2],.agg #[.int .i64 s1,.int .i64 s2]] w fun e w'=>e = .returned (.tuple #[.agg #[.int .i64 y1,.int .i64 y2],.int .i64 e2])∧Below w.heap.size w w')
  (m3:∀ w,Calls Try.prog 60 #[.agg #[.int .i64 k3,.int .i64 k4],.agg #[.int .i64 y1,.int .i64 y2]] w fun e w'=>e = .returned (.tuple #[.agg #[.int .i64 z1,.int .i64 z2],.int .i64 e3])∧Below w.heap.size w w') :
  Calls Try.prog 90 #[.agg #[.int .i64 k1,.int .i64 k2,.int .i64 k3,.int .i64 k4],.agg #[.int .i64 s1,.int .i64 s2],.agg #[.int .i64 t1,.int .i64 t2]] w fun e w'=>e = .returned (.tuple #[.agg #[.int .i64 z1,.int .i64 z2],.int .i64 e3])∧Below w.heap.size w w':=by
 have M1:=Lib.hid m1
 have M2:=Lib.hid m2
 have M3:=Lib.hid m3
 clear m1 m2 m3
 go_enter Try.func90,Try.ntmps90
 go_wp2_with fail
 with_reducible refine (M1.out _).mono ?_
 rintro e w1 ⟨rfl,hb1⟩
 have h_A:w1.heap[w.heap.size]?=some (.cells #[.int .i64 k1,.int .i64 k2,.int .i64 k3,.int .i64 k4] 35 (0,0)):=by
  exact Hand.kb hb1 Hand.k
 have h_S:w1.heap[w.heap.size+1]?=some (.cells #[.int .i64 s1,.int .i64 s2] 31 (0,0)):=by
  exact Hand.kb hb1 Hand.k
 have h_T:w1.heap[w.heap.size+1+1]?=some (.cells #[.int .i64 t1,.int .i64 t2] 31 (0,0)):=by
  exact Hand.kb hb1 Hand.k
 have h_R:w1.heap[w.heap.size+1+1+1]?=some (.cells #[.int .i64 0,.int .i64 0] 31 (0,0)):=by
  exact Hand.kb hb1 Hand.k
 have hB':Below w.heap.size w w1:=Hand.stepB hb1 Hand.b (Nat.le_refl _)
 clear hb1
 have g_A:=h_A
 have g_S:=h_S
 have g_T:=h_T
 have g_R:=h_R
 have hB:=hB'
 clear hB' h_A h_S h_T h_R
 obtain ⟨z_A,z1_A,z2_A,y0_A,y1_A⟩:=Hand.hz g_A
 obtain ⟨c_A_0,f_A_0,c_A_1,f_A_1,c_A_2,f_A_2,c_A_3,f_A_3⟩:=Hand.hc4 g_A
 obtain ⟨z_S,z1_S,z2_S,y0_S,y1_S⟩:=Hand.hz g_S
 obtain ⟨c_S_0,f_S_0,c_S_1,f_S_1⟩:=Hand.hc2 g_S
 obtain ⟨z_T,z1_T,z2_T,y0_T,y1_T⟩:=Hand.hz g_T
 obtain ⟨c_T_0,f_T_0,c_T_1,f_T_1⟩:=Hand.hc2 g_T
 obtain ⟨z_R,z1_R,z2_R,y0_R,y1_R⟩:=Hand.hz g_R
 obtain ⟨c_R_0,f_R_0,c_R_1,f_R_1⟩:=Hand.hc2 g_R
 have zw:w.heap.size≤w1.heap.size:=hB.size
 have HG:=Lib.hid (And.intro g_A (And.intro g_S (And.intro g_T (And.intro g_R (hB)))))
 clear g_A g_S g_T g_R hB
 have k_e1:(e1 != 0)=false:=by simpa using h_e1
 clear h_e1
 have hz1:=z_R
 have n0a:(w1.heap.size=w.heap.size)=False:=eq_false (by omega)
 have n0b:(w.heap.size=w1.heap.size)=False:=eq_false (by omega)
 have n4a:(w1.heap.size=w.heap.size+1)=False:=eq_false (by omega)
 have n4b:(w.heap.size+1=w1.heap.size)=False:=eq_false (by omega)
 have n8a:(w1.heap.size=w.heap.size+1+1)=False:=eq_false (by omega)
 have n8b:(w.heap.size+1+1=w1.heap.size)=False:=eq_false (by omega)
 have n12a:(w1.heap.size=w.heap.size+1+1+1)=False:=eq_false (by omega)
 have n12b:(w.heap.size+1+1+1=w1.heap.size)=False:=eq_false (by omega)
 go_wp2_with fail
 with_reducible refine (M2.out _).mono ?_
 rintro e w2 ⟨rfl,hb2⟩
 obtain ⟨g_A,g_S,g_T,g_R,hB⟩:=HG.out
 have h_A:w2.heap[w.heap.size]?=some (.cells #[.int .i64 k1,.int .i64 k2,.int .i64 k3,.int .i64 k4] 35 (0,0)):=by
  refine Hand.kb hb2 ?_;first|with_reducible exact g_A|(simp (disch:=try exact Hand.z) only [Hand.q2,Hand.q1,Hand.q5,Hand.q6,Hand.q4,Hand.q3,g_A]<;>rfl)
 have h_S:w2.heap[w.heap.size+1]?=some (.cells #[.int .i64 s1,.int .i64 s2] 31 (0,0)):=by
  refine Hand.kb hb2 ?_;first|with_reducible exact g_S|(simp (disch:=try exact Hand.z) only [Hand.q2,Hand.q1,Hand.q5,Hand.q6,Hand.q4,Hand.q3,g_S]<;>rfl)
 have h_T:w2.heap[w.heap.size+1+1]?=some (.cells #[.int .i64 t1,.int .i64 t2] 31 (0,0)):=by
  refine Hand.kb hb2 ?_;first|with_reducible exact g_T|(simp (disch:=try exact Hand.z) only [Hand.q2,Hand.q1,Hand.q5,Hand.q6,Hand.q4,Hand.q3,g_T]<;>rfl)
 have h_R:w2.heap[w.heap.size+1+1+1]?=some (.cells #[.int .i64 0,.int .i64 0] 31 (0,0)):=by
  refine Hand.kb hb2 ?_;first|with_reducible exact g_R|(simp (disch:=try exact Hand.z) only [Hand.q2,Hand.q1,Hand.q5,Hand.q6,Hand.q4,Hand.q3,g_R]<;>rfl)
 have h_X:w2.heap[w1.heap.size]?=some (.cells #[.int .i64 x1,.int .i64 x2] 31 (0,0)):=by
  exact Hand.kb hb2 Hand.k
 have hB':Below w.heap.size w w2:=Hand.stepB hb2 Hand.b (Nat.le_refl _)
 clear HG hB g_A g_S g_T g_R zw z_A z1_A z2_A y0_A y1_A c_A_0 f_A_0 c_A_1 f_A_1 c_A_2 f_A_2 c_A_3 f_A_3 z_S z1_S z2_S y0_S y1_S c_S_0 f_S_0 c_S_1 f_S_1 z_T z1_T z2_T y0_T y1_T c_T_0 f_T_0 c_T_1 f_T_1 z_R z1_R z2_R y0_R y1_R c_R_0 f_R_0 c_R_1 f_R_1
 clear hb2
 have g_A:=h_A
 have g_S:=h_S
 have g_T:=h_T
 have g_R:=h_R
 have g_X:=h_X
 have hB:=hB'
 clear hB' h_A h_S h_T h_R h_X
 obtain ⟨z_A,z1_A,z2_A,y0_A,y1_A⟩:=Hand.hz g_A
 obtain ⟨c_A_0,f_A_0,c_A_1,f_A_1,c_A_2,f_A_2,c_A_3,f_A_3⟩:=Hand.hc4 g_A
 obtain ⟨z_S,z1_S,z2_S,y0_S,y1_S⟩:=Hand.hz g_S
 obtain ⟨c_S_0,f_S_0,c_S_1,f_S_1⟩:=Hand.hc2 g_S
 obtain ⟨z_T,z1_T,z2_T,y0_T,y1_T⟩:=Hand.hz g_T
 obtain ⟨c_T_0,f_T_0,c_T_1,f_T_1⟩:=Hand.hc2 g_T
 obtain ⟨z_R,z1_R,z2_R,y0_R,y1_R⟩:=Hand.hz g_R
 obtain ⟨c_R_0,f_R_0,c_R_1,f_R_1⟩:=Hand.hc2 g_R
 obtain ⟨z_X,z1_X,z2_X,y0_X,y1_X⟩:=Hand.hz g_X
 obtain ⟨c_X_0,f_X_0,c_X_1,f_X_1⟩:=Hand.hc2 g_X
 have zw:w.heap.size≤w2.heap.size:=hB.size
 have HG:=Lib.hid (And.intro g_A (And.intro g_S (And.intro g_T (And.intro g_R (And.intro g_X (hB))))))
 clear g_A g_S g_T g_R g_X hB
 have k_e2:(e2 != 0)=false:=by simpa using h_e2
 clear h_e2
 go_wp2_with fail
 with_reducible refine (M3.out _).mono ?_
 rintro e w3 ⟨rfl,hb3⟩
 obtain ⟨g_A,g_S,g_T,g_R,g_X,hB⟩:=HG.out
 have h_A:w3.heap[w.heap.size]?=some (.cells #[.int .i64 k1,.int .i64 k2,.int .i64 k3,.int .i64 k4] 35 (0,0)):=by
  refine Hand.kb hb3 ?_;first|with_reducible exact g_A|(simp (disch:=try exact Hand.z) only [Hand.q2,Hand.q1,Hand.q5,Hand.q6,Hand.q4,Hand.q3,g_A]<;>rfl)
 have h_S:w3.heap[w.heap.size+1]?=some (.cells #[.int .i64 s1,.int .i64 s2] 31 (0,0)):=by
  refine Hand.kb hb3 ?_;first|with_reducible exact g_S|(simp (disch:=try exact Hand.z) only [Hand.q2,Hand.q1,Hand.q5,Hand.q6,Hand.q4,Hand.q3,g_S]<;>rfl)
 have h_T:w3.heap[w.heap.size+1+1]?=some (.cells #[.int .i64 t1,.int .i64 t2] 31 (0,0)):=by
  refine Hand.kb hb3 ?_;first|with_reducible exact g_T|(simp (disch:=try exact Hand.z) only [Hand.q2,Hand.q1,Hand.q5,Hand.q6,Hand.q4,Hand.q3,g_T]<;>rfl)
 have h_R:w3.heap[w.heap.size+1+1+1]?=some (.cells #[.int .i64 0,.int .i64 0] 31 (0,0)):=by
  refine Hand.kb hb3 ?_;first|with_reducible exact g_R|(simp (disch:=try exact Hand.z) only [Hand.q2,Hand.q1,Hand.q5,Hand.q6,Hand.q4,Hand.q3,g_R]<;>rfl)
 have h_X:w3.heap[w1.heap.size]?=some (.cells #[.int .i64 y1,.int .i64 y2] 31 (0,0)):=by
  refine Hand.kb hb3 ?_;simp (disch:=try exact Hand.z) only [Hand.q2,Hand.q1,Hand.q5,Hand.q6,Hand.q4,Hand.q3,g_X]<;>rfl
 have hB':Below w.heap.size w w3:=Hand.stepB hb3 Hand.b (Nat.le_refl _)
 clear HG hB g_A g_S g_T g_R g_X zw z_A z1_A z2_A y0_A y1_A c_A_0 f_A_0 c_A_1 f_A_1 c_A_2 f_A_2 c_A_3 f_A_3 z_S z1_S z2_S y0_S y1_S c_S_0 f_S_0 c_S_1 f_S_1 z_T z1_T z2_T y0_T y1_T c_T_0 f_T_0 c_T_1 f_T_1 z_R z1_R z2_R y0_R y1_R c_R_0 f_R_0 c_R_1 f_R_1 z_X z1_X z2_X y0_X y1_X c_X_0 f_X_0 c_X_1 f_X_1
 clear hb3
 have g_A:=h_A
 have g_S:=h_S
 have g_T:=h_T
 have g_R:=h_R
 have g_X:=h_X
 have hB:=hB'
 clear hB' h_A h_S h_T h_R h_X
 obtain ⟨z_A,z1_A,z2_A,y0_A,y1_A⟩:=Hand.hz g_A
 obtain ⟨c_A_0,f_A_0,c_A_1,f_A_1,c_A_2,f_A_2,c_A_3,f_A_3⟩:=Hand.hc4 g_A
 obtain ⟨z_S,z1_S,z2_S,y0_S,y1_S⟩:=Hand.hz g_S
 obtain ⟨c_S_0,f_S_0,c_S_1,f_S_1⟩:=Hand.hc2 g_S
 obtain ⟨z_T,z1_T,z2_T,y0_T,y1_T⟩:=Hand.hz g_T
 obtain ⟨c_T_0,f_T_0,c_T_1,f_T_1⟩:=Hand.hc2 g_T
 obtain ⟨z_R,z1_R,z2_R,y0_R,y1_R⟩:=Hand.hz g_R
 obtain ⟨c_R_0,f_R_0,c_R_1,f_R_1⟩:=Hand.hc2 g_R
 obtain ⟨z_X,z1_X,z2_X,y0_X,y1_X⟩:=Hand.hz g_X
 obtain ⟨c_X_0,f_X_0,c_X_1,f_X_1⟩:=Hand.hc2 g_X
 have zw:w.heap.size≤w3.heap.size:=hB.size
 have HG:=Lib.hid (And.intro g_A (And.intro g_S (And.intro g_T (And.intro g_R (And.intro g_X (hB))))))
 clear g_A g_S g_T g_R g_X hB
 go_wp2
 obtain ⟨g_A,g_S,g_T,g_R,g_X,hB⟩:=HG.out
 refine bodyPost_ret (results_ct rfl _ _ (w.heap.size+1+1+1) 31 #[.int .i64 z1,.int .i64 z2] (0,0) _ rfl ?_ Try.underlying31 rfl (by kernel_rfl)) rfl ⟨rfl,?_⟩
 ·simp (disch:=try exact Hand.z) only [Hand.q1,Hand.q2,Hand.q4,Hand.q3,Hand.q5,Hand.q6,Option.map_some,Hand.putc_cells,List.setIfInBounds_toArray,List.set_cons_zero,List.set_cons_succ,g_R];try rfl
 ·exact Hand.b
theorem rback_1 (e1 k1 k2 k3 k4 s1 s2 t1 t2 x1 x2:Int) (h_e1:e1≠0) (w:World)
  (m1:∀ w,Calls Try.prog 59 #[.agg #[.int .i64 t1,.int .i64 t2],.agg #[.int .i64 k3,.int .i64 k4]] w fun e w'=>e = .returned (.tuple #[.agg #[.int .i64 x1,.int .i64 x2],.int .i64 e1])∧Below w.heap.size w w') :
  Calls Try.prog 105 #[.agg #[.int .i64 k1,.int .i64 k2,.int .i64 k3,.int .i64 k4],.agg #[.int .i64 s1,.int .i64 s2],.agg #[.int .i64 t1,.int .i64 t2]] w fun e w'=>e = .returned (.tuple #[.agg #[.int .i64 0,.int .i64 0],.int .i64 e1])∧Below w.heap.size w w':=by
 have M1:=Lib.hid m1
 clear m1
 go_enter Try.func105,Try.ntmps105
 go_wp2_with fail
 with_reducible refine (M1.out _).mono ?_
 rintro e w1 ⟨rfl,hb1⟩
 have h_A:w1.heap[w.heap.size]?=some (.cells #[.int .i64 k1,.int .i64 k2,.int .i64 k3,.int .i64 k4] 35 (0,0)):=by
  exact Hand.kb hb1 Hand.k
 have h_S:w1.heap[w.heap.size+1]?=some (.cells #[.int .i64 s1,.int .i64 s2] 31 (0,0)):=by
  exact Hand.kb hb1 Hand.k
 have h_T:w1.heap[w.heap.size+1+1]?=some (.cells #[.int .i64 t1,.int .i64 t2] 31 (0,0)):=by
  exact Hand.kb hb1 Hand.k
 have h_R:w1.heap[w.heap.size+1+1+1]?=some (.cells #[.int .i64 0,.int .i64 0] 31 (0,0)):=by
  exact Hand.kb hb1 Hand.k
 have hB':Below w.heap.size w w1:=Hand.stepB hb1 Hand.b (Nat.le_refl _)
 clear hb1
 have g_A:=h_A
 have g_S:=h_S
 have g_T:=h_T
 have g_R:=h_R
 have hB:=hB'
 clear hB' h_A h_S h_T h_R
 obtain ⟨z_A,z1_A,z2_A,y0_A,y1_A⟩:=Hand.hz g_A
 obtain ⟨c_A_0,f_A_0,c_A_1,f_A_1,c_A_2,f_A_2,c_A_3,f_A_3⟩:=Hand.hc4 g_A
 obtain ⟨z_S,z1_S,z2_S,y0_S,y1_S⟩:=Hand.hz g_S
 obtain ⟨c_S_0,f_S_0,c_S_1,f_S_1⟩:=Hand.hc2 g_S
 obtain ⟨z_T,z1_T,z2_T,y0_T,y1_T⟩:=Hand.hz g_T
 obtain ⟨c_T_0,f_T_0,c_T_1,f_T_1⟩:=Hand.hc2 g_T
 obtain ⟨z_R,z1_R,z2_R,y0_R,y1_R⟩:=Hand.hz g_R
 obtain ⟨c_R_0,f_R_0,c_R_1,f_R_1⟩:=Hand.hc2 g_R
 have zw:w.heap.size≤w1.heap.size:=hB.size
 have HG:=Lib.hid (And.intro g_A (And.intro g_S (And.intro g_T (And.intro g_R (hB)))))
 clear g_A g_S g_T g_R hB
 have k_e1:(e1 != 0)=true:=by simpa using h_e1
 clear h_e1
 have hz1:=z_R
 have n0a:(w1.heap.size=w.heap.size)=False:=eq_false (by omega)
 have n0b:(w.heap.size=w1.heap.size)=False:=eq_false (by omega)
 have n4a:(w1.heap.size=w.heap.size+1)=False:=eq_false (by omega)
 have n4b:(w.heap.size+1=w1.heap.size)=False:=eq_false (by omega)
 have n8a:(w1.heap.size=w.heap.size+1+1)=False:=eq_false (by omega)
 have n8b:(w.heap.size+1+1=w1.heap.size)=False:=eq_false (by omega)
 have n12a:(w1.heap.size=w.heap.size+1+1+1)=False:=eq_false (by omega)
 have n12b:(w.heap.size+1+1+1=w1.heap.size)=False:=eq_false (by omega)
 go_wp2
 obtain ⟨g_A,g_S,g_T,g_R,hB⟩:=HG.out
 refine bodyPost_ret (results_ct rfl _ _ (w.heap.size+1+1+1) 31 #[.int .i64 0,.int .i64 0] (0,0) _ rfl ?_ Try.underlying31 rfl (by kernel_rfl)) rfl ⟨rfl,?_⟩
 ·simp (disch:=try exact Hand.z) only [Hand.q1,Hand.q2,Hand.q4,Hand.q3,Hand.q5,Hand.q6,Option.map_some,Hand.putc_cells,List.setIfInBounds_toArray,List.set_cons_zero,List.set_cons_succ,g_R];try rfl
 ·exact Hand.b
theorem rback_2 (e1 e2 k1 k2 k3 k4 s1 s2 t1 t2 x1 x2 y1 y2:Int) (h_e1:e1=0) (h_e2:e2≠0) (w:World)
  (m1:∀ w,Calls Try.prog 59 #[.agg #[.int .i64 t1,.int .i64 t2],.agg #[.int .i64 k3,.int .i64 k4]] w fun e w'=>e = .returned (.tuple #[.agg #[.int .i64 x1,.int .i64 x2],.int .i64 e1])∧Below w.heap.size w w')
  (m2:∀ w,Calls Try.prog 66 #[.agg #[.int .i64 x1,.int .i64 x2],.agg #[.int .i64 s1,.int .i64 s2]] w fun e w'=>e = .returned (.tuple #[.agg #[.int .i64 y1,.int .i64 y2],.int .i64 e2])∧Below w.heap.size w w') :
  Calls Try.prog 105 #[.agg #[.int .i64 k1,.int .i64 k2,.int .i64 k3,.int .i64 k4],.agg #[.int .i64 s1,.int .i64 s2],.agg #[.int .i64 t1,.int .i64 t2]] w fun e w'=>e = .returned (.tuple #[.agg #[.int .i64 0,.int .i64 0],.int .i64 e2])∧Below w.heap.size w w':=by
 have M1:=Lib.hid m1
 have M2:=Lib.hid m2
 clear m1 m2
 go_enter Try.func105,Try.ntmps105
 go_wp2_with fail
 with_reducible refine (M1.out _).mono ?_
 rintro e w1 ⟨rfl,hb1⟩
 have h_A:w1.heap[w.heap.size]?=some (.cells #[.int .i64 k1,.int .i64 k2,.int .i64 k3,.int .i64 k4] 35 (0,0)):=by
  exact Hand.kb hb1 Hand.k
 have h_S:w1.heap[w.heap.size+1]?=some (.cells #[.int .i64 s1,.int .i64 s2] 31 (0,0)):=by
  exact Hand.kb hb1 Hand.k
 have h_T:w1.heap[w.heap.size+1+1]?=some (.cells #[.int .i64 t1,.int .i64 t2] 31 (0,0)):=by
  exact Hand.kb hb1 Hand.k
 have h_R:w1.heap[w.heap.size+1+1+1]?=some (.cells #[.int .i64 0,.int .i64 0] 31 (0,0)):=by
  exact Hand.kb hb1 Hand.k
 have hB':Below w.heap.size w w1:=Hand.stepB hb1 Hand.b (Nat.le_refl _)
 clear hb1
 have g_A:=h_A
 have g_S:=h_S
 have g_T:=h_T
 have g_R:=h_R
 have hB:=hB'
 clear hB' h_A h_S h_T h_R
 obtain ⟨z_A,z1_A,z2_A,y0_A,y1_A⟩:=Hand.hz g_A
 obtain ⟨c_A_0,f_A_0,c_A_1,f_A_1,c_A_2,f_A_2,c_A_3,f_A_3⟩:=Hand.hc4 g_A
 obtain ⟨z_S,z1_S,z2_S,y0_S,y1_S⟩:=Hand.hz g_S
 obtain ⟨c_S_0,f_S_0,c_S_1,f_S_1⟩:=Hand.hc2 g_S
 obtain ⟨z_T,z1_T,z2_T,y0_T,y1_T⟩:=Hand.hz g_T
 obtain ⟨c_T_0,f_T_0,c_T_1,f_T_1⟩:=Hand.hc2 g_T
 obtain ⟨z_R,z1_R,z2_R,y0_R,y1_R⟩:=Hand.hz g_R
 obtain ⟨c_R_0,f_R_0,c_R_1,f_R_1⟩:=Hand.hc2 g_R
 have zw:w.heap.size≤w1.heap.size:=hB.size
 have HG:=Lib.hid (And.intro g_A (And.intro g_S (And.intro g_T (And.intro g_R (hB)))))
 clear g_A g_S g_T g_R hB
 have k_e1:(e1 != 0)=false:=by simpa using h_e1
 clear h_e1
 have hz1:=z_R
 have n0a:(w1.heap.size=w.heap.size)=False:=eq_false (by omega)
 have n0b:(w.heap.size=w1.heap.size)=False:=eq_false (by omega)
 have n4a:(w1.heap.size=w.heap.size+1)=False:=eq_false (by omega)
 have n4b:(w.heap.size+1=w1.heap.size)=False:=eq_false (by omega)
 have n8a:(w1.heap.size=w.heap.size+1+1)=False:=eq_false (by omega)
 have n8b:(w.heap.size+1+1=w1.heap.size)=False:=eq_false (by omega)
 have n12a:(w1.heap.size=w.heap.size+1+1+1)=False:=eq_false (by omega)
 have n12b:(w.heap.size+1+1+1=w1.heap.size)=False:=eq_false (by omega)
 go_wp2_with fail
 with_reducible refine (M2.out _).mono ?_
 rintro e w2 ⟨rfl,hb2⟩
 obtain ⟨g_A,g_S,g_T,g_R,hB⟩:=HG.out
 have h_A:w2.heap[w.heap.size]?=some (.cells #[.int .i64 k1,.int .i64 k2,.int .i64 k3,.int .i64 k4] 35 (0,0)):=by
  refine Hand.kb hb2 ?_;first|with_reducible exact g_A|(simp (disch:=try exact Hand.z) only [Hand.q2,Hand.q1,Hand.q5,Hand.q6,Hand.q4,Hand.q3,g_A]<;>rfl)
 have h_S:w2.heap[w.heap.size+1]?=some (.cells #[.int .i64 s1,.int .i64 s2] 31 (0,0)):=by
  refine Hand.kb hb2 ?_;first|with_reducible exact g_S|(simp (disch:=try exact Hand.z) only [Hand.q2,Hand.q1,Hand.q5,Hand.q6,Hand.q4,Hand.q3,g_S]<;>rfl)
 have h_T:w2.heap[w.heap.size+1+1]?=some (.cells #[.int .i64 t1,.int .i64 t2] 31 (0,0)):=by
  refine Hand.kb hb2 ?_;first|with_reducible exact g_T|(simp (disch:=try exact Hand.z) only [Hand.q2,Hand.q1,Hand.q5,Hand.q6,Hand.q4,Hand.q3,g_T]<;>rfl)
 have h_R:w2.heap[w.heap.size+1+1+1]?=some (.cells #[.int .i64 0,.int .i64 0] 31 (0,0)):=by
  refine Hand.kb hb2 ?_;first|with_reducible exact g_R|(simp (disch:=try exact Hand.z) only [Hand.q2,Hand.q1,Hand.q5,Hand.q6,Hand.q4,Hand.q3,g_R]<;>rfl)
 have h_X:w2.heap[w1.heap.size]?=some (.cells #[.int .i64 x1,.int .i64 x2] 31 (0,0)):=by
  exact Hand.kb hb2 Hand.k
 have hB':Below w.heap.size w w2:=Hand.stepB hb2 Hand.b (Nat.le_refl _)
 clear HG hB g_A g_S g_T g_R zw z_A z1_A z2_A y0_A y1_A c_A_0 f_A_0 c_A_1 f_A_1 c_A_2 f_A_2 c_A_3 f_A_3 z_S z1_S z2_S y0_S y1_S c_S_0 f_S_0 c_S_1 f_S_1 z_T z1_T z2_T y0_T y1_T c_T_0 f_T_0 c_T_1 f_T_1 z_R z1_R z2_R y0_R y1_R c_R_0 f_R_0 c_R_1 f_R_1
 clear hb2
 have g_A:=h_A
 have g_S:=h_S
 have g_T:=h_T
 have g_R:=h_R
 have g_X:=h_X
 have hB:=hB'
 clear hB' h_A h_S h_T h_R h_X
 obtain ⟨z_A,z1_A,z2_A,y0_A,y1_A⟩:=Hand.hz g_A
 obtain ⟨c_A_0,f_A_0,c_A_1,f_A_1,c_A_2,f_A_2,c_A_3,f_A_3⟩:=Hand.hc4 g_A
 obtain ⟨z_S,z1_S,z2_S,y0_S,y1_S⟩:=Hand.hz g_S
 obtain ⟨c_S_0,f_S_0,c_S_1,f_S_1⟩:=Hand.hc2 g_S
 obtain ⟨z_T,z1_T,z2_T,y0_T,y1_T⟩:=Hand.hz g_T
 obtain ⟨c_T_0,f_T_0,c_T_1,f_T_1⟩:=Hand.hc2 g_T
 obtain ⟨z_R,z1_R,z2_R,y0_R,y1_R⟩:=Hand.hz g_R
 obtain ⟨c_R_0,f_R_0,c_R_1,f_R_1⟩:=Hand.hc2 g_R
 obtain ⟨z_X,z1_X,z2_X,y0_X,y1_X⟩:=Hand.hz g_X
 obtain ⟨c_X_0,f_X_0,c_X_1,f_X_1⟩:=Hand.hc2 g_X
 have zw:w.heap.size≤w2.heap.size:=hB.size
 have HG:=Lib.hid (And.intro g_A (And.intro g_S (And.intro g_T (And.intro g_R (And.intro g_X (hB))))))
 clear g_A g_S g_T g_R g_X hB
 have k_e2:(e2 != 0)=true:=by simpa using h_e2
 clear h_e2
 go_wp2
 obtain ⟨g_A,g_S,g_T,g_R,g_X,hB⟩:=HG.out
 refine bodyPost_ret (results_ct rfl _ _ (w.heap.size+1+1+1) 31 #[.int .i64 0,.int .i64 0] (0,0) _ rfl ?_ Try.underlying31 rfl (by kernel_rfl)) rfl ⟨rfl,?_⟩
 ·simp (disch:=try exact Hand.z) only [Hand.q1,Hand.q2,Hand.q4,Hand.q3,Hand.q5,Hand.q6,Option.map_some,Hand.putc_cells,List.setIfInBounds_toArray,List.set_cons_zero,List.set_cons_succ,g_R];try rfl
 ·exact Hand.b
theorem rback_3 (e1 e2 e3 k1 k2 k3 k4 s1 s2 t1 t2 x1 x2 y1 y2 z1 z2:Int) (h_e1:e1=0) (h_e2:e2=0) (w:World)
  (m1:∀ w,Calls Try.prog 59 #[.agg #[.int .i64 t1,.int .i64 t2],.agg #[.int .i64 k3,.int .i64 k4]] w fun e w'=>e = .returned (.tuple #[.agg #[.int .i64 x1,.int .i64 x2],.int .i64 e1])∧Below w.heap.size w w')
  (m2:∀ w,Calls Try.prog 66 #[.agg #[.int .i64 x1,.int .i64 x2],.agg #[.int .i64 s1,.int .i64 s2]] w fun e w'=>e = .returned (.tuple #[.agg #[.int .i64 y1,.int .i64 y2],.int .i64 e2])∧Below w.heap.size w w')
  (m3:∀ w,Calls Try.prog 60 #[.agg #[.int .i64 k1,.int .i64 k2],.agg #[.int .i64 y1,.int .i64 y2]] w fun e w'=>e = .returned (.tuple #[.agg #[.int .i64 z1,.int .i64 z2],.int .i64 e3])∧Below w.heap.size w w') :
  Calls Try.prog 105 #[.agg #[.int .i64 k1,.int .i64 k2,.int .i64 k3,.int .i64 k4],.agg #[.int .i64 s1,.int .i64 s2],.agg #[.int .i64 t1,.int .i64 t2]] w fun e w'=>e = .returned (.tuple #[.agg #[.int .i64 z1,.int .i64 z2],.int .i64 e3])∧Below w.heap.size w w':=by
 have M1:=Lib.hid m1
 have M2:=Lib.hid m2
 have M3:=Lib.hid m3
 clear m1 m2 m3
 go_enter Try.func105,Try.ntmps105
 go_wp2_with fail
 with_reducible refine (M1.out _).mono ?_
 rintro e w1 ⟨rfl,hb1⟩
 have h_A:w1.heap[w.heap.size]?=some (.cells #[.int .i64 k1,.int .i64 k2,.int .i64 k3,.int .i64 k4] 35 (0,0)):=by
  exact Hand.kb hb1 Hand.k
 have h_S:w1.heap[w.heap.size+1]?=some (.cells #[.int .i64 s1,.int .i64 s2] 31 (0,0)):=by
  exact Hand.kb hb1 Hand.k
 have h_T:w1.heap[w.heap.size+1+1]?=some (.cells #[.int .i64 t1,.int .i64 t2] 31 (0,0)):=by
  exact Hand.kb hb1 Hand.k
 have h_R:w1.heap[w.heap.size+1+1+1]?=some (.cells #[.int .i64 0,.int .i64 0] 31 (0,0)):=by
  exact Hand.kb hb1 Hand.k
 have hB':Below w.heap.size w w1:=Hand.stepB hb1 Hand.b (Nat.le_refl _)
 clear hb1
 have g_A:=h_A
 have g_S:=h_S
 have g_T:=h_T
 have g_R:=h_R
 have hB:=hB'
 clear hB' h_A h_S h_T h_R
 obtain ⟨z_A,z1_A,z2_A,y0_A,y1_A⟩:=Hand.hz g_A
 obtain ⟨c_A_0,f_A_0,c_A_1,f_A_1,c_A_2,f_A_2,c_A_3,f_A_3⟩:=Hand.hc4 g_A
 obtain ⟨z_S,z1_S,z2_S,y0_S,y1_S⟩:=Hand.hz g_S
 obtain ⟨c_S_0,f_S_0,c_S_1,f_S_1⟩:=Hand.hc2 g_S
 obtain ⟨z_T,z1_T,z2_T,y0_T,y1_T⟩:=Hand.hz g_T
 obtain ⟨c_T_0,f_T_0,c_T_1,f_T_1⟩:=Hand.hc2 g_T
 obtain ⟨z_R,z1_R,z2_R,y0_R,y1_R⟩:=Hand.hz g_R
 obtain ⟨c_R_0,f_R_0,c_R_1,f_R_1⟩:=Hand.hc2 g_R
 have zw:w.heap.size≤w1.heap.size:=hB.size
 have HG:=Lib.hid (And.intro g_A (And.intro g_S (And.intro g_T (And.intro g_R (hB)))))
 clear g_A g_S g_T g_R hB
 have k_e1:(e1 != 0)=false:=by simpa using h_e1
 clear h_e1
 have hz1:=z_R
 have n0a:(w1.heap.size=w.heap.size)=False:=eq_false (by omega)
 have n0b:(w.heap.size=w1.heap.size)=False:=eq_false (by omega)
 have n4a:(w1.heap.size=w.heap.size+1)=False:=eq_false (by omega)
 have n4b:(w.heap.size+1=w1.heap.size)=False:=eq_false (by omega)
 have n8a:(w1.heap.size=w.heap.size+1+1)=False:=eq_false (by omega)
 have n8b:(w.heap.size+1+1=w1.heap.size)=False:=eq_false (by omega)
 have n12a:(w1.heap.size=w.heap.size+1+1+1)=False:=eq_false (by omega)
 have n12b:(w.heap.size+1+1+1=w1.heap.size)=False:=eq_false (by omega)
 go_wp2_with fail
 with_reducible refine (M2.out _).mono ?_
 rintro e w2 ⟨rfl,hb2⟩
 obtain ⟨g_A,g_S,g_T,g_R,hB⟩:=HG.out
 have h_A:w2.heap[w.heap.size]?=some (.cells #[.int .i64 k1,.int .i64 k2,.int .i64 k3,.int .i64 k4] 35 (0,0)):=by
  refine Hand.kb hb2 ?_;first|with_reducible exact g_A|(simp (disch:=try exact Hand.z) only [Hand.q2,Hand.q1,Hand.q5,Hand.q6,Hand.q4,Hand.q3,g_A]<;>rfl)
 have h_S:w2.heap[w.heap.size+1]?=some (.cells #[.int .i64 s1,.int .i64 s2] 31 (0,0)):=by
  refine Hand.kb hb2 ?_;first|with_reducible exact g_S|(simp (disch:=try exact Hand.z) only [Hand.q2,Hand.q1,Hand.q5,Hand.q6,Hand.q4,Hand.q3,g_S]<;>rfl)
 have h_T:w2.heap[w.heap.size+1+1]?=some (.cells #[.int .i64 t1,.int .i64 t2] 31 (0,0)):=by
  refine Hand.kb hb2 ?_;first|with_reducible exact g_T|(simp (disch:=try exact Hand.z) only [Hand.q2,Hand.q1,Hand.q5,Hand.q6,Hand.q4,Hand.q3,g_T]<;>rfl)
 have h_R:w2.heap[w.heap.size+1+1+1]?=some (.cells #[.int .i64 0,.int .i64 0] 31 (0,0)):=by
  refine Hand.kb hb2 ?_;first|with_reducible exact g_R|(simp (disch:=try exact Hand.z) only [Hand.q2,Hand.q1,Hand.q5,Hand.q6,Hand.q4,Hand.q3,g_R]<;>rfl)
 have h_X:w2.heap[w1.heap.size]?=some (.cells #[.int .i64 x1,.int .i64 x2] 31 (0,0)):=by
  exact Hand.kb hb2 Hand.k
 have hB':Below w.heap.size w w2:=Hand.stepB hb2 Hand.b (Nat.le_refl _)
 clear HG hB g_A g_S g_T g_R zw z_A z1_A z2_A y0_A y1_A c_A_0 f_A_0 c_A_1 f_A_1 c_A_2 f_A_2 c_A_3 f_A_3 z_S z1_S z2_S y0_S y1_S c_S_0 f_S_0 c_S_1 f_S_1 z_T z1_T z2_T y0_T y1_T c_T_0 f_T_0 c_T_1 f_T_1 z_R z1_R z2_R y0_R y1_R c_R_0 f_R_0 c_R_1 f_R_1
 clear hb2
 have g_A:=h_A
 have g_S:=h_S
 have g_T:=h_T
 have g_R:=h_R
 have g_X:=h_X
 have hB:=hB'
 clear hB' h_A h_S h_T h_R h_X
 obtain ⟨z_A,z1_A,z2_A,y0_A,y1_A⟩:=Hand.hz g_A
 obtain ⟨c_A_0,f_A_0,c_A_1,f_A_1,c_A_2,f_A_2,c_A_3,f_A_3⟩:=Hand.hc4 g_A
 obtain ⟨z_S,z1_S,z2_S,y0_S,y1_S⟩:=Hand.hz g_S
 obtain ⟨c_S_0,f_S_0,c_S_1,f_S_1⟩:=Hand.hc2 g_S
 obtain ⟨z_T,z1_T,z2_T,y0_T,y1_T⟩:=Hand.hz g_T
 obtain ⟨c_T_0,f_T_0,c_T_1,f_T_1⟩:=Hand.hc2 g_T
 obtain ⟨z_R,z1_R,z2_R,y0_R,y1_R⟩:=Hand.hz g_R
 obtain ⟨c_R_0,f_R_0,c_R_1,f_R_1⟩:=Hand.hc2 g_R
 obtain ⟨z_X,z1_X,z2_X,y0_X,y1_X⟩:=Hand.hz g_X
 obtain ⟨c_X_0,f_X_0,c_X_1,f_X_1⟩:=Hand.hc2 g_X
 have zw:w.heap.size≤w2.heap.size:=hB.size
 have HG:=Lib.hid (And.intro g_A (And.intro g_S (And.intro g_T (And.intro g_R (And.intro g_X (hB))))))
 clear g_A g_S g_T g_R g_X hB
 have k_e2:(e2 != 0)=false:=by simpa using h_e2
 clear h_e2
 go_wp2_with fail
 with_reducible refine (M3.out _).mono ?_
 rintro e w3 ⟨rfl,hb3⟩
 obtain ⟨g_A,g_S,g_T,g_R,g_X,hB⟩:=HG.out
 have h_A:w3.heap[w.heap.size]?=some (.cells #[.int .i64 k1,.int .i64 k2,.int .i64 k3,.int .i64 k4] 35 (0,0)):=by
  refine Hand.kb hb3 ?_;first|with_reducible exact g_A|(simp (disch:=try exact Hand.z) only [Hand.q2,Hand.q1,Hand.q5,Hand.q6,Hand.q4,Hand.q3,g_A]<;>rfl)
 have h_S:w3.heap[w.heap.size+1]?=some (.cells #[.int .i64 s1,.int .i64 s2] 31 (0,0)):=by
  refine Hand.kb hb3 ?_;first|with_reducible exact g_S|(simp (disch:=try exact Hand.z) only [Hand.q2,Hand.q1,Hand.q5,Hand.q6,Hand.q4,Hand.q3,g_S]<;>rfl)
 have h_T:w3.heap[w.heap.size+1+1]?=some (.cells #[.int .i64 t1,.int .i64 t2] 31 (0,0)):=by
  refine Hand.kb hb3 ?_;first|with_reducible exact g_T|(simp (disch:=try exact Hand.z) only [Hand.q2,Hand.q1,Hand.q5,Hand.q6,Hand.q4,Hand.q3,g_T]<;>rfl)
 have h_R:w3.heap[w.heap.size+1+1+1]?=some (.cells #[.int .i64 0,.int .i64 0] 31 (0,0)):=by
  refine Hand.kb hb3 ?_;first|with_reducible exact g_R|(simp (disch:=try exact Hand.z) only [Hand.q2,Hand.q1,Hand.q5,Hand.q6,Hand.q4,Hand.q3,g_R]<;>rfl)
 have h_X:w3.heap[w1.heap.size]?=some (.cells #[.int .i64 y1,.int .i64 y2] 31 (0,0)):=by
  refine Hand.kb hb3 ?_;simp (disch:=try exact Hand.z) only [Hand.q2,Hand.q1,Hand.q5,Hand.q6,Hand.q4,Hand.q3,g_X]<;>rfl
 have hB':Below w.heap.size w w3:=Hand.stepB hb3 Hand.b (Nat.le_refl _)
 clear HG hB g_A g_S g_T g_R g_X zw z_A z1_A z2_A y0_A y1_A c_A_0 f_A_0 c_A_1 f_A_1 c_A_2 f_A_2 c_A_3 f_A_3 z_S z1_S z2_S y0_S y1_S c_S_0 f_S_0 c_S_1 f_S_1 z_T z1_T z2_T y0_T y1_T c_T_0 f_T_0 c_T_1 f_T_1 z_R z1_R z2_R y0_R y1_R c_R_0 f_R_0 c_R_1 f_R_1 z_X z1_X z2_X y0_X y1_X c_X_0 f_X_0 c_X_1 f_X_1
 clear hb3
 have g_A:=h_A
 have g_S:=h_S
 have g_T:=h_T
 have g_R:=h_R
 have g_X:=h_X
 have hB:=hB'
 clear hB' h_A h_S h_T h_R h_X
 obtain ⟨z_A,z1_A,z2_A,y0_A,y1_A⟩:=Hand.hz g_A
 obtain ⟨c_A_0,f_A_0,c_A_1,f_A_1,c_A_2,f_A_2,c_A_3,f_A_3⟩:=Hand.hc4 g_A
 obtain ⟨z_S,z1_S,z2_S,y0_S,y1_S⟩:=Hand.hz g_S
 obtain ⟨c_S_0,f_S_0,c_S_1,f_S_1⟩:=Hand.hc2 g_S
 obtain ⟨z_T,z1_T,z2_T,y0_T,y1_T⟩:=Hand.hz g_T
 obtain ⟨c_T_0,f_T_0,c_T_1,f_T_1⟩:=Hand.hc2 g_T
 obtain ⟨z_R,z1_R,z2_R,y0_R,y1_R⟩:=Hand.hz g_R
 obtain ⟨c_R_0,f_R_0,c_R_1,f_R_1⟩:=Hand.hc2 g_R
 obtain ⟨z_X,z1_X,z2_X,y0_X,y1_X⟩:=Hand.hz g_X
 obtain ⟨c_X_0,f_X_0,c_X_1,f_X_1⟩:=Hand.hc2 g_X
 have zw:w.heap.size≤w3.heap.size:=hB.size
 have HG:=Lib.hid (And.intro g_A (And.intro g_S (And.intro g_T (And.intro g_R (And.intro g_X (hB))))))
 clear g_A g_S g_T g_R g_X hB
 go_wp2
 obtain ⟨g_A,g_S,g_T,g_R,g_X,hB⟩:=HG.out
 refine bodyPost_ret (results_ct rfl _ _ (w.heap.size+1+1+1) 31 #[.int .i64 z1,.int .i64 z2] (0,0) _ rfl ?_ Try.underlying31 rfl (by kernel_rfl)) rfl ⟨rfl,?_⟩
 ·simp (disch:=try exact Hand.z) only [Hand.q1,Hand.q2,Hand.q4,Hand.q3,Hand.q5,Hand.q6,Option.map_some,Hand.putc_cells,List.setIfInBounds_toArray,List.set_cons_zero,List.set_cons_succ,g_R];try rfl
 ·exact Hand.b
theorem rat_of (k1 k2 k3 k4 s1 s2 t1 t2 x1 x2 e1:Int) (w:World)
  (m1:∀ w,Calls Try.prog 90 #[.agg #[.int .i64 k1,.int .i64 k2,.int .i64 k3,.int .i64 k4],.agg #[.int .i64 s1,.int .i64 s2],.agg #[.int .i64 t1,.int .i64 t2]] w fun e w'=>e = .returned (.tuple #[.agg #[.int .i64 x1,.int .i64 x2],.int .i64 e1])∧Below w.heap.size w w') :
  Calls Try.prog 56 #[.agg #[.int .i64 k1,.int .i64 k2,.int .i64 k3,.int .i64 k4],.agg #[.int .i64 s1,.int .i64 s2],.agg #[.int .i64 t1,.int .i64 t2]] w fun e w'=>e = .returned (.tuple #[.agg #[.int .i64 t1,.int .i64 t2,.int .i64 x1,.int .i64 x2],.int .i64 e1])∧Below w.heap.size w w':=by
 have M1:=Lib.hid m1
 clear m1
 go_enter Try.func56,Try.ntmps56
 go_wp2_with fail
 with_reducible refine (M1.out _).mono ?_
 rintro e w1 ⟨rfl,hb1⟩
 have h_A:w1.heap[w.heap.size]?=some (.cells #[.int .i64 k1,.int .i64 k2,.int .i64 k3,.int .i64 k4] 35 (0,0)):=by
  exact Hand.kb hb1 Hand.k
 have h_S:w1.heap[w.heap.size+1]?=some (.cells #[.int .i64 s1,.int .i64 s2] 31 (0,0)):=by
  exact Hand.kb hb1 Hand.k
 have h_T:w1.heap[w.heap.size+1+1]?=some (.cells #[.int .i64 t1,.int .i64 t2] 31 (0,0)):=by
  exact Hand.kb hb1 Hand.k
 have h_R:w1.heap[w.heap.size+1+1+1]?=some (.cells #[.int .i64 0,.int .i64 0,.int .i64 0,.int .i64 0] 35 (0,0)):=by
  exact Hand.kb hb1 Hand.k
 have hB':Below w.heap.size w w1:=Hand.stepB hb1 Hand.b (Nat.le_refl _)
 clear hb1
 have g_A:=h_A
 have g_S:=h_S
 have g_T:=h_T
 have g_R:=h_R
 have hB:=hB'
 clear hB' h_A h_S h_T h_R
 obtain ⟨z_A,z1_A,z2_A,y0_A,y1_A⟩:=Hand.hz g_A
 obtain ⟨c_A_0,f_A_0,c_A_1,f_A_1,c_A_2,f_A_2,c_A_3,f_A_3⟩:=Hand.hc4 g_A
 obtain ⟨z_S,z1_S,z2_S,y0_S,y1_S⟩:=Hand.hz g_S
 obtain ⟨c_S_0,f_S_0,c_S_1,f_S_1⟩:=Hand.hc2 g_S
 obtain ⟨z_T,z1_T,z2_T,y0_T,y1_T⟩:=Hand.hz g_T
 obtain ⟨c_T_0,f_T_0,c_T_1,f_T_1⟩:=Hand.hc2 g_T
 obtain ⟨z_R,z1_R,z2_R,y0_R,y1_R⟩:=Hand.hz g_R
 obtain ⟨c_R_0,f_R_0,c_R_1,f_R_1,c_R_2,f_R_2,c_R_3,f_R_3⟩:=Hand.hc4 g_R
 have zw:w.heap.size≤w1.heap.size:=hB.size
 have HG:=Lib.hid (And.intro g_A (And.intro g_S (And.intro g_T (And.intro g_R (hB)))))
 clear g_A g_S g_T g_R hB
 go_wp2
 obtain ⟨g_A,g_S,g_T,g_R,hB⟩:=HG.out
 refine bodyPost_ret (results_ct rfl _ _ (w.heap.size+1+1+1) 35 #[.int .i64 t1,.int .i64 t2,.int .i64 x1,.int .i64 x2] (0,0) _ rfl ?_ Try.underlying35 rfl (by kernel_rfl)) rfl ⟨rfl,?_⟩
 ·simp (disch:=try exact Hand.z) only [Hand.q1,Hand.q2,Hand.q4,Hand.q3,Hand.q5,Hand.q6,Option.map_some,Hand.putc_cells,List.setIfInBounds_toArray,List.set_cons_zero,List.set_cons_succ,g_R];try rfl
 ·exact Hand.b
theorem qslope_any (a b:Kn) (w:World) (ha:R64 a.1∧R64 a.2):Calls Try.prog 54 #[kv a,kv b] w fun e w'=>e = .returned (.tuple #[rv (pieceS 0 a b).1,.int .i64 (pieceS 0 a b).2])∧Below w.heap.size w w':=by
 obtain ⟨⟨a1,a2⟩,a3,a4⟩:=a
 obtain ⟨⟨b1,b2⟩,b3,b4⟩:=b
 obtain ⟨⟨⟨x1,x2⟩,e1⟩,hX⟩:∃ X,rSub (b3,b4) (a3,a4)=X:=⟨_,rfl⟩
 obtain ⟨⟨⟨y1,y2⟩,e2⟩,hY⟩:∃ X,rSub (b1,b2) (a1,a2)=X:=⟨_,rfl⟩
 obtain ⟨⟨⟨z1,z2⟩,e3⟩,hZ⟩:∃ X,rDiv (x1,x2) (y1,y2)=X:=⟨_,rfl⟩
 have M1:=fun w=>qsub_any (b3,b4) (a3,a4) w ha.2
 have M2:=fun w=>qsub_any (b1,b2) (a1,a2) w ha.1
 have M3:=fun w=>qdiv_any (x1,x2) (y1,y2) w
 rw [hX] at M1
 rw [hY] at M2
 rw [hZ] at M3
 by_cases h1:e1=0
 ·by_cases h2:e2=0
  ·rw [show pieceS 0 ((a1,a2),(a3,a4)) ((b1,b2),(b3,b4))=((z1,z2),e3) by unfold pieceS;rw [doS_0,hX];dsimp only;rw [h1,doS_0,hY];dsimp only;rw [h2,doS_0,hZ]]
   exact slope_3 a1 a2 a3 a4 b1 b2 b3 b4 e1 e2 e3 x1 x2 y1 y2 z1 z2 h1 h2 w M1 M2 M3
  ·rw [show pieceS 0 ((a1,a2),(a3,a4)) ((b1,b2),(b3,b4))=((0,0),e2) by unfold pieceS;rw [doS_0,hX];dsimp only;rw [h1,doS_0,hY];dsimp only;unfold doS;rw [if_neg h2]]
   exact slope_2 a1 a2 a3 a4 b1 b2 b3 b4 e1 e2 x1 x2 y1 y2 h1 h2 w M1 M2
 ·rw [show pieceS 0 ((a1,a2),(a3,a4)) ((b1,b2),(b3,b4))=((0,0),e1) by unfold pieceS;rw [doS_0,hX];dsimp only;unfold doS;rw [if_neg h1];dsimp only;rw [if_neg h1]]
  exact slope_1 a1 a2 a3 a4 b1 b2 b3 b4 e1 x1 x2 h1 w M1
theorem qreckon_any (k:Kn) (s t:Rt) (w:World) (hk:R64 k.1):Calls Try.prog 90 #[kv k,rv s,rv t] w fun e w'=>e = .returned (.tuple #[rv (alongS k s t).1,.int .i64 (alongS k s t).2])∧Below w.heap.size w w':=by
 obtain ⟨⟨k1,k2⟩,k3,k4⟩:=k
 obtain ⟨s1,s2⟩:=s
 obtain ⟨t1,t2⟩:=t
 obtain ⟨⟨⟨x1,x2⟩,e1⟩,hX⟩:∃ X,rSub (t1,t2) (k1,k2)=X:=⟨_,rfl⟩
 obtain ⟨⟨⟨y1,y2⟩,e2⟩,hY⟩:∃ X,rMul (x1,x2) (s1,s2)=X:=⟨_,rfl⟩
 obtain ⟨⟨⟨z1,z2⟩,e3⟩,hZ⟩:∃ X,rAdd (k3,k4) (y1,y2)=X:=⟨_,rfl⟩
 have M1:=fun w=>qsub_any (t1,t2) (k1,k2) w hk
 have M2:=fun w=>qmul_any (x1,x2) (s1,s2) w
 have M3:=fun w=>qadd_any (k3,k4) (y1,y2) w
 rw [hX] at M1
 rw [hY] at M2
 rw [hZ] at M3
 by_cases h1:e1=0
 ·by_cases h2:e2=0
  ·rw [show alongS ((k1,k2),(k3,k4)) (s1,s2) (t1,t2)=((z1,z2),e3) by unfold alongS;rw [hX];dsimp only;rw [h1,doS_0,hY];dsimp only;rw [h2,doS_0,hZ]]
   exact reckon_3 e1 e2 e3 k1 k2 k3 k4 s1 s2 t1 t2 x1 x2 y1 y2 z1 z2 h1 h2 w M1 M2 M3
  ·rw [show alongS ((k1,k2),(k3,k4)) (s1,s2) (t1,t2)=((0,0),e2) by unfold alongS;rw [hX];dsimp only;rw [h1,doS_0,hY];dsimp only;unfold doS;rw [if_neg h2]]
   exact reckon_2 e1 e2 k1 k2 k3 k4 s1 s2 t1 t2 x1 x2 y1 y2 h1 h2 w M1 M2
 ·rw [show alongS ((k1,k2),(k3,k4)) (s1,s2) (t1,t2)=((0,0),e1) by unfold alongS;rw [hX];dsimp only;unfold doS;rw [if_neg h1];dsimp only;rw [if_neg h1]]
  exact reckon_1 e1 k1 k2 k3 k4 s1 s2 t1 t2 x1 x2 h1 w M1
theorem qback_any (k:Kn) (s t:Rt) (w:World) (hk:R64 k.2):Calls Try.prog 105 #[kv k,rv s,rv t] w fun e w'=>e = .returned (.tuple #[rv (backS k s t).1,.int .i64 (backS k s t).2])∧Below w.heap.size w w':=by
 obtain ⟨⟨k1,k2⟩,k3,k4⟩:=k
 obtain ⟨s1,s2⟩:=s
 obtain ⟨t1,t2⟩:=t
 obtain ⟨⟨⟨x1,x2⟩,e1⟩,hX⟩:∃ X,rSub (t1,t2) (k3,k4)=X:=⟨_,rfl⟩
 obtain ⟨⟨⟨y1,y2⟩,e2⟩,hY⟩:∃ X,rDiv (x1,x2) (s1,s2)=X:=⟨_,rfl⟩
 obtain ⟨⟨⟨z1,z2⟩,e3⟩,hZ⟩:∃ X,rAdd (k1,k2) (y1,y2)=X:=⟨_,rfl⟩
 have M1:=fun w=>qsub_any (t1,t2) (k3,k4) w hk
 have M2:=fun w=>qdiv_any (x1,x2) (s1,s2) w
 have M3:=fun w=>qadd_any (k1,k2) (y1,y2) w
 rw [hX] at M1
 rw [hY] at M2
 rw [hZ] at M3
 by_cases h1:e1=0
 ·by_cases h2:e2=0
  ·rw [show backS ((k1,k2),(k3,k4)) (s1,s2) (t1,t2)=((z1,z2),e3) by unfold backS;rw [hX];dsimp only;rw [h1,doS_0,hY];dsimp only;rw [h2,doS_0,hZ]]
   exact rback_3 e1 e2 e3 k1 k2 k3 k4 s1 s2 t1 t2 x1 x2 y1 y2 z1 z2 h1 h2 w M1 M2 M3
  ·rw [show backS ((k1,k2),(k3,k4)) (s1,s2) (t1,t2)=((0,0),e2) by unfold backS;rw [hX];dsimp only;rw [h1,doS_0,hY];dsimp only;unfold doS;rw [if_neg h2]]
   exact rback_2 e1 e2 k1 k2 k3 k4 s1 s2 t1 t2 x1 x2 y1 y2 h1 h2 w M1 M2
 ·rw [show backS ((k1,k2),(k3,k4)) (s1,s2) (t1,t2)=((0,0),e1) by unfold backS;rw [hX];dsimp only;unfold doS;rw [if_neg h1];dsimp only;rw [if_neg h1]]
  exact rback_1 e1 k1 k2 k3 k4 s1 s2 t1 t2 x1 x2 h1 w M1
theorem qat_any (k:Kn) (s t:Rt) (w:World) (hk:R64 k.1):Calls Try.prog 56 #[kv k,rv s,rv t] w fun e w'=>e = .returned (.tuple #[kv (t,(alongS k s t).1),.int .i64 (alongS k s t).2])∧Below w.heap.size w w' :=
 rat_of k.1.1 k.1.2 k.2.1 k.2.2 s.1 s.2 t.1 t.2 _ _ _ w (fun w=>qreckon_any k s t w hk)
theorem cqk_some (ad:Addr) (l:List Kn) (n cap:Nat) (w:World) (hn:n=l.length) (hK:KnA w ad l) (hR:KnR l) (h0:0<n) (h1:n≤64) :
  Calls Try.prog 53 #[.slice (some ad) n cap] w fun e w'=>e = .returned (.int .i64 (chkK l))∧Below w.heap.size w w':=by
 have b1:((n:Int) == 0)=false:=by simp;omega
 have b2:(64<(n:Int))=False:=eq_false (by omega)
 have b3:(64<n)=False:=eq_false (by omega)
 have b4:(n == 0)=false:=by simp;omega
 have b5:¬ n=0:=by omega
 have HK:=Lib.hid hK
 have HN:=Lib.hid hn
 have HR:=Lib.hid hR
 clear hK hn hR
 have L0:=Lib.hid (show l.length≠0 by have:=HN.out;omega)
 have L1:=Lib.hid (show l.length≤64 by have:=HN.out;omega)
 go_enter Try.func53,Try.ntmps53
 go_wp2_with fail
 go_loopw [3] (fun i wr=>∃ j:Nat,j≤n∧i = .int .i64 j∧(l.take j).all (fun k=>rRight k.1 && rRight k.2)=true∧Below w.heap.size w wr) (fun i _=>n - (intOf i).toNat)
 case atStart=>exact ⟨0,Nat.zero_le _,rfl,rfl,Below.refl _ _⟩
 case round =>
  obtain ⟨j,hj,rfl,hall,hB⟩:=hrel
  have HA:=Lib.hid hall
  clear hall
  by_cases hjn:j<n
  ·have p1:((j:Int)<(n:Int))=True:=eq_true (by omega)
   have p2:(j<n)=True:=eq_true hjn
   have p5:(0:Int)≤(j:Int):=by omega
   have w2:IntKind.i64.wrap (j:Int)=(j:Int):=by rw [IntKind.wrap_i64];omega
   have hjl:j<l.length:=by rw [← HN.out];exact hjn
   obtain ⟨c0,c1,c2,c3⟩:=(HK.out.below hB) j hjl
   have hr:=HR.out _ (List.getElem_mem hjl)
   obtain ⟨k,hk⟩:∃ k,l[j]=k:=⟨_,rfl⟩
   rw [hk] at c0 c1 c2 c3 hr
   have m1:=Lib.hid (fun w=>qright_any k.1 w)
   have m2:=Lib.hid (fun w=>qright_any k.2 w)
   have HKJ:=Lib.hid hk
   clear hr hk
   have BAD:=Lib.hid (fun (h:(rRight k.1 && rRight k.2)=false)=>chk_12 L0.out L1.out (by rw [List.all_eq_false];exact ⟨_,List.getElem_mem hjl,by rw [HKJ.out,h];decide⟩))
   go_wp2_with fail
   with_reducible refine (m1.out _).mono ?_
   rintro e w2 ⟨rfl,hb2⟩
   have hB2:=Hand.stepB hb2 hB (Nat.le_refl _)
   obtain ⟨d0,d1,d2,d3⟩:=(HK.out.below hB2) j hjl
   rw [HKJ.out] at d0 d1 d2 d3
   clear hb2 c0 c1 c2 c3
   cases h1:rRight k.1
   ·go_wp2
    go_ret
    exact ⟨by rw [BAD.out (by rw [h1];rfl)];rfl,hB2⟩
   ·go_wp2_with fail
    with_reducible refine (m2.out _).mono ?_
    rintro e w3 ⟨rfl,hb3⟩
    have hB3:=Hand.stepB hb3 hB2 (Nat.le_refl _)
    clear hb3
    cases h2:rRight k.2
    ·go_wp2
     go_ret
     exact ⟨by rw [BAD.out (by rw [h1,h2];rfl)];rfl,hB3⟩
    ·go_wp2
     go_roundw
     case rel=>exact ⟨j+1,by omega,by rw [Int.natCast_add];rfl,by rw [List.take_succ_eq_append_getElem hjl,List.all_append,HA.out,HKJ.out];simp [h1,h2],hB3⟩
     case measure=>simp [intOf];omega
  ·have p1:((j:Int)<(n:Int))=False:=eq_false (by omega)
   have p2:(j<n)=False:=eq_false hjn
   have hall:l.all (fun k=>rRight k.1 && rRight k.2)=true:=by have:=HA.out;rwa [List.take_of_length_le (by rw [← HN.out];omega)] at this
   have HALL:=Lib.hid hall
   have HRT:=Lib.hid (fun j (h:j<l.length)=>(by have:=List.all_eq_true.mp hall _ (List.getElem_mem h);rw [Bool.and_eq_true] at this;exact this:rRight l[j].1=true∧rRight l[j].2=true))
   clear HA hall
   go_wp2_with fail
   clear p1 p2 hjn hj
   go_loopw [4] (fun i wr=>∃ j:Nat,j+1≤n∧i = .int .i64 ((j:Int)+1)∧(∀ i (h:i+1<l.length),i<j → rCmp l[i].1 l[i+1].1<0)∧Below w.heap.size w wr) (fun i _=>n - (intOf i).toNat)
   case atStart=>exact ⟨0,by omega,rfl,fun i _ h=>absurd h (Nat.not_lt_zero _),hB⟩
   case round =>
    obtain ⟨j,hj,rfl,hall,hB⟩:=hrel
    have HA:=Lib.hid hall
    clear hall
    by_cases hjn:j+1<n
    ·have p1:((j:Int)+1<(n:Int))=True:=eq_true (by omega)
     have hjl:j+1<l.length:=by rw [← HN.out];exact hjn
     obtain ⟨c0,c1,c2,c3⟩:=(HK.out.below hB) j (by omega)
     obtain ⟨d0,d1,d2,d3⟩:=(HK.out.below hB) (j+1) hjl
     have w1:IntKind.i64.wrap ((j:Int)+1 - 1)=(j:Int):=by rw [IntKind.wrap_i64];omega
     have w2:IntKind.i64.wrap (j:Int)=(j:Int):=by rw [IntKind.wrap_i64];omega
     have p3:(0:Int)≤(j:Int)+1:=by omega
     have p4:((j:Int)<(n:Int))=True:=eq_true (by omega)
     have p5:(0:Int)≤(j:Int):=by omega
     have p6:(j<n)=True:=eq_true (by omega)
     have p7:(j+1<n)=True:=eq_true (by omega)
     have m1:=Lib.hid (fun w=>qcmp_any l[j].1 l[j+1].1 w (HRT.out j (by omega)).1 (HRT.out (j+1) hjl).1)
     obtain ⟨q,hq⟩:∃ q,rCmp l[j].1 l[j+1].1=q:=⟨_,rfl⟩
     rw [hq] at m1
     have HQ:=Lib.hid hq
     clear hq
     go_wp2_with fail
     go_still_tail 11,(by kernel_rfl)
     change wpList _ _ _ _ _ wr.drew
     go_wp2_with fail
     with_reducible refine (m1.out _).mono ?_
     rintro e w2 ⟨rfl,hb2⟩
     have hB2:=Hand.stepB hb2 hB.drew (Nat.le_refl _)
     clear hb2
     by_cases hq0:0≤q
     ·have k1:(0≤q)=True:=eq_true hq0
      go_wp2
      go_ret
      exact ⟨by rw [chk_33 L0.out L1.out HALL.out (by rw [← Bool.not_eq_true,rises_iff];intro h;have:=h j hjl;rw [HQ.out] at this;omega)];rfl,hB2⟩
     ·have k1:(0≤q)=False:=eq_false hq0
      go_wp2
      go_roundw
      case rel =>
       refine ⟨j+1,by omega,by rw [Int.natCast_add];rfl,fun i h hi=>?_,hB2⟩
       by_cases hij:i=j
       ·subst hij;rw [HQ.out];omega
       ·exact HA.out i h (by omega)
      case measure=>simp [intOf];omega
    ·have p1:((j:Int)+1<(n:Int))=False:=eq_false (by omega)
     have HRI:=Lib.hid (show risesB (·.1) l=true from by rw [rises_iff];intro i hi;exact HA.out i hi (by have:=HN.out;omega))
     clear HA
     go_wp2_with fail
     clear p1 hjn hj
     go_loopw [5] (fun i wr=>∃ j:Nat,j+1≤n∧i = .int .i64 ((j:Int)+1)∧(∀ i (h:i+1<l.length),i<j → rCmp l[i].2 l[i+1].2<0)∧Below w.heap.size w wr) (fun i _=>n - (intOf i).toNat)
     case atStart=>exact ⟨0,by omega,rfl,fun i _ h=>absurd h (Nat.not_lt_zero _),hB⟩
     case round =>
      obtain ⟨j,hj,rfl,hall,hB⟩:=hrel
      have HA:=Lib.hid hall
      clear hall
      by_cases hjn:j+1<n
      ·have p1:((j:Int)+1<(n:Int))=True:=eq_true (by omega)
       have hjl:j+1<l.length:=by rw [← HN.out];exact hjn
       obtain ⟨c0,c1,c2,c3⟩:=(HK.out.below hB) j (by omega)
       obtain ⟨d0,d1,d2,d3⟩:=(HK.out.below hB) (j+1) hjl
       have w1:IntKind.i64.wrap ((j:Int)+1 - 1)=(j:Int):=by rw [IntKind.wrap_i64];omega
       have w2:IntKind.i64.wrap (j:Int)=(j:Int):=by rw [IntKind.wrap_i64];omega
       have p3:(0:Int)≤(j:Int)+1:=by omega
       have p4:((j:Int)<(n:Int))=True:=eq_true (by omega)
       have p5:(0:Int)≤(j:Int):=by omega
       have p6:(j<n)=True:=eq_true (by omega)
       have p7:(j+1<n)=True:=eq_true (by omega)
       have m1:=Lib.hid (fun w=>qcmp_any l[j].2 l[j+1].2 w (HRT.out j (by omega)).2 (HRT.out (j+1) hjl).2)
       obtain ⟨q,hq⟩:∃ q,rCmp l[j].2 l[j+1].2=q:=⟨_,rfl⟩
       rw [hq] at m1
       have HQ:=Lib.hid hq
       clear hq
       go_wp2_with fail
       go_still_tail 11,(by kernel_rfl)
       change wpList _ _ _ _ _ wr.drew
       go_wp2_with fail
       with_reducible refine (m1.out _).mono ?_
       rintro e w2 ⟨rfl,hb2⟩
       have hB2:=Hand.stepB hb2 hB.drew (Nat.le_refl _)
       clear hb2
       by_cases hq0:0≤q
       ·have k1:(0≤q)=True:=eq_true hq0
        go_wp2
        go_ret
        exact ⟨by rw [chk_32 L0.out L1.out HALL.out HRI.out (by rw [← Bool.not_eq_true,rises_iff];intro h;have:=h j hjl;rw [HQ.out] at this;omega)];rfl,hB2⟩
       ·have k1:(0≤q)=False:=eq_false hq0
        go_wp2
        go_roundw
        case rel =>
         refine ⟨j+1,by omega,by rw [Int.natCast_add];rfl,fun i h hi=>?_,hB2⟩
         by_cases hij:i=j
         ·subst hij;rw [HQ.out];omega
         ·exact HA.out i h (by omega)
        case measure=>simp [intOf];omega
      ·have p1:((j:Int)+1<(n:Int))=False:=eq_false (by omega)
       have HRO:=Lib.hid (show risesB (·.2) l=true from by rw [rises_iff];intro i hi;exact HA.out i hi (by have:=HN.out;omega))
       clear HA
       go_wp2
       go_ret
       exact ⟨by rw [chk_0 L0.out L1.out HALL.out HRI.out HRO.out];rfl,hB⟩
theorem cqk_none (A:Option Addr) (cap:Nat) (w:World) :
  Calls Try.prog 53 #[.slice A 0 cap] w fun e w'=>e = .returned (.int .i64 1)∧Below w.heap.size w w':=by
 go_enter Try.func53,Try.ntmps53
 go_wp2
 go_ret
 exact ⟨rfl,Below.refl _ _⟩
theorem cqk_many (A:Option Addr) (n cap:Nat) (h:64<n) (w:World) :
  Calls Try.prog 53 #[.slice A n cap] w fun e w'=>e = .returned (.int .i64 2)∧Below w.heap.size w w':=by
 have b1:((n:Int) == 0)=false:=by simp;omega
 have b2:(64<(n:Int))=True:=eq_true (by omega)
 have b3:(64<n)=True:=eq_true (by omega)
 have b4:(n == 0)=false:=by simp;omega
 have b5:¬ n=0:=by omega
 go_enter Try.func53,Try.ntmps53
 go_wp2
 go_ret
 exact ⟨rfl,Below.refl _ _⟩
theorem cqk_any (A:Option Addr) (l:List Kn) (cap:Nat) (w:World) (hK:KnS w A l) (hR:KnR l) :
  Calls Try.prog 53 #[.slice A l.length cap] w fun e w'=>e = .returned (.int .i64 (chkK l))∧Below w.heap.size w w':=by
 rcases hK with rfl|⟨ad,rfl,hK⟩
 ·exact cqk_none A cap w
 ·by_cases h0:l.length=0
  ·rw [List.length_eq_zero_iff.mp h0];exact cqk_none _ cap w
  ·by_cases h1:l.length≤64
   ·exact cqk_some ad l _ cap w rfl hK hR (by omega) h1
   ·rw [show chkK l=2 by unfold chkK;rw [if_neg h0,if_pos (by omega)]]
    exact cqk_many _ _ cap (by omega) w
end Go.Proofs.Ythlpaglldhgmfaa.PA
