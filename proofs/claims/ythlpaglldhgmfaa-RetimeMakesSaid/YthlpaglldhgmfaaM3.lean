/- Add, its last part: behind the fraction f. Add, its second part: from the two products on. Add: two right ratios. Add, at all; Sub, Neg. Sub. The ratio layer in plain mathematics: what is told is an exact number, if it is right. -/
import Derived.Test.YthlpaglldhgmfaaM2
set_option maxHeartbeats 40000000
set_option maxRecDepth 100000
namespace Go.Proofs.Ythlpaglldhgmfaa.PA
open Go.RowKit Go.Proofs.YthlpaglldhgmfaaW.PrintWords Go.Proofs.YthlpaglldhgmfaaW.PrintLast Go.Proofs.YthlpaglldhgmfaaW.PrintMore
attribute [local go_sem high] eqA85 eqA31
set_option linter.unusedSimpArgs false
set_option linter.unusedVariables false
def sumS (sa sc:Bool) (p q:Nat):Bool × Nat:=if sa=sc then (sa,p+q) else if p<q then (sc,q - p) else (sa,p - q)
def sndC:Code → Code
 | .seq _ b=>b
 | c=>c
noncomputable def addB:Code:=sndC (sndC (sndC (Try.f44.body.getD .skip)))
noncomputable def addC:Code:=sndC addB
theorem add_c (a b c d x y z:Int) (p q m n na nb' nc' nd':Nat) (sa sc s:Bool) (w:World) (gx gy gf:Nat) (V:World) (ha:decide (a<0)=sa) (hc:decide (c<0)=sc)
  (HS:Hid (sumS sa sc p q=(s,n))) (PB:Hid (p≤9903520314283042199192993792)) (QB:Hid (q≤9903520314283042199192993792))
  (M5:Hid (∀ w,Calls Try.prog 84 #[.agg #[.bool s,.int .u64 (hiN n),.int .u64 (loN n),.int .u64 (hiN m),.int .u64 (loN m)]] w fun e w'=>e = .returned (.tuple #[.agg #[.int .i64 x,.int .i64 y],.int .i64 z])∧Below w.heap.size w w'))
  (hxy:gx≠gy) (hgx:w.heap.size+1+1<gx) (hgy:w.heap.size+1+1<gy) (hxf:gx≠gf) (hyf:gy≠gf) (hgf:w.heap.size+1+1<gf)
  (hfacts:V.heap[w.heap.size]?=some (.cells #[.int .i64 a,.int .i64 b] 31 (0,0))∧V.heap[w.heap.size+1]?=some (.cells #[.int .i64 c,.int .i64 d] 31 (0,0))∧V.heap[w.heap.size+1+1]?=some (.cells #[.int .i64 0,.int .i64 0] 31 (0,0))∧V.heap[gx]?=some (.cells #[.int .u64 (hiN p),.int .u64 (loN p)] 85 (0,0))∧V.heap[gy]?=some (.cells #[.int .u64 (hiN q),.int .u64 (loN q)] 85 (0,0))∧V.heap[gf]?=some (.cells #[.bool sa,.int .u64 (hiN (p+q)),.int .u64 (loN (p+q)),.int .u64 (hiN m),.int .u64 (loN m)] 114 (0,0))) (hB:Below w.heap.size w V) :
  addC.wp Try.prog (bodyPost Try.prog Try.f44 fun e w' => e = .returned (.tuple #[.agg #[.int .i64 x, .int .i64 y], .int .i64 z]) ∧ Below w.heap.size w w') ⟨#[.agg #[.int .i64 a, .int .i64 b], .agg #[.int .i64 c, .int .i64 d], .pointer (some ⟨w.heap.size, 0, none⟩), .pointer (some ⟨w.heap.size + 1, 0, none⟩), .pointer (some ⟨w.heap.size + 1 + 1, 0, none⟩), .int .i64 0, .pointer (some ⟨gx, 0, none⟩), .pointer (some ⟨gy, 0, none⟩), .pointer (some ⟨gf, 0, none⟩),
        .agg #[.int .i64 a,.int .i64 b],.agg #[.int .i64 c,.int .i64 d],.slice (some ⟨w.heap.size+1+1+1,0,none⟩) 2 2,.bool true,.bool false,undef,.pointer (some ⟨w.heap.size,0,none⟩),.int .i64 a,.int .u64 (na:Int),.pointer (some ⟨w.heap.size+1,1,none⟩),.int .i64 d,.int .u64 (nd':Int),
        .agg #[.int .u64 (hiN p),.int .u64 (loN p)],.pointer (some ⟨w.heap.size+1,0,none⟩),.int .i64 c,.int .u64 (nc':Int),.pointer (some ⟨w.heap.size,1,none⟩),.int .i64 b,.int .u64 (nb':Int),.agg #[.int .u64 (hiN q),.int .u64 (loN q)],
        .pointer (some ⟨w.heap.size,0,none⟩),.int .i64 a,.bool sa,.agg #[.int .u64 (hiN p),.int .u64 (loN p)],.agg #[.int .u64 (hiN q),.int .u64 (loN q)],.agg #[.int .u64 (hiN (p+q)),.int .u64 (loN (p+q))],.pointer (some ⟨w.heap.size,1,none⟩),.int .i64 b,.int .u64 (nb':Int),.pointer (some ⟨w.heap.size+1,1,none⟩),.int .i64 d,.int .u64 (nd':Int),
        .agg #[.int .u64 (hiN m),.int .u64 (loN m)],.agg #[.bool sa,.int .u64 (hiN (p+q)),.int .u64 (loN (p+q)),.int .u64 (hiN m),.int .u64 (loN m)],undef,undef,undef,undef,undef,undef,undef,undef,undef,undef,undef,undef,undef,undef,undef,undef,undef,undef,undef,undef,undef,undef,undef,undef,undef],[]⟩ V:=by
 conv=>arg 2;whnf
 obtain ⟨g_A,g_B,g_R,g_X,g_Y,g_F⟩:=hfacts
 obtain ⟨z_A,z1_A,z2_A,y0_A,y1_A⟩:=Hand.hz g_A
 obtain ⟨c_A_0,f_A_0,c_A_1,f_A_1⟩:=Hand.hc2 g_A
 obtain ⟨z_B,z1_B,z2_B,y0_B,y1_B⟩:=Hand.hz g_B
 obtain ⟨c_B_0,f_B_0,c_B_1,f_B_1⟩:=Hand.hc2 g_B
 obtain ⟨z_R,z1_R,z2_R,y0_R,y1_R⟩:=Hand.hz g_R
 obtain ⟨c_R_0,f_R_0,c_R_1,f_R_1⟩:=Hand.hc2 g_R
 obtain ⟨z_X,z1_X,z2_X,y0_X,y1_X⟩:=Hand.hz g_X
 obtain ⟨c_X_0,f_X_0,c_X_1,f_X_1⟩:=Hand.hc2 g_X
 obtain ⟨z_Y,z1_Y,z2_Y,y0_Y,y1_Y⟩:=Hand.hz g_Y
 obtain ⟨c_Y_0,f_Y_0,c_Y_1,f_Y_1⟩:=Hand.hc2 g_Y
 obtain ⟨z_F,z1_F,z2_F,y0_F,y1_F⟩:=Hand.hz g_F
 obtain ⟨c_F_0,f_F_0,c_F_1,f_F_1,c_F_2,f_F_2,c_F_3,f_F_3,c_F_4,f_F_4⟩:=Hand.hc5 g_F
 have zw:w.heap.size≤V.heap.size:=hB.size
 have HG:=Lib.hid (And.intro g_A (And.intro g_B (And.intro g_R (And.intro g_X (And.intro g_Y (And.intro g_F (hB)))))))
 clear g_A g_B g_R g_X g_Y g_F hB
 have hs:=HS.out
 unfold sumS at hs
 by_cases hsac:sa=sc
 ·subst hsac
  rw [if_pos rfl,Prod.mk.injEq] at hs
  obtain ⟨rfl,rfl⟩:=hs
  go_wp2_with fail
  with_reducible refine (M5.out _).mono ?_
  rintro e w8 ⟨rfl,hb8⟩
  obtain ⟨g_A,g_B,g_R,g_X,g_Y,g_F,hB⟩:=HG.out
  have h_A:w8.heap[w.heap.size]?=some (.cells #[.int .i64 a,.int .i64 b] 31 (0,0)):=by
   refine Hand.kb hb8 ?_;first|with_reducible exact g_A|(simp (disch:=try exact Hand.z) only [Hand.q2,Hand.q1,Hand.q5,Hand.q6,Hand.q4,Hand.q3,g_A]<;>rfl)
  have h_B:w8.heap[w.heap.size+1]?=some (.cells #[.int .i64 c,.int .i64 d] 31 (0,0)):=by
   refine Hand.kb hb8 ?_;first|with_reducible exact g_B|(simp (disch:=try exact Hand.z) only [Hand.q2,Hand.q1,Hand.q5,Hand.q6,Hand.q4,Hand.q3,g_B]<;>rfl)
  have h_R:w8.heap[w.heap.size+1+1]?=some (.cells #[.int .i64 0,.int .i64 0] 31 (0,0)):=by
   refine Hand.kb hb8 ?_;first|with_reducible exact g_R|(simp (disch:=try exact Hand.z) only [Hand.q2,Hand.q1,Hand.q5,Hand.q6,Hand.q4,Hand.q3,g_R]<;>rfl)
  have h_X:w8.heap[gx]?=some (.cells #[.int .u64 (hiN p),.int .u64 (loN p)] 85 (0,0)):=by
   refine Hand.kb hb8 ?_;first|with_reducible exact g_X|(simp (disch:=try exact Hand.z) only [Hand.q2,Hand.q1,Hand.q5,Hand.q6,Hand.q4,Hand.q3,g_X]<;>rfl)
  have h_Y:w8.heap[gy]?=some (.cells #[.int .u64 (hiN q),.int .u64 (loN q)] 85 (0,0)):=by
   refine Hand.kb hb8 ?_;first|with_reducible exact g_Y|(simp (disch:=try exact Hand.z) only [Hand.q2,Hand.q1,Hand.q5,Hand.q6,Hand.q4,Hand.q3,g_Y]<;>rfl)
  have h_F:w8.heap[gf]?=some (.cells #[.bool sa,.int .u64 (hiN (p+q)),.int .u64 (loN (p+q)),.int .u64 (hiN m),.int .u64 (loN m)] 114 (0,0)):=by
   refine Hand.kb hb8 ?_;first|with_reducible exact g_F|(simp (disch:=try exact Hand.z) only [Hand.q2,Hand.q1,Hand.q5,Hand.q6,Hand.q4,Hand.q3,g_F]<;>rfl)
  have hB':Below w.heap.size w w8:=Hand.stepB hb8 Hand.b (Nat.le_refl _)
  clear HG hB g_A g_B g_R g_X g_Y g_F zw z_A z1_A z2_A y0_A y1_A c_A_0 f_A_0 c_A_1 f_A_1 z_B z1_B z2_B y0_B y1_B c_B_0 f_B_0 c_B_1 f_B_1 z_R z1_R z2_R y0_R y1_R c_R_0 f_R_0 c_R_1 f_R_1 z_X z1_X z2_X y0_X y1_X c_X_0 f_X_0 c_X_1 f_X_1 z_Y z1_Y z2_Y y0_Y y1_Y c_Y_0 f_Y_0 c_Y_1 f_Y_1 z_F z1_F z2_F y0_F y1_F c_F_0 f_F_0 c_F_1 f_F_1 c_F_2 f_F_2 c_F_3 f_F_3 c_F_4 f_F_4
  clear hb8
  have g_A:=h_A
  have g_B:=h_B
  have g_R:=h_R
  have g_X:=h_X
  have g_Y:=h_Y
  have g_F:=h_F
  have hB:=hB'
  clear hB' h_A h_B h_R h_X h_Y h_F
  obtain ⟨z_A,z1_A,z2_A,y0_A,y1_A⟩:=Hand.hz g_A
  obtain ⟨c_A_0,f_A_0,c_A_1,f_A_1⟩:=Hand.hc2 g_A
  obtain ⟨z_B,z1_B,z2_B,y0_B,y1_B⟩:=Hand.hz g_B
  obtain ⟨c_B_0,f_B_0,c_B_1,f_B_1⟩:=Hand.hc2 g_B
  obtain ⟨z_R,z1_R,z2_R,y0_R,y1_R⟩:=Hand.hz g_R
  obtain ⟨c_R_0,f_R_0,c_R_1,f_R_1⟩:=Hand.hc2 g_R
  obtain ⟨z_X,z1_X,z2_X,y0_X,y1_X⟩:=Hand.hz g_X
  obtain ⟨c_X_0,f_X_0,c_X_1,f_X_1⟩:=Hand.hc2 g_X
  obtain ⟨z_Y,z1_Y,z2_Y,y0_Y,y1_Y⟩:=Hand.hz g_Y
  obtain ⟨c_Y_0,f_Y_0,c_Y_1,f_Y_1⟩:=Hand.hc2 g_Y
  obtain ⟨z_F,z1_F,z2_F,y0_F,y1_F⟩:=Hand.hz g_F
  obtain ⟨c_F_0,f_F_0,c_F_1,f_F_1,c_F_2,f_F_2,c_F_3,f_F_3,c_F_4,f_F_4⟩:=Hand.hc5 g_F
  have zw:w.heap.size≤w8.heap.size:=hB.size
  have HG:=Lib.hid (And.intro g_A (And.intro g_B (And.intro g_R (And.intro g_X (And.intro g_Y (And.intro g_F (hB)))))))
  clear g_A g_B g_R g_X g_Y g_F hB
  go_wp2
  obtain ⟨g_A,g_B,g_R,g_X,g_Y,g_F,hB⟩:=HG.out
  refine bodyPost_ret (results_ct rfl _ _ (w.heap.size+1+1) 31 #[.int .i64 x,.int .i64 y] (0,0) _ rfl ?_ Try.underlying31 rfl (by kernel_rfl)) rfl ⟨rfl,?_⟩
  ·simp (disch:=omega) only [Hand.q1,g_R];rfl
  ·exact (hB.setCell Hand.d _).setCell Hand.d _
 ·rw [if_neg hsac] at hs
  have hne:(sa == sc)=false:=by simpa using hsac
  have pb:=PB.out
  have qb:=QB.out
  by_cases hpq:p<q
  ·rw [if_pos hpq,Prod.mk.injEq] at hs
   obtain ⟨rfl,rfl⟩:=hs
   have c1:∀ w,Calls Try.prog 52 #[.agg #[.int .u64 (hiN p),.int .u64 (loN p)],.agg #[.int .u64 (hiN q),.int .u64 (loN q)]] w fun e w'=>e = .returned (.int .i64 (-1))∧Below w.heap.size w w':=fun w=>by
    have:=cmp_any p q w
    have e:cmpN p q = -1:=by unfold cmpN;rw [if_neg (by omega),if_pos hpq]
    rwa [e] at this
   have d1:∀ w,Calls Try.prog 83 #[.agg #[.int .u64 (hiN q),.int .u64 (loN q)],.agg #[.int .u64 (hiN p),.int .u64 (loN p)]] w fun e w'=>e = .returned (.agg #[.int .u64 (hiN (q - p)),.int .u64 (loN (q - p))])∧Below w.heap.size w w':=fun w=>minus_any q p (by omega) (by omega) w
   have C1:=Lib.hid c1
   have D1:=Lib.hid d1
   clear c1 d1 hpq pb qb hsac
   go_wp2_with fail
   with_reducible refine (C1.out _).mono ?_
   rintro e w8 ⟨rfl,hb8⟩
   obtain ⟨g_A,g_B,g_R,g_X,g_Y,g_F,hB⟩:=HG.out
   have h_A:w8.heap[w.heap.size]?=some (.cells #[.int .i64 a,.int .i64 b] 31 (0,0)):=by
    refine Hand.kb hb8 ?_;first|with_reducible exact g_A|(simp (disch:=try exact Hand.z) only [Hand.q2,Hand.q1,Hand.q5,Hand.q6,Hand.q4,Hand.q3,g_A]<;>rfl)
   have h_B:w8.heap[w.heap.size+1]?=some (.cells #[.int .i64 c,.int .i64 d] 31 (0,0)):=by
    refine Hand.kb hb8 ?_;first|with_reducible exact g_B|(simp (disch:=try exact Hand.z) only [Hand.q2,Hand.q1,Hand.q5,Hand.q6,Hand.q4,Hand.q3,g_B]<;>rfl)
   have h_R:w8.heap[w.heap.size+1+1]?=some (.cells #[.int .i64 0,.int .i64 0] 31 (0,0)):=by
    refine Hand.kb hb8 ?_;first|with_reducible exact g_R|(simp (disch:=try exact Hand.z) only [Hand.q2,Hand.q1,Hand.q5,Hand.q6,Hand.q4,Hand.q3,g_R]<;>rfl)
   have h_X:w8.heap[gx]?=some (.cells #[.int .u64 (hiN p),.int .u64 (loN p)] 85 (0,0)):=by
    refine Hand.kb hb8 ?_;first|with_reducible exact g_X|(simp (disch:=try exact Hand.z) only [Hand.q2,Hand.q1,Hand.q5,Hand.q6,Hand.q4,Hand.q3,g_X]<;>rfl)
   have h_Y:w8.heap[gy]?=some (.cells #[.int .u64 (hiN q),.int .u64 (loN q)] 85 (0,0)):=by
    refine Hand.kb hb8 ?_;first|with_reducible exact g_Y|(simp (disch:=try exact Hand.z) only [Hand.q2,Hand.q1,Hand.q5,Hand.q6,Hand.q4,Hand.q3,g_Y]<;>rfl)
   have h_F:w8.heap[gf]?=some (.cells #[.bool sa,.int .u64 (hiN (p+q)),.int .u64 (loN (p+q)),.int .u64 (hiN m),.int .u64 (loN m)] 114 (0,0)):=by
    refine Hand.kb hb8 ?_;first|with_reducible exact g_F|(simp (disch:=try exact Hand.z) only [Hand.q2,Hand.q1,Hand.q5,Hand.q6,Hand.q4,Hand.q3,g_F]<;>rfl)
   have hB':Below w.heap.size w w8:=Hand.stepB hb8 Hand.b (Nat.le_refl _)
   clear HG hB g_A g_B g_R g_X g_Y g_F zw z_A z1_A z2_A y0_A y1_A c_A_0 f_A_0 c_A_1 f_A_1 z_B z1_B z2_B y0_B y1_B c_B_0 f_B_0 c_B_1 f_B_1 z_R z1_R z2_R y0_R y1_R c_R_0 f_R_0 c_R_1 f_R_1 z_X z1_X z2_X y0_X y1_X c_X_0 f_X_0 c_X_1 f_X_1 z_Y z1_Y z2_Y y0_Y y1_Y c_Y_0 f_Y_0 c_Y_1 f_Y_1 z_F z1_F z2_F y0_F y1_F c_F_0 f_F_0 c_F_1 f_F_1 c_F_2 f_F_2 c_F_3 f_F_3 c_F_4 f_F_4
   clear hb8
   have g_A:=h_A
   have g_B:=h_B
   have g_R:=h_R
   have g_X:=h_X
   have g_Y:=h_Y
   have g_F:=h_F
   have hB:=hB'
   clear hB' h_A h_B h_R h_X h_Y h_F
   obtain ⟨z_A,z1_A,z2_A,y0_A,y1_A⟩:=Hand.hz g_A
   obtain ⟨c_A_0,f_A_0,c_A_1,f_A_1⟩:=Hand.hc2 g_A
   obtain ⟨z_B,z1_B,z2_B,y0_B,y1_B⟩:=Hand.hz g_B
   obtain ⟨c_B_0,f_B_0,c_B_1,f_B_1⟩:=Hand.hc2 g_B
   obtain ⟨z_R,z1_R,z2_R,y0_R,y1_R⟩:=Hand.hz g_R
   obtain ⟨c_R_0,f_R_0,c_R_1,f_R_1⟩:=Hand.hc2 g_R
   obtain ⟨z_X,z1_X,z2_X,y0_X,y1_X⟩:=Hand.hz g_X
   obtain ⟨c_X_0,f_X_0,c_X_1,f_X_1⟩:=Hand.hc2 g_X
   obtain ⟨z_Y,z1_Y,z2_Y,y0_Y,y1_Y⟩:=Hand.hz g_Y
   obtain ⟨c_Y_0,f_Y_0,c_Y_1,f_Y_1⟩:=Hand.hc2 g_Y
   obtain ⟨z_F,z1_F,z2_F,y0_F,y1_F⟩:=Hand.hz g_F
   obtain ⟨c_F_0,f_F_0,c_F_1,f_F_1,c_F_2,f_F_2,c_F_3,f_F_3,c_F_4,f_F_4⟩:=Hand.hc5 g_F
   have zw:w.heap.size≤w8.heap.size:=hB.size
   have HG:=Lib.hid (And.intro g_A (And.intro g_B (And.intro g_R (And.intro g_X (And.intro g_Y (And.intro g_F (hB)))))))
   clear g_A g_B g_R g_X g_Y g_F hB
   go_wp2
   refine Hand.wp_cut (fun PP hPP=>?_)
   have rest3:PP .normal ⟨#[.agg #[.int .i64 a,.int .i64 b],.agg #[.int .i64 c,.int .i64 d],.pointer (some ⟨w.heap.size,0,none⟩),.pointer (some ⟨w.heap.size+1,0,none⟩),.pointer (some ⟨w.heap.size+1+1,0,none⟩),.int .i64 0,.pointer (some ⟨gx,0,none⟩),.pointer (some ⟨gy,0,none⟩),.pointer (some ⟨gf,0,none⟩),
    .agg #[.int .i64 a,.int .i64 b],.agg #[.int .i64 c,.int .i64 d],.slice (some ⟨w.heap.size+1+1+1,0,none⟩) 2 2,.bool true,.bool false,undef,.pointer (some ⟨w.heap.size,0,none⟩),.int .i64 a,.int .u64 (na:Int),.pointer (some ⟨w.heap.size+1,1,none⟩),.int .i64 d,.int .u64 (nd':Int),
    .agg #[.int .u64 (hiN p),.int .u64 (loN p)],.pointer (some ⟨w.heap.size+1,0,none⟩),.int .i64 c,.int .u64 (nc':Int),.pointer (some ⟨w.heap.size,1,none⟩),.int .i64 b,.int .u64 (nb':Int),.agg #[.int .u64 (hiN q),.int .u64 (loN q)],
    .pointer (some ⟨w.heap.size,0,none⟩),.int .i64 a,.bool sa,.agg #[.int .u64 (hiN p),.int .u64 (loN p)],.agg #[.int .u64 (hiN q),.int .u64 (loN q)],.agg #[.int .u64 (hiN (p+q)),.int .u64 (loN (p+q))],.pointer (some ⟨w.heap.size,1,none⟩),.int .i64 b,.int .u64 (nb':Int),.pointer (some ⟨w.heap.size+1,1,none⟩),.int .i64 d,.int .u64 (nd':Int),
    .agg #[.int .u64 (hiN m),.int .u64 (loN m)],.agg #[.bool sa,.int .u64 (hiN (p+q)),.int .u64 (loN (p+q)),.int .u64 (hiN m),.int .u64 (loN m)],.pointer (some ⟨w.heap.size,0,none⟩),.int .i64 a,.bool sa,.pointer (some ⟨w.heap.size+1,0,none⟩),.int .i64 c,.bool sc,.bool true,.agg #[.int .u64 (hiN p),.int .u64 (loN p)],.agg #[.int .u64 (hiN q),.int .u64 (loN q)],.int .i64 (-1),.bool true,.pointer (some ⟨w.heap.size+1,0,none⟩),.int .i64 c,.bool sc,.agg #[.int .u64 (hiN q),.int .u64 (loN q)],.agg #[.int .u64 (hiN p),.int .u64 (loN p)],.pointer (some ⟨gf,0,none⟩),undef,undef,undef,undef,undef,undef,undef,undef],[]⟩ (((((w8.setCell ⟨gf,0,none⟩ (.bool sc)).setCell ⟨gx,0,none⟩ (.int .u64 (hiN q))).setCell ⟨gx,1,none⟩ (.int .u64 (loN q))).setCell ⟨gy,0,none⟩ (.int .u64 (hiN p))).setCell ⟨gy,1,none⟩ (.int .u64 (loN p))).drew:=by
    rw [hPP]
    clear hPP PP
    go_wp2_with fail
    with_reducible refine (D1.out _).mono ?_
    rintro e w9 ⟨rfl,hb9⟩
    obtain ⟨g_A,g_B,g_R,g_X,g_Y,g_F,hB⟩:=HG.out
    have h_A:w9.heap[w.heap.size]?=some (.cells #[.int .i64 a,.int .i64 b] 31 (0,0)):=by
     refine Hand.kb hb9 ?_;first|with_reducible exact g_A|(simp (disch:=try exact Hand.z) only [Hand.q2,Hand.q1,Hand.q5,Hand.q6,Hand.q4,Hand.q3,g_A]<;>rfl)
    have h_B:w9.heap[w.heap.size+1]?=some (.cells #[.int .i64 c,.int .i64 d] 31 (0,0)):=by
     refine Hand.kb hb9 ?_;first|with_reducible exact g_B|(simp (disch:=try exact Hand.z) only [Hand.q2,Hand.q1,Hand.q5,Hand.q6,Hand.q4,Hand.q3,g_B]<;>rfl)
    have h_R:w9.heap[w.heap.size+1+1]?=some (.cells #[.int .i64 0,.int .i64 0] 31 (0,0)):=by
     refine Hand.kb hb9 ?_;first|with_reducible exact g_R|(simp (disch:=try exact Hand.z) only [Hand.q2,Hand.q1,Hand.q5,Hand.q6,Hand.q4,Hand.q3,g_R]<;>rfl)
    have h_X:w9.heap[gx]?=some (.cells #[.int .u64 (hiN q),.int .u64 (loN q)] 85 (0,0)):=by
     refine Hand.kb hb9 ?_;simp (disch:=try exact Hand.z) only [Hand.q2,Hand.q1,Hand.q5,Hand.q6,Hand.q4,Hand.q3,g_X]<;>rfl
    have h_Y:w9.heap[gy]?=some (.cells #[.int .u64 (hiN p),.int .u64 (loN p)] 85 (0,0)):=by
     refine Hand.kb hb9 ?_;simp (disch:=try exact Hand.z) only [Hand.q2,Hand.q1,Hand.q5,Hand.q6,Hand.q4,Hand.q3,g_Y]<;>rfl
    have h_F:w9.heap[gf]?=some (.cells #[.bool sc,.int .u64 (hiN (p+q)),.int .u64 (loN (p+q)),.int .u64 (hiN m),.int .u64 (loN m)] 114 (0,0)):=by
     refine Hand.kb hb9 ?_;simp (disch:=try exact Hand.z) only [Hand.q2,Hand.q1,Hand.q5,Hand.q6,Hand.q4,Hand.q3,g_F]<;>rfl
    have hB':Below w.heap.size w w9:=Hand.stepB hb9 Hand.b (Nat.le_refl _)
    clear HG hB g_A g_B g_R g_X g_Y g_F zw z_A z1_A z2_A y0_A y1_A c_A_0 f_A_0 c_A_1 f_A_1 z_B z1_B z2_B y0_B y1_B c_B_0 f_B_0 c_B_1 f_B_1 z_R z1_R z2_R y0_R y1_R c_R_0 f_R_0 c_R_1 f_R_1 z_X z1_X z2_X y0_X y1_X c_X_0 f_X_0 c_X_1 f_X_1 z_Y z1_Y z2_Y y0_Y y1_Y c_Y_0 f_Y_0 c_Y_1 f_Y_1 z_F z1_F z2_F y0_F y1_F c_F_0 f_F_0 c_F_1 f_F_1 c_F_2 f_F_2 c_F_3 f_F_3 c_F_4 f_F_4
    clear hb9
    have g_A:=h_A
    have g_B:=h_B
    have g_R:=h_R
    have g_X:=h_X
    have g_Y:=h_Y
    have g_F:=h_F
    have hB:=hB'
    clear hB' h_A h_B h_R h_X h_Y h_F
    obtain ⟨z_A,z1_A,z2_A,y0_A,y1_A⟩:=Hand.hz g_A
    obtain ⟨c_A_0,f_A_0,c_A_1,f_A_1⟩:=Hand.hc2 g_A
    obtain ⟨z_B,z1_B,z2_B,y0_B,y1_B⟩:=Hand.hz g_B
    obtain ⟨c_B_0,f_B_0,c_B_1,f_B_1⟩:=Hand.hc2 g_B
    obtain ⟨z_R,z1_R,z2_R,y0_R,y1_R⟩:=Hand.hz g_R
    obtain ⟨c_R_0,f_R_0,c_R_1,f_R_1⟩:=Hand.hc2 g_R
    obtain ⟨z_X,z1_X,z2_X,y0_X,y1_X⟩:=Hand.hz g_X
    obtain ⟨c_X_0,f_X_0,c_X_1,f_X_1⟩:=Hand.hc2 g_X
    obtain ⟨z_Y,z1_Y,z2_Y,y0_Y,y1_Y⟩:=Hand.hz g_Y
    obtain ⟨c_Y_0,f_Y_0,c_Y_1,f_Y_1⟩:=Hand.hc2 g_Y
    obtain ⟨z_F,z1_F,z2_F,y0_F,y1_F⟩:=Hand.hz g_F
    obtain ⟨c_F_0,f_F_0,c_F_1,f_F_1,c_F_2,f_F_2,c_F_3,f_F_3,c_F_4,f_F_4⟩:=Hand.hc5 g_F
    have zw:w.heap.size≤w9.heap.size:=hB.size
    have HG:=Lib.hid (And.intro g_A (And.intro g_B (And.intro g_R (And.intro g_X (And.intro g_Y (And.intro g_F (hB)))))))
    clear g_A g_B g_R g_X g_Y g_F hB
    go_wp2_with fail
    with_reducible refine (M5.out _).mono ?_
    rintro e w10 ⟨rfl,hb10⟩
    obtain ⟨g_A,g_B,g_R,g_X,g_Y,g_F,hB⟩:=HG.out
    have h_A:w10.heap[w.heap.size]?=some (.cells #[.int .i64 a,.int .i64 b] 31 (0,0)):=by
     refine Hand.kb hb10 ?_;first|with_reducible exact g_A|(simp (disch:=try exact Hand.z) only [Hand.q2,Hand.q1,Hand.q5,Hand.q6,Hand.q4,Hand.q3,g_A]<;>rfl)
    have h_B:w10.heap[w.heap.size+1]?=some (.cells #[.int .i64 c,.int .i64 d] 31 (0,0)):=by
     refine Hand.kb hb10 ?_;first|with_reducible exact g_B|(simp (disch:=try exact Hand.z) only [Hand.q2,Hand.q1,Hand.q5,Hand.q6,Hand.q4,Hand.q3,g_B]<;>rfl)
    have h_R:w10.heap[w.heap.size+1+1]?=some (.cells #[.int .i64 0,.int .i64 0] 31 (0,0)):=by
     refine Hand.kb hb10 ?_;first|with_reducible exact g_R|(simp (disch:=try exact Hand.z) only [Hand.q2,Hand.q1,Hand.q5,Hand.q6,Hand.q4,Hand.q3,g_R]<;>rfl)
    have h_X:w10.heap[gx]?=some (.cells #[.int .u64 (hiN q),.int .u64 (loN q)] 85 (0,0)):=by
     refine Hand.kb hb10 ?_;simp (disch:=try exact Hand.z) only [Hand.q2,Hand.q1,Hand.q5,Hand.q6,Hand.q4,Hand.q3,g_X]<;>rfl
    have h_Y:w10.heap[gy]?=some (.cells #[.int .u64 (hiN p),.int .u64 (loN p)] 85 (0,0)):=by
     refine Hand.kb hb10 ?_;simp (disch:=try exact Hand.z) only [Hand.q2,Hand.q1,Hand.q5,Hand.q6,Hand.q4,Hand.q3,g_Y]<;>rfl
    have h_F:w10.heap[gf]?=some (.cells #[.bool sc,.int .u64 (hiN (q - p)),.int .u64 (loN (q - p)),.int .u64 (hiN m),.int .u64 (loN m)] 114 (0,0)):=by
     refine Hand.kb hb10 ?_;simp (disch:=try exact Hand.z) only [Hand.q2,Hand.q1,Hand.q5,Hand.q6,Hand.q4,Hand.q3,g_F]<;>rfl
    have hB':Below w.heap.size w w10:=Hand.stepB hb10 Hand.b (Nat.le_refl _)
    clear HG hB g_A g_B g_R g_X g_Y g_F zw z_A z1_A z2_A y0_A y1_A c_A_0 f_A_0 c_A_1 f_A_1 z_B z1_B z2_B y0_B y1_B c_B_0 f_B_0 c_B_1 f_B_1 z_R z1_R z2_R y0_R y1_R c_R_0 f_R_0 c_R_1 f_R_1 z_X z1_X z2_X y0_X y1_X c_X_0 f_X_0 c_X_1 f_X_1 z_Y z1_Y z2_Y y0_Y y1_Y c_Y_0 f_Y_0 c_Y_1 f_Y_1 z_F z1_F z2_F y0_F y1_F c_F_0 f_F_0 c_F_1 f_F_1 c_F_2 f_F_2 c_F_3 f_F_3 c_F_4 f_F_4
    clear hb10
    have g_A:=h_A
    have g_B:=h_B
    have g_R:=h_R
    have g_X:=h_X
    have g_Y:=h_Y
    have g_F:=h_F
    have hB:=hB'
    clear hB' h_A h_B h_R h_X h_Y h_F
    obtain ⟨z_A,z1_A,z2_A,y0_A,y1_A⟩:=Hand.hz g_A
    obtain ⟨c_A_0,f_A_0,c_A_1,f_A_1⟩:=Hand.hc2 g_A
    obtain ⟨z_B,z1_B,z2_B,y0_B,y1_B⟩:=Hand.hz g_B
    obtain ⟨c_B_0,f_B_0,c_B_1,f_B_1⟩:=Hand.hc2 g_B
    obtain ⟨z_R,z1_R,z2_R,y0_R,y1_R⟩:=Hand.hz g_R
    obtain ⟨c_R_0,f_R_0,c_R_1,f_R_1⟩:=Hand.hc2 g_R
    obtain ⟨z_X,z1_X,z2_X,y0_X,y1_X⟩:=Hand.hz g_X
    obtain ⟨c_X_0,f_X_0,c_X_1,f_X_1⟩:=Hand.hc2 g_X
    obtain ⟨z_Y,z1_Y,z2_Y,y0_Y,y1_Y⟩:=Hand.hz g_Y
    obtain ⟨c_Y_0,f_Y_0,c_Y_1,f_Y_1⟩:=Hand.hc2 g_Y
    obtain ⟨z_F,z1_F,z2_F,y0_F,y1_F⟩:=Hand.hz g_F
    obtain ⟨c_F_0,f_F_0,c_F_1,f_F_1,c_F_2,f_F_2,c_F_3,f_F_3,c_F_4,f_F_4⟩:=Hand.hc5 g_F
    have zw:w.heap.size≤w10.heap.size:=hB.size
    have HG:=Lib.hid (And.intro g_A (And.intro g_B (And.intro g_R (And.intro g_X (And.intro g_Y (And.intro g_F (hB)))))))
    clear g_A g_B g_R g_X g_Y g_F hB
    go_wp2
    obtain ⟨g_A,g_B,g_R,g_X,g_Y,g_F,hB⟩:=HG.out
    refine bodyPost_ret (results_ct rfl _ _ (w.heap.size+1+1) 31 #[.int .i64 x,.int .i64 y] (0,0) _ rfl ?_ Try.underlying31 rfl (by kernel_rfl)) rfl ⟨rfl,?_⟩
    ·simp (disch:=omega) only [Hand.q1,g_R];rfl
    ·exact (hB.setCell Hand.d _).setCell Hand.d _
   clear HG zw c_A_0 f_A_0 c_A_1 f_A_1 z_A z1_A z2_A y0_A y1_A c_R_0 f_R_0 c_R_1 f_R_1 z_R z1_R z2_R y0_R y1_R c_B_1 f_B_1 z_B z1_B z2_B y0_B y1_B z_X z1_X z2_X y0_X y1_X z_Y z1_Y z2_Y y0_Y y1_Y c_F_1 f_F_1 c_F_2 f_F_2 c_F_3 f_F_3 c_F_4 f_F_4 z_F z1_F z2_F y0_F y1_F
   refine wp_region_noPanic ?_
   go_region_with fail
   all_goals (refine NoPanic.normal ?_;with_reducible exact rest3)
  ·rw [if_neg hpq,Prod.mk.injEq] at hs
   obtain ⟨rfl,rfl⟩:=hs
   obtain ⟨k,hk⟩:∃ k,cmpN p q=k:=⟨_,rfl⟩
   have c1:∀ w,Calls Try.prog 52 #[.agg #[.int .u64 (hiN p),.int .u64 (loN p)],.agg #[.int .u64 (hiN q),.int .u64 (loN q)]] w fun e w'=>e = .returned (.int .i64 k)∧Below w.heap.size w w':=fun w=>by
    have:=cmp_any p q w
    rwa [hk] at this
   have hk0:decide (k<0)=false:=by
    have:0≤cmpN p q:=by unfold cmpN;rw [if_neg hpq];split<;>decide
    exact decide_eq_false (by omega)
   have d1:∀ w,Calls Try.prog 83 #[.agg #[.int .u64 (hiN p),.int .u64 (loN p)],.agg #[.int .u64 (hiN q),.int .u64 (loN q)]] w fun e w'=>e = .returned (.agg #[.int .u64 (hiN (p - q)),.int .u64 (loN (p - q))])∧Below w.heap.size w w':=fun w=>minus_any p q (by omega) (by omega) w
   have C1:=Lib.hid c1
   have D1:=Lib.hid d1
   clear c1 d1 hpq pb qb hk hsac
   go_wp2_with fail
   with_reducible refine (C1.out _).mono ?_
   rintro e w8 ⟨rfl,hb8⟩
   obtain ⟨g_A,g_B,g_R,g_X,g_Y,g_F,hB⟩:=HG.out
   have h_A:w8.heap[w.heap.size]?=some (.cells #[.int .i64 a,.int .i64 b] 31 (0,0)):=by
    refine Hand.kb hb8 ?_;first|with_reducible exact g_A|(simp (disch:=try exact Hand.z) only [Hand.q2,Hand.q1,Hand.q5,Hand.q6,Hand.q4,Hand.q3,g_A]<;>rfl)
   have h_B:w8.heap[w.heap.size+1]?=some (.cells #[.int .i64 c,.int .i64 d] 31 (0,0)):=by
    refine Hand.kb hb8 ?_;first|with_reducible exact g_B|(simp (disch:=try exact Hand.z) only [Hand.q2,Hand.q1,Hand.q5,Hand.q6,Hand.q4,Hand.q3,g_B]<;>rfl)
   have h_R:w8.heap[w.heap.size+1+1]?=some (.cells #[.int .i64 0,.int .i64 0] 31 (0,0)):=by
    refine Hand.kb hb8 ?_;first|with_reducible exact g_R|(simp (disch:=try exact Hand.z) only [Hand.q2,Hand.q1,Hand.q5,Hand.q6,Hand.q4,Hand.q3,g_R]<;>rfl)
   have h_X:w8.heap[gx]?=some (.cells #[.int .u64 (hiN p),.int .u64 (loN p)] 85 (0,0)):=by
    refine Hand.kb hb8 ?_;first|with_reducible exact g_X|(simp (disch:=try exact Hand.z) only [Hand.q2,Hand.q1,Hand.q5,Hand.q6,Hand.q4,Hand.q3,g_X]<;>rfl)
   have h_Y:w8.heap[gy]?=some (.cells #[.int .u64 (hiN q),.int .u64 (loN q)] 85 (0,0)):=by
    refine Hand.kb hb8 ?_;first|with_reducible exact g_Y|(simp (disch:=try exact Hand.z) only [Hand.q2,Hand.q1,Hand.q5,Hand.q6,Hand.q4,Hand.q3,g_Y]<;>rfl)
   have h_F:w8.heap[gf]?=some (.cells #[.bool sa,.int .u64 (hiN (p+q)),.int .u64 (loN (p+q)),.int .u64 (hiN m),.int .u64 (loN m)] 114 (0,0)):=by
    refine Hand.kb hb8 ?_;first|with_reducible exact g_F|(simp (disch:=try exact Hand.z) only [Hand.q2,Hand.q1,Hand.q5,Hand.q6,Hand.q4,Hand.q3,g_F]<;>rfl)
   have hB':Below w.heap.size w w8:=Hand.stepB hb8 Hand.b (Nat.le_refl _)
   clear HG hB g_A g_B g_R g_X g_Y g_F zw z_A z1_A z2_A y0_A y1_A c_A_0 f_A_0 c_A_1 f_A_1 z_B z1_B z2_B y0_B y1_B c_B_0 f_B_0 c_B_1 f_B_1 z_R z1_R z2_R y0_R y1_R c_R_0 f_R_0 c_R_1 f_R_1 z_X z1_X z2_X y0_X y1_X c_X_0 f_X_0 c_X_1 f_X_1 z_Y z1_Y z2_Y y0_Y y1_Y c_Y_0 f_Y_0 c_Y_1 f_Y_1 z_F z1_F z2_F y0_F y1_F c_F_0 f_F_0 c_F_1 f_F_1 c_F_2 f_F_2 c_F_3 f_F_3 c_F_4 f_F_4
   clear hb8
   have g_A:=h_A
   have g_B:=h_B
   have g_R:=h_R
   have g_X:=h_X
   have g_Y:=h_Y
   have g_F:=h_F
   have hB:=hB'
   clear hB' h_A h_B h_R h_X h_Y h_F
   obtain ⟨z_A,z1_A,z2_A,y0_A,y1_A⟩:=Hand.hz g_A
   obtain ⟨c_A_0,f_A_0,c_A_1,f_A_1⟩:=Hand.hc2 g_A
   obtain ⟨z_B,z1_B,z2_B,y0_B,y1_B⟩:=Hand.hz g_B
   obtain ⟨c_B_0,f_B_0,c_B_1,f_B_1⟩:=Hand.hc2 g_B
   obtain ⟨z_R,z1_R,z2_R,y0_R,y1_R⟩:=Hand.hz g_R
   obtain ⟨c_R_0,f_R_0,c_R_1,f_R_1⟩:=Hand.hc2 g_R
   obtain ⟨z_X,z1_X,z2_X,y0_X,y1_X⟩:=Hand.hz g_X
   obtain ⟨c_X_0,f_X_0,c_X_1,f_X_1⟩:=Hand.hc2 g_X
   obtain ⟨z_Y,z1_Y,z2_Y,y0_Y,y1_Y⟩:=Hand.hz g_Y
   obtain ⟨c_Y_0,f_Y_0,c_Y_1,f_Y_1⟩:=Hand.hc2 g_Y
   obtain ⟨z_F,z1_F,z2_F,y0_F,y1_F⟩:=Hand.hz g_F
   obtain ⟨c_F_0,f_F_0,c_F_1,f_F_1,c_F_2,f_F_2,c_F_3,f_F_3,c_F_4,f_F_4⟩:=Hand.hc5 g_F
   have zw:w.heap.size≤w8.heap.size:=hB.size
   have HG:=Lib.hid (And.intro g_A (And.intro g_B (And.intro g_R (And.intro g_X (And.intro g_Y (And.intro g_F (hB)))))))
   clear g_A g_B g_R g_X g_Y g_F hB
   go_wp2_with fail
   with_reducible refine (D1.out _).mono ?_
   rintro e w9 ⟨rfl,hb9⟩
   obtain ⟨g_A,g_B,g_R,g_X,g_Y,g_F,hB⟩:=HG.out
   have h_A:w9.heap[w.heap.size]?=some (.cells #[.int .i64 a,.int .i64 b] 31 (0,0)):=by
    refine Hand.kb hb9 ?_;first|with_reducible exact g_A|(simp (disch:=try exact Hand.z) only [Hand.q2,Hand.q1,Hand.q5,Hand.q6,Hand.q4,Hand.q3,g_A]<;>rfl)
   have h_B:w9.heap[w.heap.size+1]?=some (.cells #[.int .i64 c,.int .i64 d] 31 (0,0)):=by
    refine Hand.kb hb9 ?_;first|with_reducible exact g_B|(simp (disch:=try exact Hand.z) only [Hand.q2,Hand.q1,Hand.q5,Hand.q6,Hand.q4,Hand.q3,g_B]<;>rfl)
   have h_R:w9.heap[w.heap.size+1+1]?=some (.cells #[.int .i64 0,.int .i64 0] 31 (0,0)):=by
    refine Hand.kb hb9 ?_;first|with_reducible exact g_R|(simp (disch:=try exact Hand.z) only [Hand.q2,Hand.q1,Hand.q5,Hand.q6,Hand.q4,Hand.q3,g_R]<;>rfl)
   have h_X:w9.heap[gx]?=some (.cells #[.int .u64 (hiN p),.int .u64 (loN p)] 85 (0,0)):=by
    refine Hand.kb hb9 ?_;first|with_reducible exact g_X|(simp (disch:=try exact Hand.z) only [Hand.q2,Hand.q1,Hand.q5,Hand.q6,Hand.q4,Hand.q3,g_X]<;>rfl)
   have h_Y:w9.heap[gy]?=some (.cells #[.int .u64 (hiN q),.int .u64 (loN q)] 85 (0,0)):=by
    refine Hand.kb hb9 ?_;first|with_reducible exact g_Y|(simp (disch:=try exact Hand.z) only [Hand.q2,Hand.q1,Hand.q5,Hand.q6,Hand.q4,Hand.q3,g_Y]<;>rfl)
   have h_F:w9.heap[gf]?=some (.cells #[.bool sa,.int .u64 (hiN (p+q)),.int .u64 (loN (p+q)),.int .u64 (hiN m),.int .u64 (loN m)] 114 (0,0)):=by
    refine Hand.kb hb9 ?_;first|with_reducible exact g_F|(simp (disch:=try exact Hand.z) only [Hand.q2,Hand.q1,Hand.q5,Hand.q6,Hand.q4,Hand.q3,g_F]<;>rfl)
   have hB':Below w.heap.size w w9:=Hand.stepB hb9 Hand.b (Nat.le_refl _)
   clear HG hB g_A g_B g_R g_X g_Y g_F zw z_A z1_A z2_A y0_A y1_A c_A_0 f_A_0 c_A_1 f_A_1 z_B z1_B z2_B y0_B y1_B c_B_0 f_B_0 c_B_1 f_B_1 z_R z1_R z2_R y0_R y1_R c_R_0 f_R_0 c_R_1 f_R_1 z_X z1_X z2_X y0_X y1_X c_X_0 f_X_0 c_X_1 f_X_1 z_Y z1_Y z2_Y y0_Y y1_Y c_Y_0 f_Y_0 c_Y_1 f_Y_1 z_F z1_F z2_F y0_F y1_F c_F_0 f_F_0 c_F_1 f_F_1 c_F_2 f_F_2 c_F_3 f_F_3 c_F_4 f_F_4
   clear hb9
   have g_A:=h_A
   have g_B:=h_B
   have g_R:=h_R
   have g_X:=h_X
   have g_Y:=h_Y
   have g_F:=h_F
   have hB:=hB'
   clear hB' h_A h_B h_R h_X h_Y h_F
   obtain ⟨z_A,z1_A,z2_A,y0_A,y1_A⟩:=Hand.hz g_A
   obtain ⟨c_A_0,f_A_0,c_A_1,f_A_1⟩:=Hand.hc2 g_A
   obtain ⟨z_B,z1_B,z2_B,y0_B,y1_B⟩:=Hand.hz g_B
   obtain ⟨c_B_0,f_B_0,c_B_1,f_B_1⟩:=Hand.hc2 g_B
   obtain ⟨z_R,z1_R,z2_R,y0_R,y1_R⟩:=Hand.hz g_R
   obtain ⟨c_R_0,f_R_0,c_R_1,f_R_1⟩:=Hand.hc2 g_R
   obtain ⟨z_X,z1_X,z2_X,y0_X,y1_X⟩:=Hand.hz g_X
   obtain ⟨c_X_0,f_X_0,c_X_1,f_X_1⟩:=Hand.hc2 g_X
   obtain ⟨z_Y,z1_Y,z2_Y,y0_Y,y1_Y⟩:=Hand.hz g_Y
   obtain ⟨c_Y_0,f_Y_0,c_Y_1,f_Y_1⟩:=Hand.hc2 g_Y
   obtain ⟨z_F,z1_F,z2_F,y0_F,y1_F⟩:=Hand.hz g_F
   obtain ⟨c_F_0,f_F_0,c_F_1,f_F_1,c_F_2,f_F_2,c_F_3,f_F_3,c_F_4,f_F_4⟩:=Hand.hc5 g_F
   have zw:w.heap.size≤w9.heap.size:=hB.size
   have HG:=Lib.hid (And.intro g_A (And.intro g_B (And.intro g_R (And.intro g_X (And.intro g_Y (And.intro g_F (hB)))))))
   clear g_A g_B g_R g_X g_Y g_F hB
   go_wp2_with fail
   with_reducible refine (M5.out _).mono ?_
   rintro e w10 ⟨rfl,hb10⟩
   obtain ⟨g_A,g_B,g_R,g_X,g_Y,g_F,hB⟩:=HG.out
   have h_A:w10.heap[w.heap.size]?=some (.cells #[.int .i64 a,.int .i64 b] 31 (0,0)):=by
    refine Hand.kb hb10 ?_;first|with_reducible exact g_A|(simp (disch:=try exact Hand.z) only [Hand.q2,Hand.q1,Hand.q5,Hand.q6,Hand.q4,Hand.q3,g_A]<;>rfl)
   have h_B:w10.heap[w.heap.size+1]?=some (.cells #[.int .i64 c,.int .i64 d] 31 (0,0)):=by
    refine Hand.kb hb10 ?_;first|with_reducible exact g_B|(simp (disch:=try exact Hand.z) only [Hand.q2,Hand.q1,Hand.q5,Hand.q6,Hand.q4,Hand.q3,g_B]<;>rfl)
   have h_R:w10.heap[w.heap.size+1+1]?=some (.cells #[.int .i64 0,.int .i64 0] 31 (0,0)):=by
    refine Hand.kb hb10 ?_;first|with_reducible exact g_R|(simp (disch:=try exact Hand.z) only [Hand.q2,Hand.q1,Hand.q5,Hand.q6,Hand.q4,Hand.q3,g_R]<;>rfl)
   have h_X:w10.heap[gx]?=some (.cells #[.int .u64 (hiN p),.int .u64 (loN p)] 85 (0,0)):=by
    refine Hand.kb hb10 ?_;first|with_reducible exact g_X|(simp (disch:=try exact Hand.z) only [Hand.q2,Hand.q1,Hand.q5,Hand.q6,Hand.q4,Hand.q3,g_X]<;>rfl)
   have h_Y:w10.heap[gy]?=some (.cells #[.int .u64 (hiN q),.int .u64 (loN q)] 85 (0,0)):=by
    refine Hand.kb hb10 ?_;first|with_reducible exact g_Y|(simp (disch:=try exact Hand.z) only [Hand.q2,Hand.q1,Hand.q5,Hand.q6,Hand.q4,Hand.q3,g_Y]<;>rfl)
   have h_F:w10.heap[gf]?=some (.cells #[.bool sa,.int .u64 (hiN (p - q)),.int .u64 (loN (p - q)),.int .u64 (hiN m),.int .u64 (loN m)] 114 (0,0)):=by
    refine Hand.kb hb10 ?_;simp (disch:=try exact Hand.z) only [Hand.q2,Hand.q1,Hand.q5,Hand.q6,Hand.q4,Hand.q3,g_F]<;>rfl
   have hB':Below w.heap.size w w10:=Hand.stepB hb10 Hand.b (Nat.le_refl _)
   clear HG hB g_A g_B g_R g_X g_Y g_F zw z_A z1_A z2_A y0_A y1_A c_A_0 f_A_0 c_A_1 f_A_1 z_B z1_B z2_B y0_B y1_B c_B_0 f_B_0 c_B_1 f_B_1 z_R z1_R z2_R y0_R y1_R c_R_0 f_R_0 c_R_1 f_R_1 z_X z1_X z2_X y0_X y1_X c_X_0 f_X_0 c_X_1 f_X_1 z_Y z1_Y z2_Y y0_Y y1_Y c_Y_0 f_Y_0 c_Y_1 f_Y_1 z_F z1_F z2_F y0_F y1_F c_F_0 f_F_0 c_F_1 f_F_1 c_F_2 f_F_2 c_F_3 f_F_3 c_F_4 f_F_4
   clear hb10
   have g_A:=h_A
   have g_B:=h_B
   have g_R:=h_R
   have g_X:=h_X
   have g_Y:=h_Y
   have g_F:=h_F
   have hB:=hB'
   clear hB' h_A h_B h_R h_X h_Y h_F
   obtain ⟨z_A,z1_A,z2_A,y0_A,y1_A⟩:=Hand.hz g_A
   obtain ⟨c_A_0,f_A_0,c_A_1,f_A_1⟩:=Hand.hc2 g_A
   obtain ⟨z_B,z1_B,z2_B,y0_B,y1_B⟩:=Hand.hz g_B
   obtain ⟨c_B_0,f_B_0,c_B_1,f_B_1⟩:=Hand.hc2 g_B
   obtain ⟨z_R,z1_R,z2_R,y0_R,y1_R⟩:=Hand.hz g_R
   obtain ⟨c_R_0,f_R_0,c_R_1,f_R_1⟩:=Hand.hc2 g_R
   obtain ⟨z_X,z1_X,z2_X,y0_X,y1_X⟩:=Hand.hz g_X
   obtain ⟨c_X_0,f_X_0,c_X_1,f_X_1⟩:=Hand.hc2 g_X
   obtain ⟨z_Y,z1_Y,z2_Y,y0_Y,y1_Y⟩:=Hand.hz g_Y
   obtain ⟨c_Y_0,f_Y_0,c_Y_1,f_Y_1⟩:=Hand.hc2 g_Y
   obtain ⟨z_F,z1_F,z2_F,y0_F,y1_F⟩:=Hand.hz g_F
   obtain ⟨c_F_0,f_F_0,c_F_1,f_F_1,c_F_2,f_F_2,c_F_3,f_F_3,c_F_4,f_F_4⟩:=Hand.hc5 g_F
   have zw:w.heap.size≤w10.heap.size:=hB.size
   have HG:=Lib.hid (And.intro g_A (And.intro g_B (And.intro g_R (And.intro g_X (And.intro g_Y (And.intro g_F (hB)))))))
   clear g_A g_B g_R g_X g_Y g_F hB
   go_wp2
   obtain ⟨g_A,g_B,g_R,g_X,g_Y,g_F,hB⟩:=HG.out
   refine bodyPost_ret (results_ct rfl _ _ (w.heap.size+1+1) 31 #[.int .i64 x,.int .i64 y] (0,0) _ rfl ?_ Try.underlying31 rfl (by kernel_rfl)) rfl ⟨rfl,?_⟩
   ·simp (disch:=omega) only [Hand.q1,g_R];rfl
   ·exact (hB.setCell Hand.d _).setCell Hand.d _
theorem add_b (a b c d x y z:Int) (p q m n na nb' nc' nd':Nat) (sa sc s:Bool) (w:World) (gx gy:Nat) (W:World) (eb:IntKind.u64.wrap b=(nb':Int)) (ed:IntKind.u64.wrap d=(nd':Int)) (ha:decide (a<0)=sa) (hc:decide (c<0)=sc)
  (HS:Hid (sumS sa sc p q=(s,n))) (PB:Hid (p≤9903520314283042199192993792)) (QB:Hid (q≤9903520314283042199192993792))
  (M3:Hid (∀ w,Calls Try.prog 50 #[.int .u64 (nb':Int),.int .u64 (nd':Int)] w fun e w'=>e = .returned (.agg #[.int .u64 (hiN m),.int .u64 (loN m)])∧Below w.heap.size w w')) (M4:Hid (∀ w,Calls Try.prog 82 #[.agg #[.int .u64 (hiN p),.int .u64 (loN p)],.agg #[.int .u64 (hiN q),.int .u64 (loN q)]] w fun e w'=>e = .returned (.agg #[.int .u64 (hiN (p+q)),.int .u64 (loN (p+q))])∧Below w.heap.size w w')) (M5:Hid (∀ w,Calls Try.prog 84 #[.agg #[.bool s,.int .u64 (hiN n),.int .u64 (loN n),.int .u64 (hiN m),.int .u64 (loN m)]] w fun e w'=>e = .returned (.tuple #[.agg #[.int .i64 x,.int .i64 y],.int .i64 z])∧Below w.heap.size w w'))
  (hxy:gx≠gy) (hgx:w.heap.size+1+1<gx) (hgy:w.heap.size+1+1<gy)
  (hfacts:W.heap[w.heap.size]?=some (.cells #[.int .i64 a,.int .i64 b] 31 (0,0))∧W.heap[w.heap.size+1]?=some (.cells #[.int .i64 c,.int .i64 d] 31 (0,0))∧W.heap[w.heap.size+1+1]?=some (.cells #[.int .i64 0,.int .i64 0] 31 (0,0))∧W.heap[gx]?=some (.cells #[.int .u64 (hiN p),.int .u64 (loN p)] 85 (0,0))∧W.heap[gy]?=some (.cells #[.int .u64 (hiN q),.int .u64 (loN q)] 85 (0,0))) (hB:Below w.heap.size w W) :
  addB.wp Try.prog (bodyPost Try.prog Try.f44 fun e w'=>e = .returned (.tuple #[.agg #[.int .i64 x,.int .i64 y],.int .i64 z])∧Below w.heap.size w w') ⟨#[.agg #[.int .i64 a,.int .i64 b],.agg #[.int .i64 c,.int .i64 d],.pointer (some ⟨w.heap.size,0,none⟩),.pointer (some ⟨w.heap.size+1,0,none⟩),.pointer (some ⟨w.heap.size+1+1,0,none⟩),.int .i64 0,.pointer (some ⟨gx,0,none⟩),.pointer (some ⟨gy,0,none⟩),undef,
    .agg #[.int .i64 a,.int .i64 b],.agg #[.int .i64 c,.int .i64 d],.slice (some ⟨w.heap.size+1+1+1,0,none⟩) 2 2,.bool true,.bool false,undef,.pointer (some ⟨w.heap.size,0,none⟩),.int .i64 a,.int .u64 (na:Int),.pointer (some ⟨w.heap.size+1,1,none⟩),.int .i64 d,.int .u64 (nd':Int),
    .agg #[.int .u64 (hiN p),.int .u64 (loN p)],.pointer (some ⟨w.heap.size+1,0,none⟩),.int .i64 c,.int .u64 (nc':Int),.pointer (some ⟨w.heap.size,1,none⟩),.int .i64 b,.int .u64 (nb':Int),.agg #[.int .u64 (hiN q),.int .u64 (loN q)],
    undef,undef,undef,undef,undef,undef,undef,undef,undef,undef,undef,undef,undef,undef,undef,undef,undef,undef,undef,undef,undef,undef,undef,undef,undef,undef,undef,undef,undef,undef,undef,undef,undef,undef,undef,undef,undef,undef,undef],[]⟩ W:=by
 conv=>arg 2;whnf
 obtain ⟨g_A,g_B,g_R,g_X,g_Y⟩:=hfacts
 obtain ⟨z_A,z1_A,z2_A,y0_A,y1_A⟩:=Hand.hz g_A
 obtain ⟨c_A_0,f_A_0,c_A_1,f_A_1⟩:=Hand.hc2 g_A
 obtain ⟨z_B,z1_B,z2_B,y0_B,y1_B⟩:=Hand.hz g_B
 obtain ⟨c_B_0,f_B_0,c_B_1,f_B_1⟩:=Hand.hc2 g_B
 obtain ⟨z_R,z1_R,z2_R,y0_R,y1_R⟩:=Hand.hz g_R
 obtain ⟨c_R_0,f_R_0,c_R_1,f_R_1⟩:=Hand.hc2 g_R
 obtain ⟨z_X,z1_X,z2_X,y0_X,y1_X⟩:=Hand.hz g_X
 obtain ⟨c_X_0,f_X_0,c_X_1,f_X_1⟩:=Hand.hc2 g_X
 obtain ⟨z_Y,z1_Y,z2_Y,y0_Y,y1_Y⟩:=Hand.hz g_Y
 obtain ⟨c_Y_0,f_Y_0,c_Y_1,f_Y_1⟩:=Hand.hc2 g_Y
 have zw:w.heap.size≤W.heap.size:=hB.size
 have HG:=Lib.hid (And.intro g_A (And.intro g_B (And.intro g_R (And.intro g_X (And.intro g_Y (hB))))))
 clear g_A g_B g_R g_X g_Y hB
 go_wp2
 refine Hand.wp_cut (fun PP hPP=>?_)
 have rest2:∀ (gf:Nat) (V:World),gx≠gf → gy≠gf → w.heap.size+1+1<gf →
   V.heap[w.heap.size]?=some (.cells #[.int .i64 a,.int .i64 b] 31 (0,0))∧V.heap[w.heap.size+1]?=some (.cells #[.int .i64 c,.int .i64 d] 31 (0,0))∧V.heap[w.heap.size+1+1]?=some (.cells #[.int .i64 0,.int .i64 0] 31 (0,0)) ∧
   V.heap[gx]?=some (.cells #[.int .u64 (hiN p),.int .u64 (loN p)] 85 (0,0))∧V.heap[gy]?=some (.cells #[.int .u64 (hiN q),.int .u64 (loN q)] 85 (0,0))∧V.heap[gf]?=some (.cells #[.bool sa,.int .u64 (hiN (p+q)),.int .u64 (loN (p+q)),.int .u64 (hiN m),.int .u64 (loN m)] 114 (0,0)) → Below w.heap.size w V →
   PP .normal ⟨#[.agg #[.int .i64 a,.int .i64 b],.agg #[.int .i64 c,.int .i64 d],.pointer (some ⟨w.heap.size,0,none⟩),.pointer (some ⟨w.heap.size+1,0,none⟩),.pointer (some ⟨w.heap.size+1+1,0,none⟩),.int .i64 0,.pointer (some ⟨gx,0,none⟩),.pointer (some ⟨gy,0,none⟩),.pointer (some ⟨gf,0,none⟩),
    .agg #[.int .i64 a,.int .i64 b],.agg #[.int .i64 c,.int .i64 d],.slice (some ⟨w.heap.size+1+1+1,0,none⟩) 2 2,.bool true,.bool false,undef,.pointer (some ⟨w.heap.size,0,none⟩),.int .i64 a,.int .u64 (na:Int),.pointer (some ⟨w.heap.size+1,1,none⟩),.int .i64 d,.int .u64 (nd':Int),
    .agg #[.int .u64 (hiN p),.int .u64 (loN p)],.pointer (some ⟨w.heap.size+1,0,none⟩),.int .i64 c,.int .u64 (nc':Int),.pointer (some ⟨w.heap.size,1,none⟩),.int .i64 b,.int .u64 (nb':Int),.agg #[.int .u64 (hiN q),.int .u64 (loN q)],
    .pointer (some ⟨w.heap.size,0,none⟩),.int .i64 a,.bool sa,.agg #[.int .u64 (hiN p),.int .u64 (loN p)],.agg #[.int .u64 (hiN q),.int .u64 (loN q)],.agg #[.int .u64 (hiN (p+q)),.int .u64 (loN (p+q))],.pointer (some ⟨w.heap.size,1,none⟩),.int .i64 b,.int .u64 (nb':Int),.pointer (some ⟨w.heap.size+1,1,none⟩),.int .i64 d,.int .u64 (nd':Int),
    .agg #[.int .u64 (hiN m),.int .u64 (loN m)],.agg #[.bool sa,.int .u64 (hiN (p+q)),.int .u64 (loN (p+q)),.int .u64 (hiN m),.int .u64 (loN m)],undef,undef,undef,undef,undef,undef,undef,undef,undef,undef,undef,undef,undef,undef,undef,undef,undef,undef,undef,undef,undef,undef,undef,undef,undef],[]⟩ V:=by
  intro gf V hxf hyf hgf hfacts hB
  rw [hPP]
  rename_i Q0 K0 hK0
  exact hK0 _ _ (add_c a b c d x y z p q m n na nb' nc' nd' sa sc s w gx gy gf V ha hc HS PB QB M5 hxy hgx hgy hxf hyf hgf hfacts hB)
 have HBW:=Lib.hid (HG.out.2.2.2.2.2)
 have HK:=Lib.hid (And.intro c_A_0 (And.intro c_A_1 (And.intro c_B_0 (And.intro c_B_1 (And.intro c_X_0 (And.intro c_X_1 (And.intro c_Y_0 (c_Y_1))))))))
 have BD:Below W.heap.size W W.drew:=Below.drew (Below.refl _ _)
 have BR:Below W.heap.size W W:=Below.refl _ _
 have BB:Below W.heap.size W W:=BR
 go_region_held3 (fun w_=>Below w.heap.size w w_∧w_.cell? ⟨w.heap.size,0,none⟩=some (.int .i64 a)∧w_.cell? ⟨w.heap.size,1,none⟩=some (.int .i64 b)∧w_.cell? ⟨w.heap.size+1,0,none⟩=some (.int .i64 c)∧w_.cell? ⟨w.heap.size+1,1,none⟩=some (.int .i64 d)∧w_.cell? ⟨gx,0,none⟩=some (.int .u64 (hiN p))∧w_.cell? ⟨gx,1,none⟩=some (.int .u64 (loN p))∧w_.cell? ⟨gy,0,none⟩=some (.int .u64 (hiN q))∧w_.cell? ⟨gy,1,none⟩=some (.int .u64 (loN q))) (first|with_reducible (refine ⟨?_,(Below.cell BR (p:=⟨w.heap.size,0,none⟩) z_A).trans (HK.out.1),(Below.cell BR (p:=⟨w.heap.size,1,none⟩) z_A).trans (HK.out.2.1),(Below.cell BR (p:=⟨w.heap.size+1,0,none⟩) z_B).trans (HK.out.2.2.1),(Below.cell BR (p:=⟨w.heap.size+1,1,none⟩) z_B).trans (HK.out.2.2.2.1),(Below.cell BR (p:=⟨gx,0,none⟩) z_X).trans (HK.out.2.2.2.2.1),(Below.cell BR (p:=⟨gx,1,none⟩) z_X).trans (HK.out.2.2.2.2.2.1),(Below.cell BR (p:=⟨gy,0,none⟩) z_Y).trans (HK.out.2.2.2.2.2.2.1),(Below.cell BR (p:=⟨gy,1,none⟩) z_Y).trans (HK.out.2.2.2.2.2.2.2)⟩;apply (HBW.out.trans (Below.mono BR zw)))|with_reducible (refine ⟨?_,(Below.cell BD (p:=⟨w.heap.size,0,none⟩) z_A).trans (HK.out.1),(Below.cell BD (p:=⟨w.heap.size,1,none⟩) z_A).trans (HK.out.2.1),(Below.cell BD (p:=⟨w.heap.size+1,0,none⟩) z_B).trans (HK.out.2.2.1),(Below.cell BD (p:=⟨w.heap.size+1,1,none⟩) z_B).trans (HK.out.2.2.2.1),(Below.cell BD (p:=⟨gx,0,none⟩) z_X).trans (HK.out.2.2.2.2.1),(Below.cell BD (p:=⟨gx,1,none⟩) z_X).trans (HK.out.2.2.2.2.2.1),(Below.cell BD (p:=⟨gy,0,none⟩) z_Y).trans (HK.out.2.2.2.2.2.2.1),(Below.cell BD (p:=⟨gy,1,none⟩) z_Y).trans (HK.out.2.2.2.2.2.2.2)⟩;apply (HBW.out.trans (Below.mono BD zw)))|with_reducible (refine ⟨?_,(Below.cell BB (p:=⟨w.heap.size,0,none⟩) z_A).trans (HK.out.1),(Below.cell BB (p:=⟨w.heap.size,1,none⟩) z_A).trans (HK.out.2.1),(Below.cell BB (p:=⟨w.heap.size+1,0,none⟩) z_B).trans (HK.out.2.2.1),(Below.cell BB (p:=⟨w.heap.size+1,1,none⟩) z_B).trans (HK.out.2.2.2.1),(Below.cell BB (p:=⟨gx,0,none⟩) z_X).trans (HK.out.2.2.2.2.1),(Below.cell BB (p:=⟨gx,1,none⟩) z_X).trans (HK.out.2.2.2.2.2.1),(Below.cell BB (p:=⟨gy,0,none⟩) z_Y).trans (HK.out.2.2.2.2.2.2.1),(Below.cell BB (p:=⟨gy,1,none⟩) z_Y).trans (HK.out.2.2.2.2.2.2.2)⟩;apply (HBW.out.trans (Below.mono BB zw)))|(refine ⟨?_,?_,?_,?_,?_,?_,?_,?_,?_⟩;(focus (repeat (with_reducible first|apply (HBW.out.trans (Below.mono BB zw))|apply Below.drew|(apply Below.setCell;rotate_left;(dsimp only;omega))|(apply Below.alloc;rotate_left;exact Hand.z))));(repeat (with_reducible first|exact (Below.cell BB (p:=⟨w.heap.size,0,none⟩) z_A).trans (HK.out.1)|refine Hand.cell_alloc ?_|refine Hand.cell_drew ?_|refine Hand.cell_far (by omega) ?_));(repeat (with_reducible first|exact (Below.cell BB (p:=⟨w.heap.size,1,none⟩) z_A).trans (HK.out.2.1)|refine Hand.cell_alloc ?_|refine Hand.cell_drew ?_|refine Hand.cell_far (by omega) ?_));(repeat (with_reducible first|exact (Below.cell BB (p:=⟨w.heap.size+1,0,none⟩) z_B).trans (HK.out.2.2.1)|refine Hand.cell_alloc ?_|refine Hand.cell_drew ?_|refine Hand.cell_far (by omega) ?_));(repeat (with_reducible first|exact (Below.cell BB (p:=⟨w.heap.size+1,1,none⟩) z_B).trans (HK.out.2.2.2.1)|refine Hand.cell_alloc ?_|refine Hand.cell_drew ?_|refine Hand.cell_far (by omega) ?_));(repeat (with_reducible first|exact (Below.cell BB (p:=⟨gx,0,none⟩) z_X).trans (HK.out.2.2.2.2.1)|refine Hand.cell_alloc ?_|refine Hand.cell_drew ?_|refine Hand.cell_far (by omega) ?_));(repeat (with_reducible first|exact (Below.cell BB (p:=⟨gx,1,none⟩) z_X).trans (HK.out.2.2.2.2.2.1)|refine Hand.cell_alloc ?_|refine Hand.cell_drew ?_|refine Hand.cell_far (by omega) ?_));(repeat (with_reducible first|exact (Below.cell BB (p:=⟨gy,0,none⟩) z_Y).trans (HK.out.2.2.2.2.2.2.1)|refine Hand.cell_alloc ?_|refine Hand.cell_drew ?_|refine Hand.cell_far (by omega) ?_));(repeat (with_reducible first|exact (Below.cell BB (p:=⟨gy,1,none⟩) z_Y).trans (HK.out.2.2.2.2.2.2.2)|refine Hand.cell_alloc ?_|refine Hand.cell_drew ?_|refine Hand.cell_far (by omega) ?_)))) (first|(go_at_call 82;((with_reducible refine (M4.out _).mono ?_);rintro e w6 ⟨rfl,hb_⟩;have BB:Below W.heap.size W w6:=Hand.stepB hb_ (by first|assumption|(repeat (with_reducible first|assumption|apply Below.drew|(apply Below.setCell;rotate_left;(dsimp only;first|omega|(simp only [Hand.sa,Hand.ss,Hand.sd,Hand.sn];first|done|omega)))|(apply Below.alloc;rotate_left;exact Hand.z)))) (Nat.le_refl _);have zB_w6:=Below.size BB;have hC_:=hb_;have zC_w6:=Below.size hC_;(try simp only [Hand.sa,Hand.ss,Hand.sd,Hand.sn] at zC_w6);(try (have zb_w6_W_0:W.heap.size<w6.heap.size:=(by omega);have nb_w6_W_0:=Hand.hp_below (g:=W.heap.size) hC_ Hand.z;simp (disch:=try exact Hand.zt) only [Hand.q1,Hand.q2,Hand.q3,Hand.q4,Hand.q5,Hand.q6,Option.map_some,Hand.putc_cells,List.setIfInBounds_toArray,List.set_cons_zero,List.set_cons_succ] at nb_w6_W_0;have nc_w6_W_0:=Hand.cell0 nb_w6_W_0;have nf_w6_W_0:=Hand.free_of nb_w6_W_0 0;(try (have nc1_w6_W_0:=Hand.cell1 nb_w6_W_0;have nf1_w6_W_0:=Hand.free_of nb_w6_W_0 1));(try (have nc2_w6_W_0:=Hand.cell2 nb_w6_W_0;have nf2_w6_W_0:=Hand.free_of nb_w6_W_0 2));(try (have nc3_w6_W_0:=Hand.cell3 nb_w6_W_0;have nf3_w6_W_0:=Hand.free_of nb_w6_W_0 3));(try (have nc4_w6_W_0:=Hand.cell4 nb_w6_W_0;have nf4_w6_W_0:=Hand.free_of nb_w6_W_0 4));have zx_w6_W_0:(W.heap.size=w6.heap.size)=False:=eq_false (by omega);have zy_w6_W_0:(W.heap.size=w6.heap.size+1)=False:=eq_false (by omega);have zz_w6_W_0:W.heap.size<w6.heap.size+1:=(by omega);have zw_w6_W_0:W.heap.size<w6.heap.size+1+1:=(by omega)));(try (have zb_w6_W_1:W.heap.size+1<w6.heap.size:=(by omega);have nb_w6_W_1:=Hand.hp_below (g:=W.heap.size+1) hC_ Hand.z;simp (disch:=try exact Hand.zt) only [Hand.q1,Hand.q2,Hand.q3,Hand.q4,Hand.q5,Hand.q6,Option.map_some,Hand.putc_cells,List.setIfInBounds_toArray,List.set_cons_zero,List.set_cons_succ] at nb_w6_W_1;have nc_w6_W_1:=Hand.cell0 nb_w6_W_1;have nf_w6_W_1:=Hand.free_of nb_w6_W_1 0;(try (have nc1_w6_W_1:=Hand.cell1 nb_w6_W_1;have nf1_w6_W_1:=Hand.free_of nb_w6_W_1 1));(try (have nc2_w6_W_1:=Hand.cell2 nb_w6_W_1;have nf2_w6_W_1:=Hand.free_of nb_w6_W_1 2));(try (have nc3_w6_W_1:=Hand.cell3 nb_w6_W_1;have nf3_w6_W_1:=Hand.free_of nb_w6_W_1 3));(try (have nc4_w6_W_1:=Hand.cell4 nb_w6_W_1;have nf4_w6_W_1:=Hand.free_of nb_w6_W_1 4));have zx_w6_W_1:(W.heap.size+1=w6.heap.size)=False:=eq_false (by omega);have zy_w6_W_1:(W.heap.size+1=w6.heap.size+1)=False:=eq_false (by omega);have zz_w6_W_1:W.heap.size+1<w6.heap.size+1:=(by omega);have zw_w6_W_1:W.heap.size+1<w6.heap.size+1+1:=(by omega)));have hB_w6:=Lib.hid hC_;clear hC_;clear hb_))|(go_at_call 50;((with_reducible refine (M3.out _).mono ?_);rintro e w7 ⟨rfl,hb_⟩;have BB:Below W.heap.size W w7:=Hand.stepB hb_ (by first|assumption|(repeat (with_reducible first|assumption|apply Below.drew|(apply Below.setCell;rotate_left;(dsimp only;first|omega|(simp only [Hand.sa,Hand.ss,Hand.sd,Hand.sn];first|done|omega)))|(apply Below.alloc;rotate_left;exact Hand.z)))) (Nat.le_refl _);have zB_w7:=Below.size BB;have hC_:=hb_;have zC_w7:=Below.size hC_;(try simp only [Hand.sa,Hand.ss,Hand.sd,Hand.sn] at zC_w7);(try (have zb_w7_W_0:W.heap.size<w7.heap.size:=(by omega);have nb_w7_W_0:=Hand.hp_below (g:=W.heap.size) hC_ Hand.z;(first|(simp (disch:=try exact Hand.zt) only [Hand.q1,Hand.q2,Hand.q3,Hand.q4,Hand.q5,Hand.q6,Option.map_some,Hand.putc_cells,List.setIfInBounds_toArray,List.set_cons_zero,List.set_cons_succ,nb_w6_W_0] at nb_w7_W_0;done)|simp (disch:=try exact Hand.zt) only [Hand.q1,Hand.q2,Hand.q3,Hand.q4,Hand.q5,Hand.q6,Option.map_some,Hand.putc_cells,List.setIfInBounds_toArray,List.set_cons_zero,List.set_cons_succ,nb_w6_W_0] at nb_w7_W_0|simp (disch:=try exact Hand.zt) only [Hand.q1,Hand.q2,Hand.q3,Hand.q4,Hand.q5,Hand.q6,Option.map_some,Hand.putc_cells,List.setIfInBounds_toArray,List.set_cons_zero,List.set_cons_succ] at nb_w7_W_0);have nc_w7_W_0:=Hand.cell0 nb_w7_W_0;have nf_w7_W_0:=Hand.free_of nb_w7_W_0 0;(try (have nc1_w7_W_0:=Hand.cell1 nb_w7_W_0;have nf1_w7_W_0:=Hand.free_of nb_w7_W_0 1));(try (have nc2_w7_W_0:=Hand.cell2 nb_w7_W_0;have nf2_w7_W_0:=Hand.free_of nb_w7_W_0 2));(try (have nc3_w7_W_0:=Hand.cell3 nb_w7_W_0;have nf3_w7_W_0:=Hand.free_of nb_w7_W_0 3));(try (have nc4_w7_W_0:=Hand.cell4 nb_w7_W_0;have nf4_w7_W_0:=Hand.free_of nb_w7_W_0 4));have zx_w7_W_0:(W.heap.size=w7.heap.size)=False:=eq_false (by omega);have zy_w7_W_0:(W.heap.size=w7.heap.size+1)=False:=eq_false (by omega);have zz_w7_W_0:W.heap.size<w7.heap.size+1:=(by omega);have zw_w7_W_0:W.heap.size<w7.heap.size+1+1:=(by omega)));(try (have zb_w7_W_1:W.heap.size+1<w7.heap.size:=(by omega);have nb_w7_W_1:=Hand.hp_below (g:=W.heap.size+1) hC_ Hand.z;(first|(simp (disch:=try exact Hand.zt) only [Hand.q1,Hand.q2,Hand.q3,Hand.q4,Hand.q5,Hand.q6,Option.map_some,Hand.putc_cells,List.setIfInBounds_toArray,List.set_cons_zero,List.set_cons_succ,nb_w6_W_1] at nb_w7_W_1;done)|simp (disch:=try exact Hand.zt) only [Hand.q1,Hand.q2,Hand.q3,Hand.q4,Hand.q5,Hand.q6,Option.map_some,Hand.putc_cells,List.setIfInBounds_toArray,List.set_cons_zero,List.set_cons_succ,nb_w6_W_1] at nb_w7_W_1|simp (disch:=try exact Hand.zt) only [Hand.q1,Hand.q2,Hand.q3,Hand.q4,Hand.q5,Hand.q6,Option.map_some,Hand.putc_cells,List.setIfInBounds_toArray,List.set_cons_zero,List.set_cons_succ] at nb_w7_W_1);have nc_w7_W_1:=Hand.cell0 nb_w7_W_1;have nf_w7_W_1:=Hand.free_of nb_w7_W_1 0;(try (have nc1_w7_W_1:=Hand.cell1 nb_w7_W_1;have nf1_w7_W_1:=Hand.free_of nb_w7_W_1 1));(try (have nc2_w7_W_1:=Hand.cell2 nb_w7_W_1;have nf2_w7_W_1:=Hand.free_of nb_w7_W_1 2));(try (have nc3_w7_W_1:=Hand.cell3 nb_w7_W_1;have nf3_w7_W_1:=Hand.free_of nb_w7_W_1 3));(try (have nc4_w7_W_1:=Hand.cell4 nb_w7_W_1;have nf4_w7_W_1:=Hand.free_of nb_w7_W_1 4));have zx_w7_W_1:(W.heap.size+1=w7.heap.size)=False:=eq_false (by omega);have zy_w7_W_1:(W.heap.size+1=w7.heap.size+1)=False:=eq_false (by omega);have zz_w7_W_1:W.heap.size+1<w7.heap.size+1:=(by omega);have zw_w7_W_1:W.heap.size+1<w7.heap.size+1+1:=(by omega)));(try (have zb_w7_w6_0:w6.heap.size<w7.heap.size:=(by omega);have nb_w7_w6_0:=Hand.hp_below (g:=w6.heap.size) hC_ Hand.z;simp (disch:=try exact Hand.zt) only [Hand.q1,Hand.q2,Hand.q3,Hand.q4,Hand.q5,Hand.q6,Option.map_some,Hand.putc_cells,List.setIfInBounds_toArray,List.set_cons_zero,List.set_cons_succ] at nb_w7_w6_0;have nc_w7_w6_0:=Hand.cell0 nb_w7_w6_0;have nf_w7_w6_0:=Hand.free_of nb_w7_w6_0 0;(try (have nc1_w7_w6_0:=Hand.cell1 nb_w7_w6_0;have nf1_w7_w6_0:=Hand.free_of nb_w7_w6_0 1));(try (have nc2_w7_w6_0:=Hand.cell2 nb_w7_w6_0;have nf2_w7_w6_0:=Hand.free_of nb_w7_w6_0 2));(try (have nc3_w7_w6_0:=Hand.cell3 nb_w7_w6_0;have nf3_w7_w6_0:=Hand.free_of nb_w7_w6_0 3));(try (have nc4_w7_w6_0:=Hand.cell4 nb_w7_w6_0;have nf4_w7_w6_0:=Hand.free_of nb_w7_w6_0 4));have zx_w7_w6_0:(w6.heap.size=w7.heap.size)=False:=eq_false (by omega);have zy_w7_w6_0:(w6.heap.size=w7.heap.size+1)=False:=eq_false (by omega);have zz_w7_w6_0:w6.heap.size<w7.heap.size+1:=(by omega);have zw_w7_w6_0:w6.heap.size<w7.heap.size+1+1:=(by omega)));(try (have zb_w7_w6_1:w6.heap.size+1<w7.heap.size:=(by omega);have nb_w7_w6_1:=Hand.hp_below (g:=w6.heap.size+1) hC_ Hand.z;simp (disch:=try exact Hand.zt) only [Hand.q1,Hand.q2,Hand.q3,Hand.q4,Hand.q5,Hand.q6,Option.map_some,Hand.putc_cells,List.setIfInBounds_toArray,List.set_cons_zero,List.set_cons_succ] at nb_w7_w6_1;have nc_w7_w6_1:=Hand.cell0 nb_w7_w6_1;have nf_w7_w6_1:=Hand.free_of nb_w7_w6_1 0;(try (have nc1_w7_w6_1:=Hand.cell1 nb_w7_w6_1;have nf1_w7_w6_1:=Hand.free_of nb_w7_w6_1 1));(try (have nc2_w7_w6_1:=Hand.cell2 nb_w7_w6_1;have nf2_w7_w6_1:=Hand.free_of nb_w7_w6_1 2));(try (have nc3_w7_w6_1:=Hand.cell3 nb_w7_w6_1;have nf3_w7_w6_1:=Hand.free_of nb_w7_w6_1 3));(try (have nc4_w7_w6_1:=Hand.cell4 nb_w7_w6_1;have nf4_w7_w6_1:=Hand.free_of nb_w7_w6_1 4));have zx_w7_w6_1:(w6.heap.size+1=w7.heap.size)=False:=eq_false (by omega);have zy_w7_w6_1:(w6.heap.size+1=w7.heap.size+1)=False:=eq_false (by omega);have zz_w7_w6_1:w6.heap.size+1<w7.heap.size+1:=(by omega);have zw_w7_w6_1:w6.heap.size+1<w7.heap.size+1+1:=(by omega)));have hB_w7:=Lib.hid hC_;clear hC_;clear hb_)))
 all_goals
  (rename_i hh_; clear hh_
   obtain ⟨g_A,g_B,g_R,g_X,g_Y,hB⟩:=HG.out
   clear hxy
   have k_w6:=fun (i:Nat) (x:Obj) h=>Hand.kb (i:=i) (x:=x) hB_w6.out h
   have k_w7:=fun (i:Nat) (x:Obj) h=>Hand.kb (i:=i) (x:=x) hB_w7.out h
   have hbw:=HBW.out.trans (Below.mono BB zw)
   with_reducible refine rest2 _ _ Hand.z Hand.z Hand.z ?_ ?_
   ·repeat' (with_reducible apply And.intro)
    all_goals (repeat (with_reducible first|exact g_A|exact g_B|exact g_R|exact g_X|exact g_Y|refine k_w6 _ _ ?_|refine k_w7 _ _ ?_|exact Hand.kn Hand.z|refine Hand.ka ?_|refine Hand.kd ?_|refine Hand.ks (by omega) ?_|apply Hand.kp))
    all_goals (first|with_reducible rfl|(simp only [List.setIfInBounds_toArray,List.set_cons_zero,List.set_cons_succ];done))
   ·repeat (with_reducible first|apply hbw|apply Below.drew|(apply Below.setCell;rotate_left;(dsimp only;first|omega|(simp only [Hand.sa,Hand.ss,Hand.sd,Hand.sn];first|done|omega)))|(apply Below.alloc;rotate_left;exact Hand.z)))
theorem add_ok (a b c d x y z:Int) (p q m n:Nat) (sa sc s:Bool) (w:World) (h1:rightS a b=true) (h2:rightS c d=true)
  (hp:a.natAbs*d.natAbs=p) (hq:c.natAbs*b.natAbs=q) (hm:b.natAbs*d.natAbs=m) (ha:decide (a<0)=sa) (hc:decide (c<0)=sc)
  (hs:sumS sa sc p q=(s,n)) (hf:fitS s n m=(x,y,z)) :
  Calls Try.prog 44 #[.agg #[.int .i64 a,.int .i64 b],.agg #[.int .i64 c,.int .i64 d]] w fun e w'=>e = .returned (.tuple #[.agg #[.int .i64 x,.int .i64 y],.int .i64 z])∧Below w.heap.size w w':=by
 obtain ⟨b1,b2,b3,_⟩:=right_bounds h1
 obtain ⟨d1,d2,d3,_⟩:=right_bounds h2
 have pb:p≤9903520314283042199192993792:=by rw [← hp];exact Nat.mul_le_mul b3 (show d.natAbs≤2147483648 by omega)
 have qb:q≤9903520314283042199192993792:=by rw [← hq];exact Nat.mul_le_mul d3 (show b.natAbs≤2147483648 by omega)
 have mb:m≤4611686018427387904:=by rw [← hm];exact Nat.mul_le_mul (show b.natAbs≤2147483648 by omega) (show d.natAbs≤2147483648 by omega)
 have m0:0<m:=by rw [← hm];exact Nat.mul_pos (by omega) (by omega)
 have nb:n≤p+q:=by
  unfold sumS at hs;split at hs
  ·have:=congrArg Prod.snd hs;dsimp only at this;omega
  ·split at hs<;>(have:=congrArg Prod.snd hs;dsimp only at this;omega)
 have eb:IntKind.u64.wrap b=(b.natAbs:Int):=by rw [U64.wrap_u64];omega
 have ed:IntKind.u64.wrap d=(d.natAbs:Int):=by rw [U64.wrap_u64];omega
 have m1:∀ w,Calls Try.prog 50 #[.int .u64 (a.natAbs:Int),.int .u64 (d.natAbs:Int)] w fun e w'=>e = .returned (.agg #[.int .u64 (hiN p),.int .u64 (loN p)])∧Below w.heap.size w w':=fun w=>by rw [← hp];exact mul_any _ _ (by omega) (by omega) w
 have m2:∀ w,Calls Try.prog 50 #[.int .u64 (c.natAbs:Int),.int .u64 (b.natAbs:Int)] w fun e w'=>e = .returned (.agg #[.int .u64 (hiN q),.int .u64 (loN q)])∧Below w.heap.size w w':=fun w=>by rw [← hq];exact mul_any _ _ (by omega) (by omega) w
 have m3:∀ w,Calls Try.prog 50 #[.int .u64 (b.natAbs:Int),.int .u64 (d.natAbs:Int)] w fun e w'=>e = .returned (.agg #[.int .u64 (hiN m),.int .u64 (loN m)])∧Below w.heap.size w w':=fun w=>by rw [← hm];exact mul_any _ _ (by omega) (by omega) w
 have m4:∀ w,Calls Try.prog 82 #[.agg #[.int .u64 (hiN p),.int .u64 (loN p)],.agg #[.int .u64 (hiN q),.int .u64 (loN q)]] w fun e w'=>e = .returned (.agg #[.int .u64 (hiN (p+q)),.int .u64 (loN (p+q))])∧Below w.heap.size w w':=fun w=>plus_any p q (by omega) w
 have m5:∀ w,Calls Try.prog 84 #[.agg #[.bool s,.int .u64 (hiN n),.int .u64 (loN n),.int .u64 (hiN m),.int .u64 (loN m)]] w fun e w'=>e = .returned (.tuple #[.agg #[.int .i64 x,.int .i64 y],.int .i64 z])∧Below w.heap.size w w':=fun w=>by
  have:=fit_any s n m (by omega) (by omega) m0 w;rw [hf] at this;exact this
 have s1:∀ w,Calls Try.prog 51 #[.int .i64 a] w fun e w'=>e = .returned (.int .u64 (a.natAbs:Int))∧Drawn0 w w':=size_any a (by omega) (by omega)
 have s2:∀ w,Calls Try.prog 51 #[.int .i64 c] w fun e w'=>e = .returned (.int .u64 (c.natAbs:Int))∧Drawn0 w w':=size_any c (by omega) (by omega)
 have rt:∀ g w,w.heap[g]?=some (.cells #[.int .i64 a,.int .i64 b,.int .i64 c,.int .i64 d] 31 (0,0)) → Calls Try.prog 81 #[.slice (some ⟨g,0,none⟩) 2 2] w fun e w'=>e = .returned (.bool true)∧Below w.heap.size w w':=fun g w hg=>by
  have:=right_two a b c d g w (by omega) (by omega) (by omega) (by omega) (by omega) (by omega) (by omega) (by omega) hg
  rw [h1,h2] at this;exact this
 clear hp hq hm hf h1 h2 b1 b2 b3 d1 d2 d3
 obtain ⟨na,hna⟩:∃ n,a.natAbs=n:=⟨_,rfl⟩
 obtain ⟨nb',hnb⟩:∃ n,b.natAbs=n:=⟨_,rfl⟩
 obtain ⟨nc',hnc⟩:∃ n,c.natAbs=n:=⟨_,rfl⟩
 obtain ⟨nd',hnd⟩:∃ n,d.natAbs=n:=⟨_,rfl⟩
 rw [hna] at m1 s1
 rw [hnb] at m2 m3 eb
 rw [hnc] at m2 s2
 rw [hnd] at m1 m3 ed
 clear hna hnb hnc hnd
 have M1:=Lib.hid m1
 have M2:=Lib.hid m2
 have M3:=Lib.hid m3
 have M4:=Lib.hid m4
 have M5:=Lib.hid m5
 have S1:=Lib.hid s1
 have S2:=Lib.hid s2
 have RT:=Lib.hid rt
 have HS:=Lib.hid hs
 have PB:=Lib.hid pb
 have QB:=Lib.hid qb
 clear m1 m2 m3 m4 m5 s1 s2 rt hs pb qb mb m0 nb
 go_enter Try.func44,Try.ntmps44
 go_wp2_with fail
 with_reducible refine (RT.out _ _ ?_).mono ?_
 ·simp (disch:=try exact Hand.z) only [Hand.q3]
 rintro e w1 ⟨rfl,hb1⟩
 have h_A:w1.heap[w.heap.size]?=some (.cells #[.int .i64 a,.int .i64 b] 31 (0,0)):=by
  exact Hand.kb hb1 Hand.k
 have h_B:w1.heap[w.heap.size+1]?=some (.cells #[.int .i64 c,.int .i64 d] 31 (0,0)):=by
  exact Hand.kb hb1 Hand.k
 have h_R:w1.heap[w.heap.size+1+1]?=some (.cells #[.int .i64 0,.int .i64 0] 31 (0,0)):=by
  exact Hand.kb hb1 Hand.k
 have hB':Below w.heap.size w w1:=Hand.stepB hb1 Hand.b (Nat.le_refl _)
 clear hb1
 have g_A:=h_A
 have g_B:=h_B
 have g_R:=h_R
 have hB:=hB'
 clear hB' h_A h_B h_R
 obtain ⟨z_A,z1_A,z2_A,y0_A,y1_A⟩:=Hand.hz g_A
 obtain ⟨c_A_0,f_A_0,c_A_1,f_A_1⟩:=Hand.hc2 g_A
 obtain ⟨z_B,z1_B,z2_B,y0_B,y1_B⟩:=Hand.hz g_B
 obtain ⟨c_B_0,f_B_0,c_B_1,f_B_1⟩:=Hand.hc2 g_B
 obtain ⟨z_R,z1_R,z2_R,y0_R,y1_R⟩:=Hand.hz g_R
 obtain ⟨c_R_0,f_R_0,c_R_1,f_R_1⟩:=Hand.hc2 g_R
 have zw:w.heap.size≤w1.heap.size:=hB.size
 have HG:=Lib.hid (And.intro g_A (And.intro g_B (And.intro g_R (hB))))
 clear g_A g_B g_R hB
 go_wp2
 refine Hand.wp_cut (fun PP hPP=>?_)
 have rest:∀ (gx gy:Nat) (W:World),gx≠gy → w.heap.size+1+1<gx → w.heap.size+1+1<gy →
   W.heap[w.heap.size]?=some (.cells #[.int .i64 a,.int .i64 b] 31 (0,0))∧W.heap[w.heap.size+1]?=some (.cells #[.int .i64 c,.int .i64 d] 31 (0,0))∧W.heap[w.heap.size+1+1]?=some (.cells #[.int .i64 0,.int .i64 0] 31 (0,0)) ∧
    W.heap[gx]?=some (.cells #[.int .u64 (hiN p),.int .u64 (loN p)] 85 (0,0))∧W.heap[gy]?=some (.cells #[.int .u64 (hiN q),.int .u64 (loN q)] 85 (0,0)) → Below w.heap.size w W →
   PP .normal ⟨#[.agg #[.int .i64 a,.int .i64 b],.agg #[.int .i64 c,.int .i64 d],.pointer (some ⟨w.heap.size,0,none⟩),.pointer (some ⟨w.heap.size+1,0,none⟩),.pointer (some ⟨w.heap.size+1+1,0,none⟩),.int .i64 0,.pointer (some ⟨gx,0,none⟩),.pointer (some ⟨gy,0,none⟩),undef,
    .agg #[.int .i64 a,.int .i64 b],.agg #[.int .i64 c,.int .i64 d],.slice (some ⟨w.heap.size+1+1+1,0,none⟩) 2 2,.bool true,.bool false,undef,.pointer (some ⟨w.heap.size,0,none⟩),.int .i64 a,.int .u64 (na:Int),.pointer (some ⟨w.heap.size+1,1,none⟩),.int .i64 d,.int .u64 (nd':Int),
    .agg #[.int .u64 (hiN p),.int .u64 (loN p)],.pointer (some ⟨w.heap.size+1,0,none⟩),.int .i64 c,.int .u64 (nc':Int),.pointer (some ⟨w.heap.size,1,none⟩),.int .i64 b,.int .u64 (nb':Int),.agg #[.int .u64 (hiN q),.int .u64 (loN q)],
    undef,undef,undef,undef,undef,undef,undef,undef,undef,undef,undef,undef,undef,undef,undef,undef,undef,undef,undef,undef,undef,undef,undef,undef,undef,undef,undef,undef,undef,undef,undef,undef,undef,undef,undef,undef,undef,undef,undef],[]⟩ W:=by
  intro gx gy W hxy hgx hgy hfacts hB
  rw [hPP]
  rename_i Q0 K0 hK0
  exact hK0 _ _ (add_b a b c d x y z p q m n na nb' nc' nd' sa sc s w gx gy W eb ed ha hc HS PB QB M3 M4 M5 hxy hgx hgy hfacts hB)
 have HBW:=Lib.hid (HG.out.2.2.2)
 have HK:=Lib.hid (And.intro c_A_0 (And.intro c_A_1 (And.intro c_B_0 (c_B_1))))
 have BD:Below w1.heap.size w1 w1.drew:=Below.drew (Below.refl _ _)
 have BR:Below w1.heap.size w1 w1:=Below.refl _ _
 have BB:Below w1.heap.size w1 w1:=BR
 go_region_held3 (fun w_=>Below w.heap.size w w_∧w_.cell? ⟨w.heap.size,0,none⟩=some (.int .i64 a)∧w_.cell? ⟨w.heap.size,1,none⟩=some (.int .i64 b)∧w_.cell? ⟨w.heap.size+1,0,none⟩=some (.int .i64 c)∧w_.cell? ⟨w.heap.size+1,1,none⟩=some (.int .i64 d)) (first|with_reducible (refine ⟨?_,(Below.cell BR (p:=⟨w.heap.size,0,none⟩) z_A).trans (HK.out.1),(Below.cell BR (p:=⟨w.heap.size,1,none⟩) z_A).trans (HK.out.2.1),(Below.cell BR (p:=⟨w.heap.size+1,0,none⟩) z_B).trans (HK.out.2.2.1),(Below.cell BR (p:=⟨w.heap.size+1,1,none⟩) z_B).trans (HK.out.2.2.2)⟩;apply (HBW.out.trans (Below.mono BR zw)))|with_reducible (refine ⟨?_,(Below.cell BD (p:=⟨w.heap.size,0,none⟩) z_A).trans (HK.out.1),(Below.cell BD (p:=⟨w.heap.size,1,none⟩) z_A).trans (HK.out.2.1),(Below.cell BD (p:=⟨w.heap.size+1,0,none⟩) z_B).trans (HK.out.2.2.1),(Below.cell BD (p:=⟨w.heap.size+1,1,none⟩) z_B).trans (HK.out.2.2.2)⟩;apply (HBW.out.trans (Below.mono BD zw)))|with_reducible (refine ⟨?_,(Below.cell BB (p:=⟨w.heap.size,0,none⟩) z_A).trans (HK.out.1),(Below.cell BB (p:=⟨w.heap.size,1,none⟩) z_A).trans (HK.out.2.1),(Below.cell BB (p:=⟨w.heap.size+1,0,none⟩) z_B).trans (HK.out.2.2.1),(Below.cell BB (p:=⟨w.heap.size+1,1,none⟩) z_B).trans (HK.out.2.2.2)⟩;apply (HBW.out.trans (Below.mono BB zw)))|(refine ⟨?_,?_,?_,?_,?_⟩;(focus (repeat (with_reducible first|apply (HBW.out.trans (Below.mono BB zw))|apply Below.drew|(apply Below.setCell;rotate_left;(dsimp only;omega))|(apply Below.alloc;rotate_left;exact Hand.z))));(repeat (with_reducible first|exact (Below.cell BB (p:=⟨w.heap.size,0,none⟩) z_A).trans (HK.out.1)|refine Hand.cell_alloc ?_|refine Hand.cell_drew ?_|refine Hand.cell_far (by omega) ?_));(repeat (with_reducible first|exact (Below.cell BB (p:=⟨w.heap.size,1,none⟩) z_A).trans (HK.out.2.1)|refine Hand.cell_alloc ?_|refine Hand.cell_drew ?_|refine Hand.cell_far (by omega) ?_));(repeat (with_reducible first|exact (Below.cell BB (p:=⟨w.heap.size+1,0,none⟩) z_B).trans (HK.out.2.2.1)|refine Hand.cell_alloc ?_|refine Hand.cell_drew ?_|refine Hand.cell_far (by omega) ?_));(repeat (with_reducible first|exact (Below.cell BB (p:=⟨w.heap.size+1,1,none⟩) z_B).trans (HK.out.2.2.2)|refine Hand.cell_alloc ?_|refine Hand.cell_drew ?_|refine Hand.cell_far (by omega) ?_)))) (first|(go_at_call 51;((with_reducible refine (S1.out _).mono ?_);rintro e w2 ⟨rfl,hb_⟩;have BB:Below w1.heap.size w1 w2:=Hand.stepB hb_.below (by first|assumption|(repeat (with_reducible first|assumption|apply Below.drew|(apply Below.setCell;rotate_left;(dsimp only;first|omega|(simp only [Hand.sa,Hand.ss,Hand.sd,Hand.sn];first|done|omega)))|(apply Below.alloc;rotate_left;exact Hand.z)))) (Nat.le_refl _);have zB_w2:=Below.size BB;have hC_:=hb_.below;have zC_w2:=Below.size hC_;(try simp only [Hand.sa,Hand.ss,Hand.sd,Hand.sn] at zC_w2);(try (have zb_w2_w1_0:w1.heap.size<w2.heap.size:=(by omega);have nb_w2_w1_0:=Hand.hp_below (g:=w1.heap.size) hC_ Hand.z;simp (disch:=try exact Hand.zt) only [Hand.q1,Hand.q2,Hand.q3,Hand.q4,Hand.q5,Hand.q6,Option.map_some,Hand.putc_cells,List.setIfInBounds_toArray,List.set_cons_zero,List.set_cons_succ] at nb_w2_w1_0;have nc_w2_w1_0:=Hand.cell0 nb_w2_w1_0;have nf_w2_w1_0:=Hand.free_of nb_w2_w1_0 0;(try (have nc1_w2_w1_0:=Hand.cell1 nb_w2_w1_0;have nf1_w2_w1_0:=Hand.free_of nb_w2_w1_0 1));(try (have nc2_w2_w1_0:=Hand.cell2 nb_w2_w1_0;have nf2_w2_w1_0:=Hand.free_of nb_w2_w1_0 2));(try (have nc3_w2_w1_0:=Hand.cell3 nb_w2_w1_0;have nf3_w2_w1_0:=Hand.free_of nb_w2_w1_0 3));(try (have nc4_w2_w1_0:=Hand.cell4 nb_w2_w1_0;have nf4_w2_w1_0:=Hand.free_of nb_w2_w1_0 4));have zx_w2_w1_0:(w1.heap.size=w2.heap.size)=False:=eq_false (by omega);have zy_w2_w1_0:(w1.heap.size=w2.heap.size+1)=False:=eq_false (by omega);have zz_w2_w1_0:w1.heap.size<w2.heap.size+1:=(by omega);have zw_w2_w1_0:w1.heap.size<w2.heap.size+1+1:=(by omega)));(try (have zb_w2_w1_1:w1.heap.size+1<w2.heap.size:=(by omega);have nb_w2_w1_1:=Hand.hp_below (g:=w1.heap.size+1) hC_ Hand.z;simp (disch:=try exact Hand.zt) only [Hand.q1,Hand.q2,Hand.q3,Hand.q4,Hand.q5,Hand.q6,Option.map_some,Hand.putc_cells,List.setIfInBounds_toArray,List.set_cons_zero,List.set_cons_succ] at nb_w2_w1_1;have nc_w2_w1_1:=Hand.cell0 nb_w2_w1_1;have nf_w2_w1_1:=Hand.free_of nb_w2_w1_1 0;(try (have nc1_w2_w1_1:=Hand.cell1 nb_w2_w1_1;have nf1_w2_w1_1:=Hand.free_of nb_w2_w1_1 1));(try (have nc2_w2_w1_1:=Hand.cell2 nb_w2_w1_1;have nf2_w2_w1_1:=Hand.free_of nb_w2_w1_1 2));(try (have nc3_w2_w1_1:=Hand.cell3 nb_w2_w1_1;have nf3_w2_w1_1:=Hand.free_of nb_w2_w1_1 3));(try (have nc4_w2_w1_1:=Hand.cell4 nb_w2_w1_1;have nf4_w2_w1_1:=Hand.free_of nb_w2_w1_1 4));have zx_w2_w1_1:(w1.heap.size+1=w2.heap.size)=False:=eq_false (by omega);have zy_w2_w1_1:(w1.heap.size+1=w2.heap.size+1)=False:=eq_false (by omega);have zz_w2_w1_1:w1.heap.size+1<w2.heap.size+1:=(by omega);have zw_w2_w1_1:w1.heap.size+1<w2.heap.size+1+1:=(by omega)));have hB_w2:=Lib.hid hC_;clear hC_;clear hb_))|(go_at_call 50;((with_reducible refine (M1.out _).mono ?_);rintro e w3 ⟨rfl,hb_⟩;have BB:Below w1.heap.size w1 w3:=Hand.stepB hb_ (by first|assumption|(repeat (with_reducible first|assumption|apply Below.drew|(apply Below.setCell;rotate_left;(dsimp only;first|omega|(simp only [Hand.sa,Hand.ss,Hand.sd,Hand.sn];first|done|omega)))|(apply Below.alloc;rotate_left;exact Hand.z)))) (Nat.le_refl _);have zB_w3:=Below.size BB;have hC_:=hb_;have zC_w3:=Below.size hC_;(try simp only [Hand.sa,Hand.ss,Hand.sd,Hand.sn] at zC_w3);(try (have zb_w3_w1_0:w1.heap.size<w3.heap.size:=(by omega);have nb_w3_w1_0:=Hand.hp_below (g:=w1.heap.size) hC_ Hand.z;(first|(simp (disch:=try exact Hand.zt) only [Hand.q1,Hand.q2,Hand.q3,Hand.q4,Hand.q5,Hand.q6,Option.map_some,Hand.putc_cells,List.setIfInBounds_toArray,List.set_cons_zero,List.set_cons_succ,nb_w2_w1_0] at nb_w3_w1_0;done)|simp (disch:=try exact Hand.zt) only [Hand.q1,Hand.q2,Hand.q3,Hand.q4,Hand.q5,Hand.q6,Option.map_some,Hand.putc_cells,List.setIfInBounds_toArray,List.set_cons_zero,List.set_cons_succ,nb_w2_w1_0] at nb_w3_w1_0|simp (disch:=try exact Hand.zt) only [Hand.q1,Hand.q2,Hand.q3,Hand.q4,Hand.q5,Hand.q6,Option.map_some,Hand.putc_cells,List.setIfInBounds_toArray,List.set_cons_zero,List.set_cons_succ] at nb_w3_w1_0);have nc_w3_w1_0:=Hand.cell0 nb_w3_w1_0;have nf_w3_w1_0:=Hand.free_of nb_w3_w1_0 0;(try (have nc1_w3_w1_0:=Hand.cell1 nb_w3_w1_0;have nf1_w3_w1_0:=Hand.free_of nb_w3_w1_0 1));(try (have nc2_w3_w1_0:=Hand.cell2 nb_w3_w1_0;have nf2_w3_w1_0:=Hand.free_of nb_w3_w1_0 2));(try (have nc3_w3_w1_0:=Hand.cell3 nb_w3_w1_0;have nf3_w3_w1_0:=Hand.free_of nb_w3_w1_0 3));(try (have nc4_w3_w1_0:=Hand.cell4 nb_w3_w1_0;have nf4_w3_w1_0:=Hand.free_of nb_w3_w1_0 4));have zx_w3_w1_0:(w1.heap.size=w3.heap.size)=False:=eq_false (by omega);have zy_w3_w1_0:(w1.heap.size=w3.heap.size+1)=False:=eq_false (by omega);have zz_w3_w1_0:w1.heap.size<w3.heap.size+1:=(by omega);have zw_w3_w1_0:w1.heap.size<w3.heap.size+1+1:=(by omega)));(try (have zb_w3_w1_1:w1.heap.size+1<w3.heap.size:=(by omega);have nb_w3_w1_1:=Hand.hp_below (g:=w1.heap.size+1) hC_ Hand.z;(first|(simp (disch:=try exact Hand.zt) only [Hand.q1,Hand.q2,Hand.q3,Hand.q4,Hand.q5,Hand.q6,Option.map_some,Hand.putc_cells,List.setIfInBounds_toArray,List.set_cons_zero,List.set_cons_succ,nb_w2_w1_1] at nb_w3_w1_1;done)|simp (disch:=try exact Hand.zt) only [Hand.q1,Hand.q2,Hand.q3,Hand.q4,Hand.q5,Hand.q6,Option.map_some,Hand.putc_cells,List.setIfInBounds_toArray,List.set_cons_zero,List.set_cons_succ,nb_w2_w1_1] at nb_w3_w1_1|simp (disch:=try exact Hand.zt) only [Hand.q1,Hand.q2,Hand.q3,Hand.q4,Hand.q5,Hand.q6,Option.map_some,Hand.putc_cells,List.setIfInBounds_toArray,List.set_cons_zero,List.set_cons_succ] at nb_w3_w1_1);have nc_w3_w1_1:=Hand.cell0 nb_w3_w1_1;have nf_w3_w1_1:=Hand.free_of nb_w3_w1_1 0;(try (have nc1_w3_w1_1:=Hand.cell1 nb_w3_w1_1;have nf1_w3_w1_1:=Hand.free_of nb_w3_w1_1 1));(try (have nc2_w3_w1_1:=Hand.cell2 nb_w3_w1_1;have nf2_w3_w1_1:=Hand.free_of nb_w3_w1_1 2));(try (have nc3_w3_w1_1:=Hand.cell3 nb_w3_w1_1;have nf3_w3_w1_1:=Hand.free_of nb_w3_w1_1 3));(try (have nc4_w3_w1_1:=Hand.cell4 nb_w3_w1_1;have nf4_w3_w1_1:=Hand.free_of nb_w3_w1_1 4));have zx_w3_w1_1:(w1.heap.size+1=w3.heap.size)=False:=eq_false (by omega);have zy_w3_w1_1:(w1.heap.size+1=w3.heap.size+1)=False:=eq_false (by omega);have zz_w3_w1_1:w1.heap.size+1<w3.heap.size+1:=(by omega);have zw_w3_w1_1:w1.heap.size+1<w3.heap.size+1+1:=(by omega)));(try (have zb_w3_w2_0:w2.heap.size<w3.heap.size:=(by omega);have nb_w3_w2_0:=Hand.hp_below (g:=w2.heap.size) hC_ Hand.z;simp (disch:=try exact Hand.zt) only [Hand.q1,Hand.q2,Hand.q3,Hand.q4,Hand.q5,Hand.q6,Option.map_some,Hand.putc_cells,List.setIfInBounds_toArray,List.set_cons_zero,List.set_cons_succ] at nb_w3_w2_0;have nc_w3_w2_0:=Hand.cell0 nb_w3_w2_0;have nf_w3_w2_0:=Hand.free_of nb_w3_w2_0 0;(try (have nc1_w3_w2_0:=Hand.cell1 nb_w3_w2_0;have nf1_w3_w2_0:=Hand.free_of nb_w3_w2_0 1));(try (have nc2_w3_w2_0:=Hand.cell2 nb_w3_w2_0;have nf2_w3_w2_0:=Hand.free_of nb_w3_w2_0 2));(try (have nc3_w3_w2_0:=Hand.cell3 nb_w3_w2_0;have nf3_w3_w2_0:=Hand.free_of nb_w3_w2_0 3));(try (have nc4_w3_w2_0:=Hand.cell4 nb_w3_w2_0;have nf4_w3_w2_0:=Hand.free_of nb_w3_w2_0 4));have zx_w3_w2_0:(w2.heap.size=w3.heap.size)=False:=eq_false (by omega);have zy_w3_w2_0:(w2.heap.size=w3.heap.size+1)=False:=eq_false (by omega);have zz_w3_w2_0:w2.heap.size<w3.heap.size+1:=(by omega);have zw_w3_w2_0:w2.heap.size<w3.heap.size+1+1:=(by omega)));(try (have zb_w3_w2_1:w2.heap.size+1<w3.heap.size:=(by omega);have nb_w3_w2_1:=Hand.hp_below (g:=w2.heap.size+1) hC_ Hand.z;simp (disch:=try exact Hand.zt) only [Hand.q1,Hand.q2,Hand.q3,Hand.q4,Hand.q5,Hand.q6,Option.map_some,Hand.putc_cells,List.setIfInBounds_toArray,List.set_cons_zero,List.set_cons_succ] at nb_w3_w2_1;have nc_w3_w2_1:=Hand.cell0 nb_w3_w2_1;have nf_w3_w2_1:=Hand.free_of nb_w3_w2_1 0;(try (have nc1_w3_w2_1:=Hand.cell1 nb_w3_w2_1;have nf1_w3_w2_1:=Hand.free_of nb_w3_w2_1 1));(try (have nc2_w3_w2_1:=Hand.cell2 nb_w3_w2_1;have nf2_w3_w2_1:=Hand.free_of nb_w3_w2_1 2));(try (have nc3_w3_w2_1:=Hand.cell3 nb_w3_w2_1;have nf3_w3_w2_1:=Hand.free_of nb_w3_w2_1 3));(try (have nc4_w3_w2_1:=Hand.cell4 nb_w3_w2_1;have nf4_w3_w2_1:=Hand.free_of nb_w3_w2_1 4));have zx_w3_w2_1:(w2.heap.size+1=w3.heap.size)=False:=eq_false (by omega);have zy_w3_w2_1:(w2.heap.size+1=w3.heap.size+1)=False:=eq_false (by omega);have zz_w3_w2_1:w2.heap.size+1<w3.heap.size+1:=(by omega);have zw_w3_w2_1:w2.heap.size+1<w3.heap.size+1+1:=(by omega)));have hB_w3:=Lib.hid hC_;clear hC_;clear hb_))|(go_at_call 51;((with_reducible refine (S2.out _).mono ?_);rintro e w4 ⟨rfl,hb_⟩;have BB:Below w1.heap.size w1 w4:=Hand.stepB hb_.below (by first|assumption|(repeat (with_reducible first|assumption|apply Below.drew|(apply Below.setCell;rotate_left;(dsimp only;first|omega|(simp only [Hand.sa,Hand.ss,Hand.sd,Hand.sn];first|done|omega)))|(apply Below.alloc;rotate_left;exact Hand.z)))) (Nat.le_refl _);have zB_w4:=Below.size BB;have hC_:=hb_.below;have zC_w4:=Below.size hC_;(try simp only [Hand.sa,Hand.ss,Hand.sd,Hand.sn] at zC_w4);(try (have zb_w4_w1_0:w1.heap.size<w4.heap.size:=(by omega);have nb_w4_w1_0:=Hand.hp_below (g:=w1.heap.size) hC_ Hand.z;(first|(simp (disch:=try exact Hand.zt) only [Hand.q1,Hand.q2,Hand.q3,Hand.q4,Hand.q5,Hand.q6,Option.map_some,Hand.putc_cells,List.setIfInBounds_toArray,List.set_cons_zero,List.set_cons_succ,nb_w3_w1_0] at nb_w4_w1_0;done)|simp (disch:=try exact Hand.zt) only [Hand.q1,Hand.q2,Hand.q3,Hand.q4,Hand.q5,Hand.q6,Option.map_some,Hand.putc_cells,List.setIfInBounds_toArray,List.set_cons_zero,List.set_cons_succ,nb_w3_w1_0] at nb_w4_w1_0|simp (disch:=try exact Hand.zt) only [Hand.q1,Hand.q2,Hand.q3,Hand.q4,Hand.q5,Hand.q6,Option.map_some,Hand.putc_cells,List.setIfInBounds_toArray,List.set_cons_zero,List.set_cons_succ] at nb_w4_w1_0);have nc_w4_w1_0:=Hand.cell0 nb_w4_w1_0;have nf_w4_w1_0:=Hand.free_of nb_w4_w1_0 0;(try (have nc1_w4_w1_0:=Hand.cell1 nb_w4_w1_0;have nf1_w4_w1_0:=Hand.free_of nb_w4_w1_0 1));(try (have nc2_w4_w1_0:=Hand.cell2 nb_w4_w1_0;have nf2_w4_w1_0:=Hand.free_of nb_w4_w1_0 2));(try (have nc3_w4_w1_0:=Hand.cell3 nb_w4_w1_0;have nf3_w4_w1_0:=Hand.free_of nb_w4_w1_0 3));(try (have nc4_w4_w1_0:=Hand.cell4 nb_w4_w1_0;have nf4_w4_w1_0:=Hand.free_of nb_w4_w1_0 4));have zx_w4_w1_0:(w1.heap.size=w4.heap.size)=False:=eq_false (by omega);have zy_w4_w1_0:(w1.heap.size=w4.heap.size+1)=False:=eq_false (by omega);have zz_w4_w1_0:w1.heap.size<w4.heap.size+1:=(by omega);have zw_w4_w1_0:w1.heap.size<w4.heap.size+1+1:=(by omega)));(try (have zb_w4_w1_1:w1.heap.size+1<w4.heap.size:=(by omega);have nb_w4_w1_1:=Hand.hp_below (g:=w1.heap.size+1) hC_ Hand.z;(first|(simp (disch:=try exact Hand.zt) only [Hand.q1,Hand.q2,Hand.q3,Hand.q4,Hand.q5,Hand.q6,Option.map_some,Hand.putc_cells,List.setIfInBounds_toArray,List.set_cons_zero,List.set_cons_succ,nb_w3_w1_1] at nb_w4_w1_1;done)|simp (disch:=try exact Hand.zt) only [Hand.q1,Hand.q2,Hand.q3,Hand.q4,Hand.q5,Hand.q6,Option.map_some,Hand.putc_cells,List.setIfInBounds_toArray,List.set_cons_zero,List.set_cons_succ,nb_w3_w1_1] at nb_w4_w1_1|simp (disch:=try exact Hand.zt) only [Hand.q1,Hand.q2,Hand.q3,Hand.q4,Hand.q5,Hand.q6,Option.map_some,Hand.putc_cells,List.setIfInBounds_toArray,List.set_cons_zero,List.set_cons_succ] at nb_w4_w1_1);have nc_w4_w1_1:=Hand.cell0 nb_w4_w1_1;have nf_w4_w1_1:=Hand.free_of nb_w4_w1_1 0;(try (have nc1_w4_w1_1:=Hand.cell1 nb_w4_w1_1;have nf1_w4_w1_1:=Hand.free_of nb_w4_w1_1 1));(try (have nc2_w4_w1_1:=Hand.cell2 nb_w4_w1_1;have nf2_w4_w1_1:=Hand.free_of nb_w4_w1_1 2));(try (have nc3_w4_w1_1:=Hand.cell3 nb_w4_w1_1;have nf3_w4_w1_1:=Hand.free_of nb_w4_w1_1 3));(try (have nc4_w4_w1_1:=Hand.cell4 nb_w4_w1_1;have nf4_w4_w1_1:=Hand.free_of nb_w4_w1_1 4));have zx_w4_w1_1:(w1.heap.size+1=w4.heap.size)=False:=eq_false (by omega);have zy_w4_w1_1:(w1.heap.size+1=w4.heap.size+1)=False:=eq_false (by omega);have zz_w4_w1_1:w1.heap.size+1<w4.heap.size+1:=(by omega);have zw_w4_w1_1:w1.heap.size+1<w4.heap.size+1+1:=(by omega)));(try (have zb_w4_w2_0:w2.heap.size<w4.heap.size:=(by omega);have nb_w4_w2_0:=Hand.hp_below (g:=w2.heap.size) hC_ Hand.z;(first|(simp (disch:=try exact Hand.zt) only [Hand.q1,Hand.q2,Hand.q3,Hand.q4,Hand.q5,Hand.q6,Option.map_some,Hand.putc_cells,List.setIfInBounds_toArray,List.set_cons_zero,List.set_cons_succ,nb_w3_w2_0] at nb_w4_w2_0;done)|simp (disch:=try exact Hand.zt) only [Hand.q1,Hand.q2,Hand.q3,Hand.q4,Hand.q5,Hand.q6,Option.map_some,Hand.putc_cells,List.setIfInBounds_toArray,List.set_cons_zero,List.set_cons_succ,nb_w3_w2_0] at nb_w4_w2_0|simp (disch:=try exact Hand.zt) only [Hand.q1,Hand.q2,Hand.q3,Hand.q4,Hand.q5,Hand.q6,Option.map_some,Hand.putc_cells,List.setIfInBounds_toArray,List.set_cons_zero,List.set_cons_succ] at nb_w4_w2_0);have nc_w4_w2_0:=Hand.cell0 nb_w4_w2_0;have nf_w4_w2_0:=Hand.free_of nb_w4_w2_0 0;(try (have nc1_w4_w2_0:=Hand.cell1 nb_w4_w2_0;have nf1_w4_w2_0:=Hand.free_of nb_w4_w2_0 1));(try (have nc2_w4_w2_0:=Hand.cell2 nb_w4_w2_0;have nf2_w4_w2_0:=Hand.free_of nb_w4_w2_0 2));(try (have nc3_w4_w2_0:=Hand.cell3 nb_w4_w2_0;have nf3_w4_w2_0:=Hand.free_of nb_w4_w2_0 3));(try (have nc4_w4_w2_0:=Hand.cell4 nb_w4_w2_0;have nf4_w4_w2_0:=Hand.free_of nb_w4_w2_0 4));have zx_w4_w2_0:(w2.heap.size=w4.heap.size)=False:=eq_false (by omega);have zy_w4_w2_0:(w2.heap.size=w4.heap.size+1)=False:=eq_false (by omega);have zz_w4_w2_0:w2.heap.size<w4.heap.size+1:=(by omega);have zw_w4_w2_0:w2.heap.size<w4.heap.size+1+1:=(by omega)));(try (have zb_w4_w2_1:w2.heap.size+1<w4.heap.size:=(by omega);have nb_w4_w2_1:=Hand.hp_below (g:=w2.heap.size+1) hC_ Hand.z;(first|(simp (disch:=try exact Hand.zt) only [Hand.q1,Hand.q2,Hand.q3,Hand.q4,Hand.q5,Hand.q6,Option.map_some,Hand.putc_cells,List.setIfInBounds_toArray,List.set_cons_zero,List.set_cons_succ,nb_w3_w2_1] at nb_w4_w2_1;done)|simp (disch:=try exact Hand.zt) only [Hand.q1,Hand.q2,Hand.q3,Hand.q4,Hand.q5,Hand.q6,Option.map_some,Hand.putc_cells,List.setIfInBounds_toArray,List.set_cons_zero,List.set_cons_succ,nb_w3_w2_1] at nb_w4_w2_1|simp (disch:=try exact Hand.zt) only [Hand.q1,Hand.q2,Hand.q3,Hand.q4,Hand.q5,Hand.q6,Option.map_some,Hand.putc_cells,List.setIfInBounds_toArray,List.set_cons_zero,List.set_cons_succ] at nb_w4_w2_1);have nc_w4_w2_1:=Hand.cell0 nb_w4_w2_1;have nf_w4_w2_1:=Hand.free_of nb_w4_w2_1 0;(try (have nc1_w4_w2_1:=Hand.cell1 nb_w4_w2_1;have nf1_w4_w2_1:=Hand.free_of nb_w4_w2_1 1));(try (have nc2_w4_w2_1:=Hand.cell2 nb_w4_w2_1;have nf2_w4_w2_1:=Hand.free_of nb_w4_w2_1 2));(try (have nc3_w4_w2_1:=Hand.cell3 nb_w4_w2_1;have nf3_w4_w2_1:=Hand.free_of nb_w4_w2_1 3));(try (have nc4_w4_w2_1:=Hand.cell4 nb_w4_w2_1;have nf4_w4_w2_1:=Hand.free_of nb_w4_w2_1 4));have zx_w4_w2_1:(w2.heap.size+1=w4.heap.size)=False:=eq_false (by omega);have zy_w4_w2_1:(w2.heap.size+1=w4.heap.size+1)=False:=eq_false (by omega);have zz_w4_w2_1:w2.heap.size+1<w4.heap.size+1:=(by omega);have zw_w4_w2_1:w2.heap.size+1<w4.heap.size+1+1:=(by omega)));(try (have zb_w4_w3_0:w3.heap.size<w4.heap.size:=(by omega);have nb_w4_w3_0:=Hand.hp_below (g:=w3.heap.size) hC_ Hand.z;simp (disch:=try exact Hand.zt) only [Hand.q1,Hand.q2,Hand.q3,Hand.q4,Hand.q5,Hand.q6,Option.map_some,Hand.putc_cells,List.setIfInBounds_toArray,List.set_cons_zero,List.set_cons_succ] at nb_w4_w3_0;have nc_w4_w3_0:=Hand.cell0 nb_w4_w3_0;have nf_w4_w3_0:=Hand.free_of nb_w4_w3_0 0;(try (have nc1_w4_w3_0:=Hand.cell1 nb_w4_w3_0;have nf1_w4_w3_0:=Hand.free_of nb_w4_w3_0 1));(try (have nc2_w4_w3_0:=Hand.cell2 nb_w4_w3_0;have nf2_w4_w3_0:=Hand.free_of nb_w4_w3_0 2));(try (have nc3_w4_w3_0:=Hand.cell3 nb_w4_w3_0;have nf3_w4_w3_0:=Hand.free_of nb_w4_w3_0 3));(try (have nc4_w4_w3_0:=Hand.cell4 nb_w4_w3_0;have nf4_w4_w3_0:=Hand.free_of nb_w4_w3_0 4));have zx_w4_w3_0:(w3.heap.size=w4.heap.size)=False:=eq_false (by omega);have zy_w4_w3_0:(w3.heap.size=w4.heap.size+1)=False:=eq_false (by omega);have zz_w4_w3_0:w3.heap.size<w4.heap.size+1:=(by omega);have zw_w4_w3_0:w3.heap.size<w4.heap.size+1+1:=(by omega)));(try (have zb_w4_w3_1:w3.heap.size+1<w4.heap.size:=(by omega);have nb_w4_w3_1:=Hand.hp_below (g:=w3.heap.size+1) hC_ Hand.z;simp (disch:=try exact Hand.zt) only [Hand.q1,Hand.q2,Hand.q3,Hand.q4,Hand.q5,Hand.q6,Option.map_some,Hand.putc_cells,List.setIfInBounds_toArray,List.set_cons_zero,List.set_cons_succ] at nb_w4_w3_1;have nc_w4_w3_1:=Hand.cell0 nb_w4_w3_1;have nf_w4_w3_1:=Hand.free_of nb_w4_w3_1 0;(try (have nc1_w4_w3_1:=Hand.cell1 nb_w4_w3_1;have nf1_w4_w3_1:=Hand.free_of nb_w4_w3_1 1));(try (have nc2_w4_w3_1:=Hand.cell2 nb_w4_w3_1;have nf2_w4_w3_1:=Hand.free_of nb_w4_w3_1 2));(try (have nc3_w4_w3_1:=Hand.cell3 nb_w4_w3_1;have nf3_w4_w3_1:=Hand.free_of nb_w4_w3_1 3));(try (have nc4_w4_w3_1:=Hand.cell4 nb_w4_w3_1;have nf4_w4_w3_1:=Hand.free_of nb_w4_w3_1 4));have zx_w4_w3_1:(w3.heap.size+1=w4.heap.size)=False:=eq_false (by omega);have zy_w4_w3_1:(w3.heap.size+1=w4.heap.size+1)=False:=eq_false (by omega);have zz_w4_w3_1:w3.heap.size+1<w4.heap.size+1:=(by omega);have zw_w4_w3_1:w3.heap.size+1<w4.heap.size+1+1:=(by omega)));have hB_w4:=Lib.hid hC_;clear hC_;clear hb_))|(go_at_call 50;((with_reducible refine (M2.out _).mono ?_);rintro e w5 ⟨rfl,hb_⟩;have BB:Below w1.heap.size w1 w5:=Hand.stepB hb_ (by first|assumption|(repeat (with_reducible first|assumption|apply Below.drew|(apply Below.setCell;rotate_left;(dsimp only;first|omega|(simp only [Hand.sa,Hand.ss,Hand.sd,Hand.sn];first|done|omega)))|(apply Below.alloc;rotate_left;exact Hand.z)))) (Nat.le_refl _);have zB_w5:=Below.size BB;have hC_:=hb_;have zC_w5:=Below.size hC_;(try simp only [Hand.sa,Hand.ss,Hand.sd,Hand.sn] at zC_w5);(try (have zb_w5_w1_0:w1.heap.size<w5.heap.size:=(by omega);have nb_w5_w1_0:=Hand.hp_below (g:=w1.heap.size) hC_ Hand.z;(first|(simp (disch:=try exact Hand.zt) only [Hand.q1,Hand.q2,Hand.q3,Hand.q4,Hand.q5,Hand.q6,Option.map_some,Hand.putc_cells,List.setIfInBounds_toArray,List.set_cons_zero,List.set_cons_succ,nb_w4_w1_0] at nb_w5_w1_0;done)|simp (disch:=try exact Hand.zt) only [Hand.q1,Hand.q2,Hand.q3,Hand.q4,Hand.q5,Hand.q6,Option.map_some,Hand.putc_cells,List.setIfInBounds_toArray,List.set_cons_zero,List.set_cons_succ,nb_w4_w1_0] at nb_w5_w1_0|simp (disch:=try exact Hand.zt) only [Hand.q1,Hand.q2,Hand.q3,Hand.q4,Hand.q5,Hand.q6,Option.map_some,Hand.putc_cells,List.setIfInBounds_toArray,List.set_cons_zero,List.set_cons_succ] at nb_w5_w1_0);have nc_w5_w1_0:=Hand.cell0 nb_w5_w1_0;have nf_w5_w1_0:=Hand.free_of nb_w5_w1_0 0;(try (have nc1_w5_w1_0:=Hand.cell1 nb_w5_w1_0;have nf1_w5_w1_0:=Hand.free_of nb_w5_w1_0 1));(try (have nc2_w5_w1_0:=Hand.cell2 nb_w5_w1_0;have nf2_w5_w1_0:=Hand.free_of nb_w5_w1_0 2));(try (have nc3_w5_w1_0:=Hand.cell3 nb_w5_w1_0;have nf3_w5_w1_0:=Hand.free_of nb_w5_w1_0 3));(try (have nc4_w5_w1_0:=Hand.cell4 nb_w5_w1_0;have nf4_w5_w1_0:=Hand.free_of nb_w5_w1_0 4));have zx_w5_w1_0:(w1.heap.size=w5.heap.size)=False:=eq_false (by omega);have zy_w5_w1_0:(w1.heap.size=w5.heap.size+1)=False:=eq_false (by omega);have zz_w5_w1_0:w1.heap.size<w5.heap.size+1:=(by omega);have zw_w5_w1_0:w1.heap.size<w5.heap.size+1+1:=(by omega)));(try (have zb_w5_w1_1:w1.heap.size+1<w5.heap.size:=(by omega);have nb_w5_w1_1:=Hand.hp_below (g:=w1.heap.size+1) hC_ Hand.z;(first|(simp (disch:=try exact Hand.zt) only [Hand.q1,Hand.q2,Hand.q3,Hand.q4,Hand.q5,Hand.q6,Option.map_some,Hand.putc_cells,List.setIfInBounds_toArray,List.set_cons_zero,List.set_cons_succ,nb_w4_w1_1] at nb_w5_w1_1;done)|simp (disch:=try exact Hand.zt) only [Hand.q1,Hand.q2,Hand.q3,Hand.q4,Hand.q5,Hand.q6,Option.map_some,Hand.putc_cells,List.setIfInBounds_toArray,List.set_cons_zero,List.set_cons_succ,nb_w4_w1_1] at nb_w5_w1_1|simp (disch:=try exact Hand.zt) only [Hand.q1,Hand.q2,Hand.q3,Hand.q4,Hand.q5,Hand.q6,Option.map_some,Hand.putc_cells,List.setIfInBounds_toArray,List.set_cons_zero,List.set_cons_succ] at nb_w5_w1_1);have nc_w5_w1_1:=Hand.cell0 nb_w5_w1_1;have nf_w5_w1_1:=Hand.free_of nb_w5_w1_1 0;(try (have nc1_w5_w1_1:=Hand.cell1 nb_w5_w1_1;have nf1_w5_w1_1:=Hand.free_of nb_w5_w1_1 1));(try (have nc2_w5_w1_1:=Hand.cell2 nb_w5_w1_1;have nf2_w5_w1_1:=Hand.free_of nb_w5_w1_1 2));(try (have nc3_w5_w1_1:=Hand.cell3 nb_w5_w1_1;have nf3_w5_w1_1:=Hand.free_of nb_w5_w1_1 3));(try (have nc4_w5_w1_1:=Hand.cell4 nb_w5_w1_1;have nf4_w5_w1_1:=Hand.free_of nb_w5_w1_1 4));have zx_w5_w1_1:(w1.heap.size+1=w5.heap.size)=False:=eq_false (by omega);have zy_w5_w1_1:(w1.heap.size+1=w5.heap.size+1)=False:=eq_false (by omega);have zz_w5_w1_1:w1.heap.size+1<w5.heap.size+1:=(by omega);have zw_w5_w1_1:w1.heap.size+1<w5.heap.size+1+1:=(by omega)));(try (have zb_w5_w2_0:w2.heap.size<w5.heap.size:=(by omega);have nb_w5_w2_0:=Hand.hp_below (g:=w2.heap.size) hC_ Hand.z;(first|(simp (disch:=try exact Hand.zt) only [Hand.q1,Hand.q2,Hand.q3,Hand.q4,Hand.q5,Hand.q6,Option.map_some,Hand.putc_cells,List.setIfInBounds_toArray,List.set_cons_zero,List.set_cons_succ,nb_w4_w2_0] at nb_w5_w2_0;done)|simp (disch:=try exact Hand.zt) only [Hand.q1,Hand.q2,Hand.q3,Hand.q4,Hand.q5,Hand.q6,Option.map_some,Hand.putc_cells,List.setIfInBounds_toArray,List.set_cons_zero,List.set_cons_succ,nb_w4_w2_0] at nb_w5_w2_0|simp (disch:=try exact Hand.zt) only [Hand.q1,Hand.q2,Hand.q3,Hand.q4,Hand.q5,Hand.q6,Option.map_some,Hand.putc_cells,List.setIfInBounds_toArray,List.set_cons_zero,List.set_cons_succ] at nb_w5_w2_0);have nc_w5_w2_0:=Hand.cell0 nb_w5_w2_0;have nf_w5_w2_0:=Hand.free_of nb_w5_w2_0 0;(try (have nc1_w5_w2_0:=Hand.cell1 nb_w5_w2_0;have nf1_w5_w2_0:=Hand.free_of nb_w5_w2_0 1));(try (have nc2_w5_w2_0:=Hand.cell2 nb_w5_w2_0;have nf2_w5_w2_0:=Hand.free_of nb_w5_w2_0 2));(try (have nc3_w5_w2_0:=Hand.cell3 nb_w5_w2_0;have nf3_w5_w2_0:=Hand.free_of nb_w5_w2_0 3));(try (have nc4_w5_w2_0:=Hand.cell4 nb_w5_w2_0;have nf4_w5_w2_0:=Hand.free_of nb_w5_w2_0 4));have zx_w5_w2_0:(w2.heap.size=w5.heap.size)=False:=eq_false (by omega);have zy_w5_w2_0:(w2.heap.size=w5.heap.size+1)=False:=eq_false (by omega);have zz_w5_w2_0:w2.heap.size<w5.heap.size+1:=(by omega);have zw_w5_w2_0:w2.heap.size<w5.heap.size+1+1:=(by omega)));(try (have zb_w5_w2_1:w2.heap.size+1<w5.heap.size:=(by omega);have nb_w5_w2_1:=Hand.hp_below (g:=w2.heap.size+1) hC_ Hand.z;(first|(simp (disch:=try exact Hand.zt) only [Hand.q1,Hand.q2,Hand.q3,Hand.q4,Hand.q5,Hand.q6,Option.map_some,Hand.putc_cells,List.setIfInBounds_toArray,List.set_cons_zero,List.set_cons_succ,nb_w4_w2_1] at nb_w5_w2_1;done)|simp (disch:=try exact Hand.zt) only [Hand.q1,Hand.q2,Hand.q3,Hand.q4,Hand.q5,Hand.q6,Option.map_some,Hand.putc_cells,List.setIfInBounds_toArray,List.set_cons_zero,List.set_cons_succ,nb_w4_w2_1] at nb_w5_w2_1|simp (disch:=try exact Hand.zt) only [Hand.q1,Hand.q2,Hand.q3,Hand.q4,Hand.q5,Hand.q6,Option.map_some,Hand.putc_cells,List.setIfInBounds_toArray,List.set_cons_zero,List.set_cons_succ] at nb_w5_w2_1);have nc_w5_w2_1:=Hand.cell0 nb_w5_w2_1;have nf_w5_w2_1:=Hand.free_of nb_w5_w2_1 0;(try (have nc1_w5_w2_1:=Hand.cell1 nb_w5_w2_1;have nf1_w5_w2_1:=Hand.free_of nb_w5_w2_1 1));(try (have nc2_w5_w2_1:=Hand.cell2 nb_w5_w2_1;have nf2_w5_w2_1:=Hand.free_of nb_w5_w2_1 2));(try (have nc3_w5_w2_1:=Hand.cell3 nb_w5_w2_1;have nf3_w5_w2_1:=Hand.free_of nb_w5_w2_1 3));(try (have nc4_w5_w2_1:=Hand.cell4 nb_w5_w2_1;have nf4_w5_w2_1:=Hand.free_of nb_w5_w2_1 4));have zx_w5_w2_1:(w2.heap.size+1=w5.heap.size)=False:=eq_false (by omega);have zy_w5_w2_1:(w2.heap.size+1=w5.heap.size+1)=False:=eq_false (by omega);have zz_w5_w2_1:w2.heap.size+1<w5.heap.size+1:=(by omega);have zw_w5_w2_1:w2.heap.size+1<w5.heap.size+1+1:=(by omega)));(try (have zb_w5_w3_0:w3.heap.size<w5.heap.size:=(by omega);have nb_w5_w3_0:=Hand.hp_below (g:=w3.heap.size) hC_ Hand.z;(first|(simp (disch:=try exact Hand.zt) only [Hand.q1,Hand.q2,Hand.q3,Hand.q4,Hand.q5,Hand.q6,Option.map_some,Hand.putc_cells,List.setIfInBounds_toArray,List.set_cons_zero,List.set_cons_succ,nb_w4_w3_0] at nb_w5_w3_0;done)|simp (disch:=try exact Hand.zt) only [Hand.q1,Hand.q2,Hand.q3,Hand.q4,Hand.q5,Hand.q6,Option.map_some,Hand.putc_cells,List.setIfInBounds_toArray,List.set_cons_zero,List.set_cons_succ,nb_w4_w3_0] at nb_w5_w3_0|simp (disch:=try exact Hand.zt) only [Hand.q1,Hand.q2,Hand.q3,Hand.q4,Hand.q5,Hand.q6,Option.map_some,Hand.putc_cells,List.setIfInBounds_toArray,List.set_cons_zero,List.set_cons_succ] at nb_w5_w3_0);have nc_w5_w3_0:=Hand.cell0 nb_w5_w3_0;have nf_w5_w3_0:=Hand.free_of nb_w5_w3_0 0;(try (have nc1_w5_w3_0:=Hand.cell1 nb_w5_w3_0;have nf1_w5_w3_0:=Hand.free_of nb_w5_w3_0 1));(try (have nc2_w5_w3_0:=Hand.cell2 nb_w5_w3_0;have nf2_w5_w3_0:=Hand.free_of nb_w5_w3_0 2));(try (have nc3_w5_w3_0:=Hand.cell3 nb_w5_w3_0;have nf3_w5_w3_0:=Hand.free_of nb_w5_w3_0 3));(try (have nc4_w5_w3_0:=Hand.cell4 nb_w5_w3_0;have nf4_w5_w3_0:=Hand.free_of nb_w5_w3_0 4));have zx_w5_w3_0:(w3.heap.size=w5.heap.size)=False:=eq_false (by omega);have zy_w5_w3_0:(w3.heap.size=w5.heap.size+1)=False:=eq_false (by omega);have zz_w5_w3_0:w3.heap.size<w5.heap.size+1:=(by omega);have zw_w5_w3_0:w3.heap.size<w5.heap.size+1+1:=(by omega)));(try (have zb_w5_w3_1:w3.heap.size+1<w5.heap.size:=(by omega);have nb_w5_w3_1:=Hand.hp_below (g:=w3.heap.size+1) hC_ Hand.z;(first|(simp (disch:=try exact Hand.zt) only [Hand.q1,Hand.q2,Hand.q3,Hand.q4,Hand.q5,Hand.q6,Option.map_some,Hand.putc_cells,List.setIfInBounds_toArray,List.set_cons_zero,List.set_cons_succ,nb_w4_w3_1] at nb_w5_w3_1;done)|simp (disch:=try exact Hand.zt) only [Hand.q1,Hand.q2,Hand.q3,Hand.q4,Hand.q5,Hand.q6,Option.map_some,Hand.putc_cells,List.setIfInBounds_toArray,List.set_cons_zero,List.set_cons_succ,nb_w4_w3_1] at nb_w5_w3_1|simp (disch:=try exact Hand.zt) only [Hand.q1,Hand.q2,Hand.q3,Hand.q4,Hand.q5,Hand.q6,Option.map_some,Hand.putc_cells,List.setIfInBounds_toArray,List.set_cons_zero,List.set_cons_succ] at nb_w5_w3_1);have nc_w5_w3_1:=Hand.cell0 nb_w5_w3_1;have nf_w5_w3_1:=Hand.free_of nb_w5_w3_1 0;(try (have nc1_w5_w3_1:=Hand.cell1 nb_w5_w3_1;have nf1_w5_w3_1:=Hand.free_of nb_w5_w3_1 1));(try (have nc2_w5_w3_1:=Hand.cell2 nb_w5_w3_1;have nf2_w5_w3_1:=Hand.free_of nb_w5_w3_1 2));(try (have nc3_w5_w3_1:=Hand.cell3 nb_w5_w3_1;have nf3_w5_w3_1:=Hand.free_of nb_w5_w3_1 3));(try (have nc4_w5_w3_1:=Hand.cell4 nb_w5_w3_1;have nf4_w5_w3_1:=Hand.free_of nb_w5_w3_1 4));have zx_w5_w3_1:(w3.heap.size+1=w5.heap.size)=False:=eq_false (by omega);have zy_w5_w3_1:(w3.heap.size+1=w5.heap.size+1)=False:=eq_false (by omega);have zz_w5_w3_1:w3.heap.size+1<w5.heap.size+1:=(by omega);have zw_w5_w3_1:w3.heap.size+1<w5.heap.size+1+1:=(by omega)));(try (have zb_w5_w4_0:w4.heap.size<w5.heap.size:=(by omega);have nb_w5_w4_0:=Hand.hp_below (g:=w4.heap.size) hC_ Hand.z;simp (disch:=try exact Hand.zt) only [Hand.q1,Hand.q2,Hand.q3,Hand.q4,Hand.q5,Hand.q6,Option.map_some,Hand.putc_cells,List.setIfInBounds_toArray,List.set_cons_zero,List.set_cons_succ] at nb_w5_w4_0;have nc_w5_w4_0:=Hand.cell0 nb_w5_w4_0;have nf_w5_w4_0:=Hand.free_of nb_w5_w4_0 0;(try (have nc1_w5_w4_0:=Hand.cell1 nb_w5_w4_0;have nf1_w5_w4_0:=Hand.free_of nb_w5_w4_0 1));(try (have nc2_w5_w4_0:=Hand.cell2 nb_w5_w4_0;have nf2_w5_w4_0:=Hand.free_of nb_w5_w4_0 2));(try (have nc3_w5_w4_0:=Hand.cell3 nb_w5_w4_0;have nf3_w5_w4_0:=Hand.free_of nb_w5_w4_0 3));(try (have nc4_w5_w4_0:=Hand.cell4 nb_w5_w4_0;have nf4_w5_w4_0:=Hand.free_of nb_w5_w4_0 4));have zx_w5_w4_0:(w4.heap.size=w5.heap.size)=False:=eq_false (by omega);have zy_w5_w4_0:(w4.heap.size=w5.heap.size+1)=False:=eq_false (by omega);have zz_w5_w4_0:w4.heap.size<w5.heap.size+1:=(by omega);have zw_w5_w4_0:w4.heap.size<w5.heap.size+1+1:=(by omega)));(try (have zb_w5_w4_1:w4.heap.size+1<w5.heap.size:=(by omega);have nb_w5_w4_1:=Hand.hp_below (g:=w4.heap.size+1) hC_ Hand.z;simp (disch:=try exact Hand.zt) only [Hand.q1,Hand.q2,Hand.q3,Hand.q4,Hand.q5,Hand.q6,Option.map_some,Hand.putc_cells,List.setIfInBounds_toArray,List.set_cons_zero,List.set_cons_succ] at nb_w5_w4_1;have nc_w5_w4_1:=Hand.cell0 nb_w5_w4_1;have nf_w5_w4_1:=Hand.free_of nb_w5_w4_1 0;(try (have nc1_w5_w4_1:=Hand.cell1 nb_w5_w4_1;have nf1_w5_w4_1:=Hand.free_of nb_w5_w4_1 1));(try (have nc2_w5_w4_1:=Hand.cell2 nb_w5_w4_1;have nf2_w5_w4_1:=Hand.free_of nb_w5_w4_1 2));(try (have nc3_w5_w4_1:=Hand.cell3 nb_w5_w4_1;have nf3_w5_w4_1:=Hand.free_of nb_w5_w4_1 3));(try (have nc4_w5_w4_1:=Hand.cell4 nb_w5_w4_1;have nf4_w5_w4_1:=Hand.free_of nb_w5_w4_1 4));have zx_w5_w4_1:(w4.heap.size+1=w5.heap.size)=False:=eq_false (by omega);have zy_w5_w4_1:(w4.heap.size+1=w5.heap.size+1)=False:=eq_false (by omega);have zz_w5_w4_1:w4.heap.size+1<w5.heap.size+1:=(by omega);have zw_w5_w4_1:w4.heap.size+1<w5.heap.size+1+1:=(by omega)));have hB_w5:=Lib.hid hC_;clear hC_;clear hb_)))
 all_goals
  (rename_i hh_; clear hh_
   obtain ⟨g_A,g_B,g_R,hB⟩:=HG.out
   have k_w2:=fun (i:Nat) (x:Obj) h=>Hand.kb (i:=i) (x:=x) hB_w2.out h
   have k_w3:=fun (i:Nat) (x:Obj) h=>Hand.kb (i:=i) (x:=x) hB_w3.out h
   have k_w4:=fun (i:Nat) (x:Obj) h=>Hand.kb (i:=i) (x:=x) hB_w4.out h
   have k_w5:=fun (i:Nat) (x:Obj) h=>Hand.kb (i:=i) (x:=x) hB_w5.out h
   have hbw:=HBW.out.trans (Below.mono BB zw)
   with_reducible refine rest _ _ _ Hand.z Hand.z Hand.z ?_ ?_
   ·repeat' (with_reducible apply And.intro)
    all_goals (repeat (with_reducible first|exact g_A|exact g_B|exact g_R|refine k_w2 _ _ ?_|refine k_w3 _ _ ?_|refine k_w4 _ _ ?_|refine k_w5 _ _ ?_|exact Hand.kn Hand.z|refine Hand.ka ?_|refine Hand.kd ?_|refine Hand.ks (by omega) ?_|apply Hand.kp))
    all_goals (first|with_reducible rfl|(simp only [List.setIfInBounds_toArray,List.set_cons_zero,List.set_cons_succ];done))
   ·repeat (with_reducible first|apply hbw|apply Below.drew|(apply Below.setCell;rotate_left;(dsimp only;first|omega|(simp only [Hand.sa,Hand.ss,Hand.sd,Hand.sn];first|done|omega)))|(apply Below.alloc;rotate_left;exact Hand.z)))
def addS (a b c d:Int):Int × Int × Int:=if rightS a b && rightS c d then fitS (sumS (decide (a<0)) (decide (c<0)) (a.natAbs*d.natAbs) (c.natAbs*b.natAbs)).1 (sumS (decide (a<0)) (decide (c<0)) (a.natAbs*d.natAbs) (c.natAbs*b.natAbs)).2 (b.natAbs*d.natAbs) else (0,0,12)
theorem add_bad (a b c d:Int) (w:World) (ha0:-9223372036854775808≤a) (ha1:a≤9223372036854775807) (hb0:-9223372036854775808≤b) (hb1:b≤9223372036854775807)
  (hc0:-9223372036854775808≤c) (hc1:c≤9223372036854775807) (hd0:-9223372036854775808≤d) (hd1:d≤9223372036854775807) (h:(rightS a b && rightS c d)=false) :
  Calls Try.prog 44 #[.agg #[.int .i64 a,.int .i64 b],.agg #[.int .i64 c,.int .i64 d]] w fun e w'=>e = .returned (.tuple #[.agg #[.int .i64 0,.int .i64 0],.int .i64 12])∧Below w.heap.size w w':=by
 have rt:∀ g w,w.heap[g]?=some (.cells #[.int .i64 a,.int .i64 b,.int .i64 c,.int .i64 d] 31 (0,0)) → Calls Try.prog 81 #[.slice (some ⟨g,0,none⟩) 2 2] w fun e w'=>e = .returned (.bool false)∧Below w.heap.size w w':=fun g w hg=>by
  have:=right_two a b c d g w ha0 ha1 hb0 hb1 hc0 hc1 hd0 hd1 hg
  rw [h] at this;exact this
 have RT:=Lib.hid rt
 clear rt h
 go_enter Try.func44,Try.ntmps44
 go_wp2_with fail
 with_reducible refine (RT.out _ _ ?_).mono ?_
 ·simp (disch:=try exact Hand.z) only [Hand.q3]
 rintro e w1 ⟨rfl,hb9⟩
 have h_A:w1.heap[w.heap.size]?=some (.cells #[.int .i64 a,.int .i64 b] 31 (0,0)):=by
  exact Hand.kb hb9 Hand.k
 have h_B:w1.heap[w.heap.size+1]?=some (.cells #[.int .i64 c,.int .i64 d] 31 (0,0)):=by
  exact Hand.kb hb9 Hand.k
 have h_R:w1.heap[w.heap.size+1+1]?=some (.cells #[.int .i64 0,.int .i64 0] 31 (0,0)):=by
  exact Hand.kb hb9 Hand.k
 have hB':Below w.heap.size w w1:=Hand.stepB hb9 Hand.b (Nat.le_refl _)
 clear hb9
 have g_A:=h_A
 have g_B:=h_B
 have g_R:=h_R
 have hB:=hB'
 clear hB' h_A h_B h_R
 obtain ⟨z_A,z1_A,z2_A,y0_A,y1_A⟩:=Hand.hz g_A
 obtain ⟨c_A_0,f_A_0,c_A_1,f_A_1⟩:=Hand.hc2 g_A
 obtain ⟨z_B,z1_B,z2_B,y0_B,y1_B⟩:=Hand.hz g_B
 obtain ⟨c_B_0,f_B_0,c_B_1,f_B_1⟩:=Hand.hc2 g_B
 obtain ⟨z_R,z1_R,z2_R,y0_R,y1_R⟩:=Hand.hz g_R
 obtain ⟨c_R_0,f_R_0,c_R_1,f_R_1⟩:=Hand.hc2 g_R
 have zw:w.heap.size≤w1.heap.size:=hB.size
 have HG:=Lib.hid (And.intro g_A (And.intro g_B (And.intro g_R (hB))))
 clear g_A g_B g_R hB
 go_wp2
 obtain ⟨g_A,g_B,g_R,hB⟩:=HG.out
 refine bodyPost_ret (results_ct rfl _ _ (w.heap.size+1+1) 31 #[.int .i64 0,.int .i64 0] (0,0) _ rfl ?_ Try.underlying31 rfl (by kernel_rfl)) rfl ⟨rfl,?_⟩
 ·simp (disch:=omega) only [Hand.q1,g_R];rfl
 ·exact (hB.setCell Hand.d _).setCell Hand.d _
theorem addR_any (a b c d:Int) (w:World) (ha0:-9223372036854775808≤a) (ha1:a≤9223372036854775807) (hb0:-9223372036854775808≤b) (hb1:b≤9223372036854775807)
  (hc0:-9223372036854775808≤c) (hc1:c≤9223372036854775807) (hd0:-9223372036854775808≤d) (hd1:d≤9223372036854775807) :
  Calls Try.prog 44 #[.agg #[.int .i64 a,.int .i64 b],.agg #[.int .i64 c,.int .i64 d]] w fun e w'=>e = .returned (.tuple #[.agg #[.int .i64 (addS a b c d).1,.int .i64 (addS a b c d).2.1],.int .i64 (addS a b c d).2.2])∧Below w.heap.size w w':=by
 unfold addS
 by_cases h:(rightS a b && rightS c d)=true
 ·rw [if_pos h]
  rw [Bool.and_eq_true] at h
  exact add_ok a b c d _ _ _ _ _ _ _ _ _ _ w h.1 h.2 rfl rfl rfl rfl rfl rfl rfl
 ·rw [if_neg h]
  exact add_bad a b c d w ha0 ha1 hb0 hb1 hc0 hc1 hd0 hd1 (by simpa using h)
def subS (a b c d:Int):Int × Int × Int:=if rightS a b && rightS c d then addS a b (-c) d else (0,0,12)
theorem sub_ok (a b c d x y z:Int) (w:World) (h1:rightS a b=true) (h2:rightS c d=true) (hs:addS a b (-c) d=(x,y,z)) :
  Calls Try.prog 43 #[.agg #[.int .i64 a,.int .i64 b],.agg #[.int .i64 c,.int .i64 d]] w fun e w'=>e = .returned (.tuple #[.agg #[.int .i64 x,.int .i64 y],.int .i64 z])∧Below w.heap.size w w':=by
 obtain ⟨b1,b2,b3,_⟩:=right_bounds h1
 obtain ⟨d1,d2,d3,_⟩:=right_bounds h2
 have ec:wrap64 (-c) = -c:=by unfold wrap64;omega
 have m1:∀ w,Calls Try.prog 44 #[.agg #[.int .i64 a,.int .i64 b],.agg #[.int .i64 (-c),.int .i64 d]] w fun e w'=>e = .returned (.tuple #[.agg #[.int .i64 x,.int .i64 y],.int .i64 z])∧Below w.heap.size w w':=fun w=>by
  have:=addR_any a b (-c) d w (by omega) (by omega) (by omega) (by omega) (by omega) (by omega) (by omega) (by omega)
  rw [hs] at this;exact this
 have rt:∀ g w,w.heap[g]?=some (.cells #[.int .i64 a,.int .i64 b,.int .i64 c,.int .i64 d] 31 (0,0)) → Calls Try.prog 81 #[.slice (some ⟨g,0,none⟩) 2 2] w fun e w'=>e = .returned (.bool true)∧Below w.heap.size w w':=fun g w hg=>by
  have:=right_two a b c d g w (by omega) (by omega) (by omega) (by omega) (by omega) (by omega) (by omega) (by omega) hg
  rw [h1,h2] at this;exact this
 have M1:=Lib.hid m1
 have RT:=Lib.hid rt
 clear m1 rt hs h1 h2
 go_enter Try.func43,Try.ntmps43
 go_wp2_with fail
 with_reducible refine (RT.out _ _ ?_).mono ?_
 ·simp (disch:=try exact Hand.z) only [Hand.q3]
 rintro e w1 ⟨rfl,hb1⟩
 have h_A:w1.heap[w.heap.size]?=some (.cells #[.int .i64 a,.int .i64 b] 31 (0,0)):=by
  exact Hand.kb hb1 Hand.k
 have h_B:w1.heap[w.heap.size+1]?=some (.cells #[.int .i64 c,.int .i64 d] 31 (0,0)):=by
  exact Hand.kb hb1 Hand.k
 have h_R:w1.heap[w.heap.size+1+1]?=some (.cells #[.int .i64 0,.int .i64 0] 31 (0,0)):=by
  exact Hand.kb hb1 Hand.k
 have hB':Below w.heap.size w w1:=Hand.stepB hb1 Hand.b (Nat.le_refl _)
 clear hb1
 have g_A:=h_A
 have g_B:=h_B
 have g_R:=h_R
 have hB:=hB'
 clear hB' h_A h_B h_R
 obtain ⟨z_A,z1_A,z2_A,y0_A,y1_A⟩:=Hand.hz g_A
 obtain ⟨c_A_0,f_A_0,c_A_1,f_A_1⟩:=Hand.hc2 g_A
 obtain ⟨z_B,z1_B,z2_B,y0_B,y1_B⟩:=Hand.hz g_B
 obtain ⟨c_B_0,f_B_0,c_B_1,f_B_1⟩:=Hand.hc2 g_B
 obtain ⟨z_R,z1_R,z2_R,y0_R,y1_R⟩:=Hand.hz g_R
 obtain ⟨c_R_0,f_R_0,c_R_1,f_R_1⟩:=Hand.hc2 g_R
 have zw:w.heap.size≤w1.heap.size:=hB.size
 have HG:=Lib.hid (And.intro g_A (And.intro g_B (And.intro g_R (hB))))
 clear g_A g_B g_R hB
 go_wp2_with fail
 with_reducible refine (M1.out _).mono ?_
 rintro e w2 ⟨rfl,hb2⟩
 obtain ⟨g_A,g_B,g_R,hB⟩:=HG.out
 have h_A:w2.heap[w.heap.size]?=some (.cells #[.int .i64 a,.int .i64 b] 31 (0,0)):=by
  refine Hand.kb hb2 ?_;first|with_reducible exact g_A|(simp (disch:=try exact Hand.z) only [Hand.q2,Hand.q1,Hand.q5,Hand.q6,Hand.q4,Hand.q3,g_A]<;>rfl)
 have h_B:w2.heap[w.heap.size+1]?=some (.cells #[.int .i64 (-c),.int .i64 d] 31 (0,0)):=by
  refine Hand.kb hb2 ?_;simp (disch:=try exact Hand.z) only [Hand.q2,Hand.q1,Hand.q5,Hand.q6,Hand.q4,Hand.q3,g_B]<;>rfl
 have h_R:w2.heap[w.heap.size+1+1]?=some (.cells #[.int .i64 0,.int .i64 0] 31 (0,0)):=by
  refine Hand.kb hb2 ?_;first|with_reducible exact g_R|(simp (disch:=try exact Hand.z) only [Hand.q2,Hand.q1,Hand.q5,Hand.q6,Hand.q4,Hand.q3,g_R]<;>rfl)
 have hB':Below w.heap.size w w2:=Hand.stepB hb2 Hand.b (Nat.le_refl _)
 clear HG hB g_A g_B g_R zw z_A z1_A z2_A y0_A y1_A c_A_0 f_A_0 c_A_1 f_A_1 z_B z1_B z2_B y0_B y1_B c_B_0 f_B_0 c_B_1 f_B_1 z_R z1_R z2_R y0_R y1_R c_R_0 f_R_0 c_R_1 f_R_1
 clear hb2
 have g_A:=h_A
 have g_B:=h_B
 have g_R:=h_R
 have hB:=hB'
 clear hB' h_A h_B h_R
 obtain ⟨z_A,z1_A,z2_A,y0_A,y1_A⟩:=Hand.hz g_A
 obtain ⟨c_A_0,f_A_0,c_A_1,f_A_1⟩:=Hand.hc2 g_A
 obtain ⟨z_B,z1_B,z2_B,y0_B,y1_B⟩:=Hand.hz g_B
 obtain ⟨c_B_0,f_B_0,c_B_1,f_B_1⟩:=Hand.hc2 g_B
 obtain ⟨z_R,z1_R,z2_R,y0_R,y1_R⟩:=Hand.hz g_R
 obtain ⟨c_R_0,f_R_0,c_R_1,f_R_1⟩:=Hand.hc2 g_R
 have zw:w.heap.size≤w2.heap.size:=hB.size
 have HG:=Lib.hid (And.intro g_A (And.intro g_B (And.intro g_R (hB))))
 clear g_A g_B g_R hB
 go_wp2
 obtain ⟨g_A,g_B,g_R,hB⟩:=HG.out
 refine bodyPost_ret (results_ct rfl _ _ (w.heap.size+1+1) 31 #[.int .i64 x,.int .i64 y] (0,0) _ rfl ?_ Try.underlying31 rfl (by kernel_rfl)) rfl ⟨rfl,?_⟩
 ·simp (disch:=omega) only [Hand.q1,g_R];rfl
 ·exact (hB.setCell Hand.d _).setCell Hand.d _
theorem sub_bad (a b c d:Int) (w:World) (ha0:-9223372036854775808≤a) (ha1:a≤9223372036854775807) (hb0:-9223372036854775808≤b) (hb1:b≤9223372036854775807)
  (hc0:-9223372036854775808≤c) (hc1:c≤9223372036854775807) (hd0:-9223372036854775808≤d) (hd1:d≤9223372036854775807) (h:(rightS a b && rightS c d)=false) :
  Calls Try.prog 43 #[.agg #[.int .i64 a,.int .i64 b],.agg #[.int .i64 c,.int .i64 d]] w fun e w'=>e = .returned (.tuple #[.agg #[.int .i64 0,.int .i64 0],.int .i64 12])∧Below w.heap.size w w':=by
 have rt:∀ g w,w.heap[g]?=some (.cells #[.int .i64 a,.int .i64 b,.int .i64 c,.int .i64 d] 31 (0,0)) → Calls Try.prog 81 #[.slice (some ⟨g,0,none⟩) 2 2] w fun e w'=>e = .returned (.bool false)∧Below w.heap.size w w':=fun g w hg=>by
  have:=right_two a b c d g w ha0 ha1 hb0 hb1 hc0 hc1 hd0 hd1 hg
  rw [h] at this;exact this
 have RT:=Lib.hid rt
 clear rt h
 go_enter Try.func43,Try.ntmps43
 go_wp2_with fail
 with_reducible refine (RT.out _ _ ?_).mono ?_
 ·simp (disch:=try exact Hand.z) only [Hand.q3]
 rintro e w1 ⟨rfl,hb9⟩
 have h_A:w1.heap[w.heap.size]?=some (.cells #[.int .i64 a,.int .i64 b] 31 (0,0)):=by
  exact Hand.kb hb9 Hand.k
 have h_B:w1.heap[w.heap.size+1]?=some (.cells #[.int .i64 c,.int .i64 d] 31 (0,0)):=by
  exact Hand.kb hb9 Hand.k
 have h_R:w1.heap[w.heap.size+1+1]?=some (.cells #[.int .i64 0,.int .i64 0] 31 (0,0)):=by
  exact Hand.kb hb9 Hand.k
 have hB':Below w.heap.size w w1:=Hand.stepB hb9 Hand.b (Nat.le_refl _)
 clear hb9
 have g_A:=h_A
 have g_B:=h_B
 have g_R:=h_R
 have hB:=hB'
 clear hB' h_A h_B h_R
 obtain ⟨z_A,z1_A,z2_A,y0_A,y1_A⟩:=Hand.hz g_A
 obtain ⟨c_A_0,f_A_0,c_A_1,f_A_1⟩:=Hand.hc2 g_A
 obtain ⟨z_B,z1_B,z2_B,y0_B,y1_B⟩:=Hand.hz g_B
 obtain ⟨c_B_0,f_B_0,c_B_1,f_B_1⟩:=Hand.hc2 g_B
 obtain ⟨z_R,z1_R,z2_R,y0_R,y1_R⟩:=Hand.hz g_R
 obtain ⟨c_R_0,f_R_0,c_R_1,f_R_1⟩:=Hand.hc2 g_R
 have zw:w.heap.size≤w1.heap.size:=hB.size
 have HG:=Lib.hid (And.intro g_A (And.intro g_B (And.intro g_R (hB))))
 clear g_A g_B g_R hB
 go_wp2
 obtain ⟨g_A,g_B,g_R,hB⟩:=HG.out
 refine bodyPost_ret (results_ct rfl _ _ (w.heap.size+1+1) 31 #[.int .i64 0,.int .i64 0] (0,0) _ rfl ?_ Try.underlying31 rfl (by kernel_rfl)) rfl ⟨rfl,?_⟩
 ·simp (disch:=omega) only [Hand.q1,g_R];rfl
 ·exact (hB.setCell Hand.d _).setCell Hand.d _
theorem subR_any (a b c d:Int) (w:World) (ha0:-9223372036854775808≤a) (ha1:a≤9223372036854775807) (hb0:-9223372036854775808≤b) (hb1:b≤9223372036854775807)
  (hc0:-9223372036854775808≤c) (hc1:c≤9223372036854775807) (hd0:-9223372036854775808≤d) (hd1:d≤9223372036854775807) :
  Calls Try.prog 43 #[.agg #[.int .i64 a,.int .i64 b],.agg #[.int .i64 c,.int .i64 d]] w fun e w'=>e = .returned (.tuple #[.agg #[.int .i64 (subS a b c d).1,.int .i64 (subS a b c d).2.1],.int .i64 (subS a b c d).2.2])∧Below w.heap.size w w':=by
 unfold subS
 by_cases h:(rightS a b && rightS c d)=true
 ·rw [if_pos h]
  rw [Bool.and_eq_true] at h
  exact sub_ok a b c d _ _ _ w h.1 h.2 rfl
 ·rw [if_neg h]
  exact sub_bad a b c d w ha0 ha1 hb0 hb1 hc0 hc1 hd0 hd1 (by simpa using h)
end Go.Proofs.Ythlpaglldhgmfaa.PA
namespace Go.Proofs.Ythlpaglldhgmfaa.PA
def T3 (x:Rat):Int × Int × Int:=if x.num.natAbs≤4611686018427387904∧x.den≤2147483648 then (x.num,(x.den:Int),0) else (0,0,12)
def qv (n d:Int):Rat:=mkRat n d.toNat
theorem fitS_T3 (neg:Bool) (n d:Nat) (hd:0<d):fitS neg n d=T3 (mkRat (if neg then -(n:Int) else (n:Int)) d):=by
 have hna:(if neg then -(n:Int) else (n:Int)).natAbs=n:=by cases neg<;>simp
 have h1:(mkRat (if neg then -(n:Int) else (n:Int)) d).den=d / Nat.gcd n d:=by
  rw [Rat.den_mkRat,if_neg (by omega),hna,Nat.gcd_comm]
 have h2:(mkRat (if neg then -(n:Int) else (n:Int)) d).num=(if neg then -((n / Nat.gcd n d:Nat):Int) else ((n / Nat.gcd n d:Nat):Int)):=by
  rw [Rat.num_mkRat,if_neg (by omega),hna,Nat.gcd_comm]
  cases neg
  ·simp
  ·simp only [if_true]
   rw [Int.neg_ediv_of_dvd (by exact_mod_cast Nat.gcd_dvd_left n d)]
   simp
 have h3:(mkRat (if neg then -(n:Int) else (n:Int)) d).num.natAbs=n / Nat.gcd n d:=by
  rw [h2];cases neg
  ·exact Int.natAbs_natCast _
  ·rw [if_pos rfl,Int.natAbs_neg];exact Int.natAbs_natCast _
 unfold fitS T3
 rw [h3,h1,h2]
theorem rightS_iff {n d:Int}:rightS n d=true ↔ 1≤d∧d≤2147483648∧n.natAbs≤4611686018427387904∧Nat.gcd n.natAbs d.natAbs=1:=by
 constructor
 ·exact right_bounds
 ·rintro ⟨h1,h2,h3,h4⟩
  unfold rightS newS
  rw [if_neg (by omega)]
  unfold fitS
  rw [h4,Nat.div_one,Nat.div_one,if_pos ⟨h3,by omega⟩]
  simp only [Bool.and_eq_true,decide_eq_true_eq,Prod.mk.injEq,and_true]
  refine ⟨h1,?_,by omega⟩
  by_cases hn:n<0
  ·rw [decide_eq_true hn,decide_eq_false (by omega:¬ d<0)];simp;omega
  ·rw [decide_eq_false hn,decide_eq_false (by omega:¬ d<0)];simp;omega
theorem T3_right {n d:Int} (h:rightS n d=true):(qv n d).num=n∧((qv n d).den:Int)=d:=by
 obtain ⟨h1,h2,h3,h4⟩:=rightS_iff.mp h
 have hd:d.toNat≠0:=by omega
 have e:d.toNat=d.natAbs:=by omega
 unfold qv
 rw [Rat.num_mkRat,Rat.den_mkRat,if_neg hd,if_neg hd,e,Nat.gcd_comm,h4]
 simp;omega
theorem T3_q {n d:Int} (h:rightS n d=true):T3 (qv n d)=(n,d,0):=by
 obtain ⟨h1,h2,h3,h4⟩:=rightS_iff.mp h
 obtain ⟨a,b⟩:=T3_right h
 unfold T3
 rw [a,b,if_pos ⟨h3,by omega⟩]
theorem T3_ok {x:Rat} {n d:Int} (h:T3 x=(n,d,0)):rightS n d=true∧qv n d=x:=by
 unfold T3 at h
 split at h
 ·rename_i hc
  simp only [Prod.mk.injEq,and_true] at h
  obtain ⟨rfl,rfl⟩:=h
  have:=x.den_pos
  have hr:Nat.gcd x.num.natAbs x.den=1:=x.reduced
  refine ⟨rightS_iff.mpr ⟨by omega,by omega,hc.1,by simpa using hr⟩,?_⟩
  unfold qv
  rw [Int.toNat_natCast,Rat.mkRat_self]
 ·simp at h
theorem qv_inj {a b c d:Int} (h:rightS a b=true) (h':rightS c d=true) (e:qv a b=qv c d):a=c∧b=d:=by
 have h1:=T3_q h;have h2:=T3_q h'
 rw [e,h2] at h1
 simp only [Prod.mk.injEq,and_true] at h1
 exact ⟨h1.1.symm,h1.2.symm⟩
theorem mkRat_qv (n:Int) (d:Nat):mkRat n d=qv n d:=by unfold qv;rw [Int.toNat_natCast]
theorem qv_div {n d:Int} (h:0<d):qv n d=(n:Rat) / (d:Rat):=by
 unfold qv
 rw [Rat.mkRat_eq_div]
 congr 1
 have:((d.toNat:Nat):Int)=d:=by omega
 rw [← this];rfl
theorem sgn_abs (n:Int):(if decide (n<0)=true then -(n.natAbs:Int) else (n.natAbs:Int))=n:=by
 by_cases h:n<0
 ·rw [decide_eq_true h];simp;omega
 ·rw [decide_eq_false h];simp;omega
theorem cast_ne {d:Int} (h:d≠0):(d:Rat)≠0:=by simpa using h
theorem sgn_mul (a c:Int):(if (decide (a<0) != decide (c<0))=true then -((a.natAbs*c.natAbs:Nat):Int) else ((a.natAbs*c.natAbs:Nat):Int))=a*c:=by
 by_cases h1:a<0<;>by_cases h2:c<0<;>simp only [h1,h2,decide_true,decide_false,bne_self_eq_false,Bool.false_eq_true,if_false,if_true,Bool.true_bne,Bool.not_false,Bool.false_bne,Int.natCast_mul]
 ·rw [show ((a.natAbs:Nat):Int) = -a by omega,show ((c.natAbs:Nat):Int) = -c by omega];grind
 ·rw [show ((a.natAbs:Nat):Int) = -a by omega,show ((c.natAbs:Nat):Int)=c by omega];grind
 ·rw [show ((a.natAbs:Nat):Int)=a by omega,show ((c.natAbs:Nat):Int) = -c by omega];grind
 ·rw [show ((a.natAbs:Nat):Int)=a by omega,show ((c.natAbs:Nat):Int)=c by omega]
theorem mulS_T3 {a b c d:Int} (h:rightS a b=true) (h':rightS c d=true):mulS a b c d=T3 (qv a b*qv c d):=by
 obtain ⟨b1,_⟩:=right_bounds h
 obtain ⟨d1,_⟩:=right_bounds h'
 unfold mulS
 rw [if_pos (by rw [h,h'];rfl),fitS_T3 _ _ _ (Nat.mul_pos (by omega) (by omega)),sgn_mul]
 congr 1
 rw [mkRat_qv,qv_div (by rw [Int.natCast_mul];exact Int.mul_pos (by omega) (by omega)),qv_div (by omega),qv_div (by omega),Int.natCast_mul,show ((b.natAbs:Nat):Int)=b by omega,show ((d.natAbs:Nat):Int)=d by omega]
 have hb:=cast_ne (show b≠0 by omega)
 have hd:=cast_ne (show d≠0 by omega)
 push_cast
 rw [Rat.div_def,Rat.div_def,Rat.div_def,Rat.inv_mul_rev]
 grind
theorem divS_T3 {a b c d:Int} (h:rightS a b=true) (h':rightS c d=true) (hc:c≠0):divS a b c d=T3 (qv a b / qv c d):=by
 obtain ⟨b1,_⟩:=right_bounds h
 obtain ⟨d1,_⟩:=right_bounds h'
 unfold divS
 rw [if_pos (by rw [h,h'];rfl),if_neg hc,fitS_T3 _ _ _ (Nat.mul_pos (by omega) (by omega))]
 congr 1
 have e:(if (decide (a<0) != decide (c<0))=true then -((a.natAbs*d.natAbs:Nat):Int) else ((a.natAbs*d.natAbs:Nat):Int))=if c<0 then -(a*d) else a*d:=by
  have:=sgn_mul a c
  by_cases h1:a<0<;>by_cases h2:c<0<;>simp only [h1,h2,decide_true,decide_false,bne_self_eq_false,Bool.false_eq_true,if_false,if_true,Bool.true_bne,Bool.not_false,Bool.false_bne,Int.natCast_mul]
  ·rw [show ((a.natAbs:Nat):Int) = -a by omega,show ((d.natAbs:Nat):Int)=d by omega];grind
  ·rw [show ((a.natAbs:Nat):Int) = -a by omega,show ((d.natAbs:Nat):Int)=d by omega];grind
  ·rw [show ((a.natAbs:Nat):Int)=a by omega,show ((d.natAbs:Nat):Int)=d by omega]
  ·rw [show ((a.natAbs:Nat):Int)=a by omega,show ((d.natAbs:Nat):Int)=d by omega]
 rw [e,mkRat_qv,qv_div (by rw [Int.natCast_mul];exact Int.mul_pos (by omega) (by omega)),qv_div (by omega),qv_div (by omega),Int.natCast_mul,show ((b.natAbs:Nat):Int)=b by omega]
 have hb:=cast_ne (show b≠0 by omega)
 have hd:=cast_ne (show d≠0 by omega)
 have hcr:=cast_ne hc
 by_cases h2:c<0
 ·rw [if_pos h2,show ((c.natAbs:Nat):Int) = -c by omega];push_cast;grind
 ·rw [if_neg h2,show ((c.natAbs:Nat):Int)=c by omega];push_cast;grind
theorem sumS_val (sa sc:Bool) (p q:Nat):(if (sumS sa sc p q).1=true then -((sumS sa sc p q).2:Int) else ((sumS sa sc p q).2:Int))=(if sa=true then -(p:Int) else p)+(if sc=true then -(q:Int) else q):=by
 unfold sumS
 cases sa<;>cases sc<;>simp only [if_true,Bool.false_eq_true,if_false,Bool.true_eq_false]
 ·omega
 ·by_cases h:p<q
  ·rw [if_pos h];simp only [if_true];omega
  ·rw [if_neg h];simp only [Bool.false_eq_true,if_false];omega
 ·by_cases h:p<q
  ·rw [if_pos h];simp only [Bool.false_eq_true,if_false];omega
  ·rw [if_neg h];simp only [if_true];omega
 ·omega
theorem sgn_pos (a d:Int) (hd:0≤d):(if decide (a<0)=true then -((a.natAbs*d.natAbs:Nat):Int) else ((a.natAbs*d.natAbs:Nat):Int))=a*d:=by
 rw [Int.natCast_mul,show ((d.natAbs:Nat):Int)=d by omega]
 by_cases h:a<0
 ·rw [decide_eq_true h,if_pos rfl,show ((a.natAbs:Nat):Int) = -a by omega];grind
 ·rw [decide_eq_false h,if_neg (by simp),show ((a.natAbs:Nat):Int)=a by omega]
theorem addS_T3 {a b c d:Int} (h:rightS a b=true) (h':rightS c d=true):addS a b c d=T3 (qv a b+qv c d):=by
 obtain ⟨b1,_⟩:=right_bounds h
 obtain ⟨d1,_⟩:=right_bounds h'
 unfold addS
 rw [if_pos (by rw [h,h'];rfl),fitS_T3 _ _ _ (Nat.mul_pos (by omega) (by omega)),sumS_val,sgn_pos _ _ (by omega),sgn_pos _ _ (by omega)]
 congr 1
 rw [mkRat_qv,qv_div (by rw [Int.natCast_mul];exact Int.mul_pos (by omega) (by omega)),qv_div (by omega),qv_div (by omega),Int.natCast_mul,show ((b.natAbs:Nat):Int)=b by omega,show ((d.natAbs:Nat):Int)=d by omega]
 have hb:=cast_ne (show b≠0 by omega)
 have hd:=cast_ne (show d≠0 by omega)
 push_cast
 grind
theorem rightS_neg {c d:Int}:rightS (-c) d=rightS c d:=by
 rw [Bool.eq_iff_iff,rightS_iff,rightS_iff,Int.natAbs_neg]
theorem qv_neg {c d:Int} (h:0<d):qv (-c) d = - qv c d:=by
 rw [qv_div h,qv_div h];push_cast;grind
theorem subS_T3 {a b c d:Int} (h:rightS a b=true) (h':rightS c d=true):subS a b c d=T3 (qv a b - qv c d):=by
 obtain ⟨d1,_⟩:=right_bounds h'
 unfold subS
 rw [if_pos (by rw [h,h'];rfl),addS_T3 h (by rw [rightS_neg];exact h'),qv_neg (by omega)]
 congr 1
 grind
theorem bad2 {a b c d:Int} (h:(rightS a b && rightS c d)=false):addS a b c d=(0,0,12)∧subS a b c d=(0,0,12)∧mulS a b c d=(0,0,12)∧divS a b c d=(0,0,12):=by
 unfold addS subS mulS divS
 rw [h]
 exact ⟨rfl,rfl,rfl,rfl⟩
theorem cmpN_int (X Y:Nat):cmpN X Y=if (X:Int)=Y then 0 else if (X:Int)<Y then -1 else 1:=by
 unfold cmpN
 by_cases h:X=Y
 ·subst h;simp
 ·by_cases h2:X<Y
  ·rw [if_neg h,if_pos h2,if_neg (by omega),if_pos (by omega)]
  ·rw [if_neg h,if_neg h2,if_neg (by omega),if_neg (by omega)]
theorem cmpS_eq {a b c d:Int} (hb:0<b) (hd:0<d):cmpS a b c d=if a*d=c*b then 0 else if a*d<c*b then -1 else 1:=by
 unfold cmpS
 rw [cmpN_int,Int.natCast_mul,Int.natCast_mul,show ((b.natAbs:Nat):Int)=b by omega,show ((d.natAbs:Nat):Int)=d by omega]
 by_cases h1:a<0<;>by_cases h2:c<0
 ·rw [decide_eq_true h1,decide_eq_true h2,if_pos (by rfl),if_pos h1,show ((a.natAbs:Nat):Int) = -a by omega,show ((c.natAbs:Nat):Int) = -c by omega]
  rw [Int.neg_mul,Int.neg_mul]
  generalize a*d=x;generalize c*b=y
  by_cases e:x=y
  ·subst e;simp
  ·by_cases e2:x<y
   ·rw [if_neg (by omega),if_neg (by omega),if_neg e,if_pos e2]
   ·rw [if_neg (by omega),if_pos (by omega),if_neg e,if_neg e2];rfl
 ·rw [decide_eq_true h1,decide_eq_false h2,if_neg (by simp),if_pos h1]
  have x1:a*d<0:=Int.mul_neg_of_neg_of_pos h1 hd
  have x2:0≤c*b:=Int.mul_nonneg (by omega) (by omega)
  rw [if_neg (by omega),if_pos (by omega)]
 ·rw [decide_eq_false h1,decide_eq_true h2,if_neg (by simp),if_neg h1]
  have x1:c*b<0:=Int.mul_neg_of_neg_of_pos h2 hb
  have x2:0≤a*d:=Int.mul_nonneg (by omega) (by omega)
  rw [if_neg (by omega),if_neg (by omega)]
 ·rw [decide_eq_false h1,decide_eq_false h2,if_pos (by rfl),if_neg h1,show ((a.natAbs:Nat):Int)=a by omega,show ((c.natAbs:Nat):Int)=c by omega]
theorem qv_lt {a b c d:Int} (h:rightS a b=true) (h':rightS c d=true):qv a b<qv c d ↔ a*d<c*b:=by
 rw [Rat.lt_iff,(T3_right h).1,(T3_right h).2,(T3_right h').1,(T3_right h').2]
theorem qv_eq {a b c d:Int} (h:rightS a b=true) (h':rightS c d=true):qv a b=qv c d ↔ a*d=c*b:=by
 constructor
 ·intro e
  obtain ⟨rfl,rfl⟩:=qv_inj h h' e
  rfl
 ·intro e
  have h1:=qv_lt h h'
  have h2:=qv_lt h' h
  rcases (show qv a b<qv c d ∨ qv a b=qv c d ∨ qv c d<qv a b by grind) with x|x|x
  ·have:=h1.mp x;omega
  ·exact x
  ·have:=h2.mp x;omega
theorem cmpS_q {a b c d:Int} (h:rightS a b=true) (h':rightS c d=true):cmpS a b c d=if qv a b=qv c d then 0 else if qv a b<qv c d then -1 else 1:=by
 rw [cmpS_eq (by have:=right_bounds h;omega) (by have:=right_bounds h';omega)]
 simp only [qv_eq h h',qv_lt h h']
theorem addS_ok {a b c d x y:Int} (h:addS a b c d=(x,y,0)):rightS a b=true∧rightS c d=true∧rightS x y=true∧qv x y=qv a b+qv c d:=by
 by_cases hr:(rightS a b && rightS c d)=true
 ·rw [Bool.and_eq_true] at hr
  rw [addS_T3 hr.1 hr.2] at h
  obtain ⟨h1,h2⟩:=T3_ok h
  exact ⟨hr.1,hr.2,h1,h2⟩
 ·rw [(bad2 (by simpa using hr)).1] at h;simp at h
theorem subS_ok {a b c d x y:Int} (h:subS a b c d=(x,y,0)):rightS a b=true∧rightS c d=true∧rightS x y=true∧qv x y=qv a b - qv c d:=by
 by_cases hr:(rightS a b && rightS c d)=true
 ·rw [Bool.and_eq_true] at hr
  rw [subS_T3 hr.1 hr.2] at h
  obtain ⟨h1,h2⟩:=T3_ok h
  exact ⟨hr.1,hr.2,h1,h2⟩
 ·rw [(bad2 (by simpa using hr)).2.1] at h;simp at h
theorem mulS_ok {a b c d x y:Int} (h:mulS a b c d=(x,y,0)):rightS a b=true∧rightS c d=true∧rightS x y=true∧qv x y=qv a b*qv c d:=by
 by_cases hr:(rightS a b && rightS c d)=true
 ·rw [Bool.and_eq_true] at hr
  rw [mulS_T3 hr.1 hr.2] at h
  obtain ⟨h1,h2⟩:=T3_ok h
  exact ⟨hr.1,hr.2,h1,h2⟩
 ·rw [(bad2 (by simpa using hr)).2.2.1] at h;simp at h
theorem divS_ok {a b c d x y:Int} (h:divS a b c d=(x,y,0)):rightS a b=true∧rightS c d=true∧c≠0∧rightS x y=true∧qv x y=qv a b / qv c d:=by
 by_cases hr:(rightS a b && rightS c d)=true
 ·rw [Bool.and_eq_true] at hr
  by_cases hc:c=0
  ·subst hc;unfold divS at h;rw [if_pos (by rw [hr.1,hr.2];rfl),if_pos rfl] at h;simp at h
  ·rw [divS_T3 hr.1 hr.2 hc] at h
   obtain ⟨h1,h2⟩:=T3_ok h
   exact ⟨hr.1,hr.2,hc,h1,h2⟩
 ·rw [(bad2 (by simpa using hr)).2.2.2] at h;simp at h
theorem add_assoc {a b c d e f x y u v:Int} (h:addS a b c d=(x,y,0)) (h':addS c d e f=(u,v,0)):addS x y e f=addS a b u v:=by
 obtain ⟨h1,h2,h3,h4⟩:=addS_ok h
 obtain ⟨k1,k2,k3,k4⟩:=addS_ok h'
 rw [addS_T3 h3 k2,addS_T3 h1 k3,h4,k4];congr 1;grind
theorem cmpS_le {a b c d:Int} (h:rightS a b=true) (h':rightS c d=true):cmpS a b c d≤0 ↔ qv a b≤qv c d:=by
 rw [cmpS_q h h']
 by_cases e:qv a b=qv c d
 ·rw [if_pos e,e];constructor<;>intro _<;>first|omega|grind
 ·by_cases l:qv a b<qv c d
  ·rw [if_neg e,if_pos l];constructor<;>intro _<;>first|omega|grind
  ·rw [if_neg e,if_neg l];constructor<;>intro _<;>first|omega|grind
end Go.Proofs.Ythlpaglldhgmfaa.PA
