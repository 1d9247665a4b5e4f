/- The wide numbers' calls, told of natural numbers below 2^128. common, fit, New, Right: ratios in lowest terms. fit, New, Right. fit, New, Right. New, Right, right. -/
import Derived.Test.YthlpaglldhgmfaaPAx4
import Derived.Deep.RegionHeld3
import Derived.Deep.RegionWith
set_option maxHeartbeats 4000000
set_option maxRecDepth 100000
namespace Go.Proofs.Ythlpaglldhgmfaa.PA
open Go.RowKit Go.Proofs.YthlpaglldhgmfaaW.PrintWords Go.Proofs.YthlpaglldhgmfaaW.PrintLast Go.Proofs.YthlpaglldhgmfaaW.PrintMore
theorem hiN_ok {x:Nat} (h:x<340282366920938463463374607431768211456):u64ok (hiN x)=true:=by rw [u64ok_iff];unfold hiN;omega
theorem loN_ok (x:Nat):u64ok (loN x)=true:=by rw [u64ok_iff];unfold loN;omega
theorem wvN_hl (x:Nat):wvN (hiN x) (loN x)=x:=by unfold wvN hiN loN;omega
theorem hiN_small {x:Nat} (h:x<18446744073709551616):hiN x=0:=by unfold hiN;omega
theorem loN_small {x:Nat} (h:x<18446744073709551616):loN x=(x:Int):=by unfold loN;omega
theorem over_any (X Y:Nat) (hX:X<340282366920938463463374607431768211456) (hY0:0<Y) (hY:Y<340282366920938463463374607431768211456) (w:World) :
  Calls Try.prog 109 #[.agg #[.int .u64 (hiN X),.int .u64 (loN X)],.agg #[.int .u64 (hiN Y),.int .u64 (loN Y)]] w fun e w' =>
   e = .returned (.tuple #[.agg #[.int .u64 (hiN (X / Y)),.int .u64 (loN (X / Y))],.agg #[.int .u64 (hiN (X % Y)),.int .u64 (loN (X % Y))]])∧Below w.heap.size w w' :=
 ratio_wide_over.calls _ _ _ _ _ _ _ _ w (by
  unfold ratio_wide_over.f
  rw [if_pos ⟨hiN_ok hX,loN_ok X,hiN_ok hY,loN_ok Y,by rw [wvN_hl];omega⟩,wvN_hl,wvN_hl])
theorem plus_any (X Y:Nat) (h:X+Y<340282366920938463463374607431768211456) (w:World) :
  Calls Try.prog 82 #[.agg #[.int .u64 (hiN X),.int .u64 (loN X)],.agg #[.int .u64 (hiN Y),.int .u64 (loN Y)]] w fun e w' =>
   e = .returned (.agg #[.int .u64 (hiN (X+Y)),.int .u64 (loN (X+Y))])∧Below w.heap.size w w' :=
 ratio_wide_plus.calls _ _ _ _ _ _ w (by
  unfold ratio_wide_plus.f
  rw [if_pos (by unfold hiN loN hi64;omega)]
  unfold hiN loN hi64 lo64
  congr 2<;>omega)
theorem minus_any (X Y:Nat) (hX:X<340282366920938463463374607431768211456) (h:Y≤X) (w:World) :
  Calls Try.prog 83 #[.agg #[.int .u64 (hiN X),.int .u64 (loN X)],.agg #[.int .u64 (hiN Y),.int .u64 (loN Y)]] w fun e w' =>
   e = .returned (.agg #[.int .u64 (hiN (X - Y)),.int .u64 (loN (X - Y))])∧Below w.heap.size w w' :=
 ratio_wide_minus.calls _ _ _ _ _ _ w (ov_minus h hX)
def cmpN (X Y:Nat):Int:=if X=Y then 0 else if X<Y then -1 else 1
theorem cmp_any (X Y:Nat) (w:World) :
  Calls Try.prog 52 #[.agg #[.int .u64 (hiN X),.int .u64 (loN X)],.agg #[.int .u64 (hiN Y),.int .u64 (loN Y)]] w fun e w' =>
   e = .returned (.int .i64 (cmpN X Y))∧Below w.heap.size w w' :=
 ratio_wide_cmp.calls _ _ _ _ _ w (by
  unfold ratio_wide_cmp.f
  rw [ov_cmp]
  unfold cmpN
  by_cases h:X=Y
  ·subst h;simp
  ·by_cases h2:X<Y
   ·rw [if_neg (by omega:¬ Y≤X),if_neg h,if_pos h2]
   ·rw [if_pos (by omega:Y≤X),if_neg h,if_neg h,if_neg h2])
theorem mul_any (x y:Nat) (hx:x<18446744073709551616) (hy:y<18446744073709551616) (w:World) :
  Calls Try.prog 50 #[.int .u64 (x:Int),.int .u64 (y:Int)] w fun e w' =>
   e = .returned (.agg #[.int .u64 (hiN (x*y)),.int .u64 (loN (x*y))])∧Below w.heap.size w w' :=
 ratio_mul.calls _ _ _ _ w (by
  unfold ratio_mul.f bits_Mul64.f
  rw [if_pos (by simp only [u64ok_iff];omega)]
  simp only [Option.bind_some,hiN,loN,Int.natCast_ediv,Int.natCast_emod,Int.natCast_mul]
  rfl)
theorem small_any (x:Nat) (hx:x<18446744073709551616) (w:World) :
  Calls Try.prog 87 #[.int .u64 (x:Int)] w fun e w' =>
   e = .returned (.agg #[.int .u64 (hiN x),.int .u64 (loN x)])∧Below w.heap.size w w' :=
 ratio_small.calls _ _ _ w (by unfold ratio_small.f;rw [hiN_small hx,loN_small hx])
theorem size_any (n:Int) (h0:-9223372036854775808≤n) (h1:n≤9223372036854775807) (w:World) :
  Calls Try.prog 51 #[.int .i64 n] w fun e w'=>e = .returned (.int .u64 (n.natAbs:Int))∧Drawn0 w w' :=
 ratio_size.calls _ _ w (by
  unfold ratio_size.f
  by_cases h:n<0
  ·rw [if_pos h];simp only [U64.wrap_u64,wrap64];congr 1;omega
  ·rw [if_neg h];simp only [U64.wrap_u64];congr 1;omega)
end Go.Proofs.Ythlpaglldhgmfaa.PA
namespace Go.Proofs.Ythlpaglldhgmfaa.PA
open Go.RowKit Go.Proofs.YthlpaglldhgmfaaW.PrintWords Go.Proofs.YthlpaglldhgmfaaW.PrintLast Go.Proofs.YthlpaglldhgmfaaW.PrintMore
attribute [local go_sem high] eqA85
theorem hl_zero {b:Nat} (h:b≠0):(hiN b == 0 && loN b == 0)=false:=by
 have:¬ (hiN b=0∧loN b=0):=by unfold hiN loN;omega
 simpa using this
theorem alloc3 (w:World) (o1 o2 o3:Obj):(((w.alloc o1).alloc o2).alloc o3).heap[w.heap.size]?=some o1∧(((w.alloc o1).alloc o2).alloc o3).heap[w.heap.size+1]?=some o2∧(((w.alloc o1).alloc o2).alloc o3).heap[w.heap.size+1+1]?=some o3:=by
 refine ⟨?_,?_,?_⟩
 ·simp (disch:=first|omega|(simp only [World.size_alloc];done)|(simp only [World.size_alloc];omega)) only [Hand.q4,Hand.q3]
 ·simp (disch:=first|omega|(simp only [World.size_alloc];done)|(simp only [World.size_alloc];omega)) only [Hand.q4,Hand.q3]
 ·simp (disch:=first|omega|(simp only [World.size_alloc];done)|(simp only [World.size_alloc];omega)) only [Hand.q3]
theorem common_any (X Y:Nat) (hX:X<340282366920938463463374607431768211456) (hY:Y<340282366920938463463374607431768211456) (w:World) :
  Calls Try.prog 108 #[.agg #[.int .u64 (hiN X),.int .u64 (loN X)],.agg #[.int .u64 (hiN Y),.int .u64 (loN Y)]] w fun e w' =>
   e = .returned (.agg #[.int .u64 (hiN (Nat.gcd X Y)),.int .u64 (loN (Nat.gcd X Y))])∧Below w.heap.size w w':=by
 go_enter Try.func108,Try.ntmps108
 go_wp2
 go_loopg [5] Y (fun b _ wr=>∃ a:Nat,a<340282366920938463463374607431768211456∧b<340282366920938463463374607431768211456∧Nat.gcd a b=Nat.gcd X Y ∧
   wr.heap[w.heap.size]?=some (.cells #[.int .u64 (hiN a),.int .u64 (loN a)] 85 (0,0)) ∧
   wr.heap[w.heap.size+1]?=some (.cells #[.int .u64 (hiN b),.int .u64 (loN b)] 85 (0,0)) ∧
   wr.heap[w.heap.size+1+1]?=some (.cells #[.int .u64 0,.int .u64 0] 85 (0,0))∧Below w.heap.size w wr)
 case atStart =>
  obtain ⟨a1,a2,a3⟩:=alloc3 w (.cells #[.int .u64 (hiN X),.int .u64 (loN X)] 85) (.cells #[.int .u64 (hiN Y),.int .u64 (loN Y)] 85) (.cells #[.int .u64 0,.int .u64 0] 85)
  exact ⟨X,hX,hY,rfl,a1,a2,a3,((((Below.refl _ _).alloc (Nat.le_refl _) _).alloc (by simp) _).alloc (by simp;omega) _)⟩
 case round =>
  obtain ⟨a,ha,hb,hg,b0,b1,b2,hB⟩:=hrel
  have sz:=World.block_lt_of_cell? wr _ (Hand.cell_of b2 0 _ rfl)
  have c0:=Hand.cell_of b0 0 (.int .u64 (hiN a)) rfl
  have c1:=Hand.cell_of b0 1 (.int .u64 (loN a)) rfl
  have c2:=Hand.cell_of b1 0 (.int .u64 (hiN gk)) rfl
  have c3:=Hand.cell_of b1 1 (.int .u64 (loN gk)) rfl
  have c4:=Hand.cell_of b2 0 (.int .u64 0) rfl
  have c5:=Hand.cell_of b2 1 (.int .u64 0) rfl
  have f0:=Hand.free_of b0 0
  have f1:=Hand.free_of b0 1
  have f2:=Hand.free_of b1 0
  have f3:=Hand.free_of b1 1
  have f4:=Hand.free_of b2 0
  have f5:=Hand.free_of b2 1
  have HG:=Lib.hid (And.intro hg (And.intro b0 (And.intro b1 (And.intro b2 hB))))
  clear hg b0 b1 b2 hB
  by_cases h:gk=0
  ·subst h
   have z0:hiN 0=0:=rfl
   have z1:loN 0=0:=rfl
   go_wp2
   obtain ⟨hg,b0,b1,b2,hB⟩:=HG.out
   rw [Nat.gcd_zero_right] at hg
   subst hg
   refine bodyPost_ret (results_cell_row rfl _ _ (w.heap.size+1+1) 85 #[.int .u64 (hiN (Nat.gcd X Y)),.int .u64 (loN (Nat.gcd X Y))] (0,0) _ rfl ?_ Try.underlying85 rfl (by kernel_rfl)) rfl ⟨rfl,?_⟩
   ·simp (disch:=omega) only [Hand.q1,b2];rfl
   ·exact (hB.setCell Hand.d _).setCell Hand.d _
  ·have hz:=hl_zero h
   go_wp2_with fail
   refine (over_any a gk ha (by omega) hb wr).mono ?_
   rintro e w1 ⟨rfl,hb1⟩
   obtain ⟨hg,b0,b1,b2,hB⟩:=HG.out
   have m0:=(Hand.hp_below hb1 (show w.heap.size<wr.heap.size by omega)).trans b0
   have m1:=(Hand.hp_below hb1 (show w.heap.size+1<wr.heap.size by omega)).trans b1
   have m2:=(Hand.hp_below hb1 (show w.heap.size+1+1<wr.heap.size by omega)).trans b2
   have hB1:Below w.heap.size w w1:=hB.trans (hb1.mono (by omega))
   have sz1:w.heap.size+1+1<w1.heap.size:=World.block_lt_of_cell? w1 _ (Hand.cell_of m2 0 _ rfl)
   have n0:w.heap.size<w1.heap.size:=by omega
   have n1:w.heap.size+1<w1.heap.size:=by omega
   have n2:w.heap.size<w1.heap.size+1:=by omega
   have n3:w.heap.size+1<w1.heap.size+1:=by omega
   have n4:w.heap.size≠w1.heap.size:=by omega
   have c0:=Hand.cell_of m0 0 (.int .u64 (hiN a)) rfl
   have c1:=Hand.cell_of m0 1 (.int .u64 (loN a)) rfl
   have c2:=Hand.cell_of m1 0 (.int .u64 (hiN gk)) rfl
   have c3:=Hand.cell_of m1 1 (.int .u64 (loN gk)) rfl
   have f0:=Hand.free_of m0 0
   have f1:=Hand.free_of m0 1
   have f2:=Hand.free_of m1 0
   have f3:=Hand.free_of m1 1
   have HM:=Lib.hid (And.intro hg (And.intro m0 (And.intro m1 (And.intro m2 hB1))))
   clear hg b0 b1 b2 hB hb1 HG m0 m1 m2 hB1
   go_wp2
   go_region
   go_wp2
   go_roundg (a % gk)
   case measure=>exact Nat.mod_lt _ (by omega)
   case rel =>
    obtain ⟨hg,m0,m1,m2,hB1⟩:=HM.out
    refine ⟨gk,hb,Nat.lt_trans (Nat.mod_lt _ (by omega)) hb,by rw [← hg,Nat.gcd_comm a gk,Nat.gcd_rec gk a,Nat.gcd_comm],?_,?_,?_,?_⟩
    ·simp (disch:=try exact Hand.z) only [Hand.q2,Hand.q1,Hand.q5,Hand.q4,m0];rfl
    ·simp (disch:=try exact Hand.z) only [Hand.q2,Hand.q1,Hand.q5,Hand.q4,m1];rfl
    ·simp (disch:=try exact Hand.z) only [Hand.q2,Hand.q5,Hand.q4,m2]
    ·repeat (first|exact hB1|(with_reducible first|apply Below.drew|refine Below.setCell ?_ Hand.d _|refine Below.alloc ?_ Hand.z _))
end Go.Proofs.Ythlpaglldhgmfaa.PA
namespace Go.Proofs.Ythlpaglldhgmfaa.PA
open Go.RowKit Go.Proofs.YthlpaglldhgmfaaW.PrintWords Go.Proofs.YthlpaglldhgmfaaW.PrintLast Go.Proofs.YthlpaglldhgmfaaW.PrintMore
set_option linter.unusedSimpArgs false
set_option linter.unusedVariables false
def fitS (neg:Bool) (n d:Nat):Int × Int × Int :=
 if n / Nat.gcd n d≤4611686018427387904∧d / Nat.gcd n d≤2147483648 then ((if neg then -((n / Nat.gcd n d:Nat):Int) else ((n / Nat.gcd n d:Nat):Int)),((d / Nat.gcd n d:Nat):Int),0) else (0,0,12)
theorem fit_wide (neg:Bool) (n d g p q p' q':Nat) (hn:n<340282366920938463463374607431768211456) (hd:d<340282366920938463463374607431768211456) (hd0:0<d) (w:World)
  (hg:Nat.gcd n d=g) (hp:n / g=p) (hq:d / g=q) (hp':n % g=p') (hq':d % g=q') (h:(decide (0<cmpN p 4611686018427387904))=true) :
  Calls Try.prog 84 #[.agg #[.bool neg,.int .u64 (hiN n),.int .u64 (loN n),.int .u64 (hiN d),.int .u64 (loN d)]] w fun e w' =>
   e = .returned (.tuple #[.agg #[.int .i64 0,.int .i64 0],.int .i64 12])∧Below w.heap.size w w':=by
 have HE:=Lib.hid (And.intro hg (And.intro hp (And.intro hq (And.intro hp' hq'))))
 have hg0:0<g:=by rw [← hg];exact Nat.gcd_pos_of_pos_right _ hd0
 have hgb:g<340282366920938463463374607431768211456:=Nat.lt_of_le_of_lt (by rw [← hg];exact Nat.gcd_le_right _ hd0) hd
 clear hg hp hq hp' hq'
 go_enter Try.func84,Try.ntmps84
 go_wp2_with fail
 refine (common_any n d hn hd _).mono ?_
 rintro e w1 ⟨rfl,hb1⟩
 rw [HE.out.1]
 have h_A:w1.heap[w.heap.size]?=some (.cells #[.bool neg,.int .u64 (hiN n),.int .u64 (loN n),.int .u64 (hiN d),.int .u64 (loN d)] 114 (0,0)):=by
  exact Hand.kb hb1 Hand.k
 have h_R:w1.heap[w.heap.size+1]?=some (.cells #[.int .i64 0,.int .i64 0] 31 (0,0)):=by
  exact Hand.kb hb1 Hand.k
 have hB':Below w.heap.size w w1:=Hand.stepB hb1 Hand.b (Nat.le_refl _)
 clear hb1
 have g_A:=h_A
 have g_R:=h_R
 have hB:=hB'
 clear hB' h_A h_R
 obtain ⟨z_A,z1_A,z2_A,y0_A,y1_A⟩:=Hand.hz g_A
 obtain ⟨c_A_0,f_A_0,c_A_1,f_A_1,c_A_2,f_A_2,c_A_3,f_A_3,c_A_4,f_A_4⟩:=Hand.hc5 g_A
 obtain ⟨z_R,z1_R,z2_R,y0_R,y1_R⟩:=Hand.hz g_R
 obtain ⟨c_R_0,f_R_0,c_R_1,f_R_1⟩:=Hand.hc2 g_R
 have zw:w.heap.size≤w1.heap.size:=hB.size
 have HG:=Lib.hid (And.intro g_A (And.intro g_R (hB)))
 clear g_A g_R hB
 go_wp2_with fail
 refine (over_any n g hn hg0 hgb _).mono ?_
 rintro e w2 ⟨rfl,hb2⟩
 rw [HE.out.2.1,HE.out.2.2.2.1]
 obtain ⟨g_A,g_R,hB⟩:=HG.out
 have h_A:w2.heap[w.heap.size]?=some (.cells #[.bool neg,.int .u64 (hiN n),.int .u64 (loN n),.int .u64 (hiN d),.int .u64 (loN d)] 114 (0,0)):=by
  refine Hand.kb hb2 ?_;first|with_reducible exact g_A|(simp (disch:=try exact Hand.z) only [Hand.q2,Hand.q1,Hand.q5,Hand.q6,Hand.q4,Hand.q3,g_A]<;>rfl)
 have h_R:w2.heap[w.heap.size+1]?=some (.cells #[.int .i64 0,.int .i64 0] 31 (0,0)):=by
  refine Hand.kb hb2 ?_;first|with_reducible exact g_R|(simp (disch:=try exact Hand.z) only [Hand.q2,Hand.q1,Hand.q5,Hand.q6,Hand.q4,Hand.q3,g_R]<;>rfl)
 have h_G:w2.heap[w1.heap.size]?=some (.cells #[.int .u64 (hiN g),.int .u64 (loN g)] 85 (0,0)):=by
  exact Hand.kb hb2 Hand.k
 have hB':Below w.heap.size w w2:=Hand.stepB hb2 Hand.b (Nat.le_refl _)
 clear HG hB g_A g_R zw z_A z1_A z2_A y0_A y1_A c_A_0 f_A_0 c_A_1 f_A_1 c_A_2 f_A_2 c_A_3 f_A_3 c_A_4 f_A_4 z_R z1_R z2_R y0_R y1_R c_R_0 f_R_0 c_R_1 f_R_1
 clear hb2
 have g_A:=h_A
 have g_R:=h_R
 have g_G:=h_G
 have hB:=hB'
 clear hB' h_A h_R h_G
 obtain ⟨z_A,z1_A,z2_A,y0_A,y1_A⟩:=Hand.hz g_A
 obtain ⟨c_A_0,f_A_0,c_A_1,f_A_1,c_A_2,f_A_2,c_A_3,f_A_3,c_A_4,f_A_4⟩:=Hand.hc5 g_A
 obtain ⟨z_R,z1_R,z2_R,y0_R,y1_R⟩:=Hand.hz g_R
 obtain ⟨c_R_0,f_R_0,c_R_1,f_R_1⟩:=Hand.hc2 g_R
 obtain ⟨z_G,z1_G,z2_G,y0_G,y1_G⟩:=Hand.hz g_G
 obtain ⟨c_G_0,f_G_0,c_G_1,f_G_1⟩:=Hand.hc2 g_G
 have zw:w.heap.size≤w2.heap.size:=hB.size
 have HG:=Lib.hid (And.intro g_A (And.intro g_R (And.intro g_G (hB))))
 clear g_A g_R g_G hB
 go_wp2_with fail
 refine (over_any d g hd hg0 hgb _).mono ?_
 rintro e w3 ⟨rfl,hb3⟩
 rw [HE.out.2.2.1,HE.out.2.2.2.2]
 obtain ⟨g_A,g_R,g_G,hB⟩:=HG.out
 have h_A:w3.heap[w.heap.size]?=some (.cells #[.bool neg,.int .u64 (hiN n),.int .u64 (loN n),.int .u64 (hiN d),.int .u64 (loN d)] 114 (0,0)):=by
  refine Hand.kb hb3 ?_;first|with_reducible exact g_A|(simp (disch:=try exact Hand.z) only [Hand.q2,Hand.q1,Hand.q5,Hand.q6,Hand.q4,Hand.q3,g_A]<;>rfl)
 have h_R:w3.heap[w.heap.size+1]?=some (.cells #[.int .i64 0,.int .i64 0] 31 (0,0)):=by
  refine Hand.kb hb3 ?_;first|with_reducible exact g_R|(simp (disch:=try exact Hand.z) only [Hand.q2,Hand.q1,Hand.q5,Hand.q6,Hand.q4,Hand.q3,g_R]<;>rfl)
 have h_G:w3.heap[w1.heap.size]?=some (.cells #[.int .u64 (hiN g),.int .u64 (loN g)] 85 (0,0)):=by
  refine Hand.kb hb3 ?_;first|with_reducible exact g_G|(simp (disch:=try exact Hand.z) only [Hand.q2,Hand.q1,Hand.q5,Hand.q6,Hand.q4,Hand.q3,g_G]<;>rfl)
 have h_P:w3.heap[w2.heap.size]?=some (.cells #[.int .u64 (hiN p),.int .u64 (loN p)] 85 (0,0)):=by
  exact Hand.kb hb3 Hand.k
 have hB':Below w.heap.size w w3:=Hand.stepB hb3 Hand.b (Nat.le_refl _)
 clear HG hB g_A g_R g_G zw z_A z1_A z2_A y0_A y1_A c_A_0 f_A_0 c_A_1 f_A_1 c_A_2 f_A_2 c_A_3 f_A_3 c_A_4 f_A_4 z_R z1_R z2_R y0_R y1_R c_R_0 f_R_0 c_R_1 f_R_1 z_G z1_G z2_G y0_G y1_G c_G_0 f_G_0 c_G_1 f_G_1
 clear hb3
 have g_A:=h_A
 have g_R:=h_R
 have g_G:=h_G
 have g_P:=h_P
 have hB:=hB'
 clear hB' h_A h_R h_G h_P
 obtain ⟨z_A,z1_A,z2_A,y0_A,y1_A⟩:=Hand.hz g_A
 obtain ⟨c_A_0,f_A_0,c_A_1,f_A_1,c_A_2,f_A_2,c_A_3,f_A_3,c_A_4,f_A_4⟩:=Hand.hc5 g_A
 obtain ⟨z_R,z1_R,z2_R,y0_R,y1_R⟩:=Hand.hz g_R
 obtain ⟨c_R_0,f_R_0,c_R_1,f_R_1⟩:=Hand.hc2 g_R
 obtain ⟨z_G,z1_G,z2_G,y0_G,y1_G⟩:=Hand.hz g_G
 obtain ⟨c_G_0,f_G_0,c_G_1,f_G_1⟩:=Hand.hc2 g_G
 obtain ⟨z_P,z1_P,z2_P,y0_P,y1_P⟩:=Hand.hz g_P
 obtain ⟨c_P_0,f_P_0,c_P_1,f_P_1⟩:=Hand.hc2 g_P
 have zw:w.heap.size≤w3.heap.size:=hB.size
 have HG:=Lib.hid (And.intro g_A (And.intro g_R (And.intro g_G (And.intro g_P (hB)))))
 clear g_A g_R g_G g_P hB
 go_wp2_with fail
 go_region_with (first|(go_at_call 87;refine (small_any 4611686018427387904 (by omega) _).mono ?_;rintro e w4 ⟨rfl,hb4⟩;obtain ⟨hc4,hf4⟩:=Hand.bcell hb4)|(go_at_call 52;refine (cmp_any p 4611686018427387904 _).mono ?_;rintro e w5 ⟨rfl,hb5⟩))
 all_goals
  have hb6:=Below.trans hb4 (hb5.mono hb4.size)
  clear hb4 hb5 hc4 hf4
  obtain ⟨g_A,g_R,g_G,g_P,hB⟩:=HG.out
  have h_A:w5.heap[w.heap.size]?=some (.cells #[.bool neg,.int .u64 (hiN n),.int .u64 (loN n),.int .u64 (hiN d),.int .u64 (loN d)] 114 (0,0)):=by
   refine Hand.kb hb6 ?_;first|with_reducible exact g_A|(simp (disch:=try exact Hand.z) only [Hand.q2,Hand.q1,Hand.q5,Hand.q6,Hand.q4,Hand.q3,g_A]<;>rfl)
  have h_R:w5.heap[w.heap.size+1]?=some (.cells #[.int .i64 0,.int .i64 0] 31 (0,0)):=by
   refine Hand.kb hb6 ?_;first|with_reducible exact g_R|(simp (disch:=try exact Hand.z) only [Hand.q2,Hand.q1,Hand.q5,Hand.q6,Hand.q4,Hand.q3,g_R]<;>rfl)
  have h_G:w5.heap[w1.heap.size]?=some (.cells #[.int .u64 (hiN g),.int .u64 (loN g)] 85 (0,0)):=by
   refine Hand.kb hb6 ?_;first|with_reducible exact g_G|(simp (disch:=try exact Hand.z) only [Hand.q2,Hand.q1,Hand.q5,Hand.q6,Hand.q4,Hand.q3,g_G]<;>rfl)
  have h_P:w5.heap[w2.heap.size]?=some (.cells #[.int .u64 (hiN p),.int .u64 (loN p)] 85 (0,0)):=by
   refine Hand.kb hb6 ?_;first|with_reducible exact g_P|(simp (disch:=try exact Hand.z) only [Hand.q2,Hand.q1,Hand.q5,Hand.q6,Hand.q4,Hand.q3,g_P]<;>rfl)
  have h_Q:w5.heap[w3.heap.size]?=some (.cells #[.int .u64 (hiN q),.int .u64 (loN q)] 85 (0,0)):=by
   exact Hand.kb hb6 Hand.k
  have hB':Below w.heap.size w w5:=Hand.stepB hb6 Hand.b (Nat.le_refl _)
  clear HG hB g_A g_R g_G g_P zw z_A z1_A z2_A y0_A y1_A c_A_0 f_A_0 c_A_1 f_A_1 c_A_2 f_A_2 c_A_3 f_A_3 c_A_4 f_A_4 z_R z1_R z2_R y0_R y1_R c_R_0 f_R_0 c_R_1 f_R_1 z_G z1_G z2_G y0_G y1_G c_G_0 f_G_0 c_G_1 f_G_1 z_P z1_P z2_P y0_P y1_P c_P_0 f_P_0 c_P_1 f_P_1
  clear hb6
  have g_A:=h_A
  have g_R:=h_R
  have g_G:=h_G
  have g_P:=h_P
  have g_Q:=h_Q
  have hB:=hB'
  clear hB' h_A h_R h_G h_P h_Q
  obtain ⟨z_A,z1_A,z2_A,y0_A,y1_A⟩:=Hand.hz g_A
  obtain ⟨c_A_0,f_A_0,c_A_1,f_A_1,c_A_2,f_A_2,c_A_3,f_A_3,c_A_4,f_A_4⟩:=Hand.hc5 g_A
  obtain ⟨z_R,z1_R,z2_R,y0_R,y1_R⟩:=Hand.hz g_R
  obtain ⟨c_R_0,f_R_0,c_R_1,f_R_1⟩:=Hand.hc2 g_R
  obtain ⟨z_G,z1_G,z2_G,y0_G,y1_G⟩:=Hand.hz g_G
  obtain ⟨c_G_0,f_G_0,c_G_1,f_G_1⟩:=Hand.hc2 g_G
  obtain ⟨z_P,z1_P,z2_P,y0_P,y1_P⟩:=Hand.hz g_P
  obtain ⟨c_P_0,f_P_0,c_P_1,f_P_1⟩:=Hand.hc2 g_P
  obtain ⟨z_Q,z1_Q,z2_Q,y0_Q,y1_Q⟩:=Hand.hz g_Q
  obtain ⟨c_Q_0,f_Q_0,c_Q_1,f_Q_1⟩:=Hand.hc2 g_Q
  have zw:w.heap.size≤w5.heap.size:=hB.size
  have HG:=Lib.hid (And.intro g_A (And.intro g_R (And.intro g_G (And.intro g_P (And.intro g_Q (hB))))))
  clear g_A g_R g_G g_P g_Q hB
  go_wp2
  obtain ⟨g_A,g_R,g_G,g_P,g_Q,hB⟩:=HG.out
  clear HG
  refine bodyPost_ret (results_ct rfl _ _ (w.heap.size+1) 31 #[.int .i64 0,.int .i64 0] (0,0) _ rfl ?_ Try.underlying31 rfl (by kernel_rfl)) rfl ⟨rfl,?_⟩
  ·simp (disch:=omega) only [Hand.q1,g_R];rfl
  ·exact (hB.setCell Hand.d _).setCell Hand.d _
theorem small62 (w:World):Calls Try.prog 87 #[.int .u64 4611686018427387904] w fun e w'=>e = .returned (.agg #[.int .u64 (hiN 4611686018427387904),.int .u64 (loN 4611686018427387904)])∧Below w.heap.size w w':=small_any 4611686018427387904 (by omega) w
theorem small31 (w:World):Calls Try.prog 87 #[.int .u64 2147483648] w fun e w'=>e = .returned (.agg #[.int .u64 (hiN 2147483648),.int .u64 (loN 2147483648)])∧Below w.heap.size w w':=small_any 2147483648 (by omega) w
theorem fit_wide2 (neg:Bool) (n d g p q p' q':Nat) (hn:n<340282366920938463463374607431768211456) (hd:d<340282366920938463463374607431768211456) (hd0:0<d) (w:World)
  (hg:Nat.gcd n d=g) (hp:n / g=p) (hq:d / g=q) (hp':n % g=p') (hq':d % g=q') (h:(decide (0<cmpN p 4611686018427387904))=false) (h2:(decide (0<cmpN q 2147483648))=true) :
  Calls Try.prog 84 #[.agg #[.bool neg,.int .u64 (hiN n),.int .u64 (loN n),.int .u64 (hiN d),.int .u64 (loN d)]] w fun e w' =>
   e = .returned (.tuple #[.agg #[.int .i64 0,.int .i64 0],.int .i64 12])∧Below w.heap.size w w':=by
 have HE:=Lib.hid (And.intro hg (And.intro hp (And.intro hq (And.intro hp' hq'))))
 have hg0:0<g:=by rw [← hg];exact Nat.gcd_pos_of_pos_right _ hd0
 have hgb:g<340282366920938463463374607431768211456:=Nat.lt_of_le_of_lt (by rw [← hg];exact Nat.gcd_le_right _ hd0) hd
 clear hg hp hq hp' hq'
 go_enter Try.func84,Try.ntmps84
 go_wp2_with fail
 refine (common_any n d hn hd _).mono ?_
 rintro e w1 ⟨rfl,hb1⟩
 rw [HE.out.1]
 have h_A:w1.heap[w.heap.size]?=some (.cells #[.bool neg,.int .u64 (hiN n),.int .u64 (loN n),.int .u64 (hiN d),.int .u64 (loN d)] 114 (0,0)):=by
  exact Hand.kb hb1 Hand.k
 have h_R:w1.heap[w.heap.size+1]?=some (.cells #[.int .i64 0,.int .i64 0] 31 (0,0)):=by
  exact Hand.kb hb1 Hand.k
 have hB':Below w.heap.size w w1:=Hand.stepB hb1 Hand.b (Nat.le_refl _)
 clear hb1
 have g_A:=h_A
 have g_R:=h_R
 have hB:=hB'
 clear hB' h_A h_R
 obtain ⟨z_A,z1_A,z2_A,y0_A,y1_A⟩:=Hand.hz g_A
 obtain ⟨c_A_0,f_A_0,c_A_1,f_A_1,c_A_2,f_A_2,c_A_3,f_A_3,c_A_4,f_A_4⟩:=Hand.hc5 g_A
 obtain ⟨z_R,z1_R,z2_R,y0_R,y1_R⟩:=Hand.hz g_R
 obtain ⟨c_R_0,f_R_0,c_R_1,f_R_1⟩:=Hand.hc2 g_R
 have zw:w.heap.size≤w1.heap.size:=hB.size
 have HG:=Lib.hid (And.intro g_A (And.intro g_R (hB)))
 clear g_A g_R hB
 go_wp2_with fail
 refine (over_any n g hn hg0 hgb _).mono ?_
 rintro e w2 ⟨rfl,hb2⟩
 rw [HE.out.2.1,HE.out.2.2.2.1]
 obtain ⟨g_A,g_R,hB⟩:=HG.out
 have h_A:w2.heap[w.heap.size]?=some (.cells #[.bool neg,.int .u64 (hiN n),.int .u64 (loN n),.int .u64 (hiN d),.int .u64 (loN d)] 114 (0,0)):=by
  refine Hand.kb hb2 ?_;first|with_reducible exact g_A|(simp (disch:=try exact Hand.z) only [Hand.q2,Hand.q1,Hand.q5,Hand.q6,Hand.q4,Hand.q3,g_A]<;>rfl)
 have h_R:w2.heap[w.heap.size+1]?=some (.cells #[.int .i64 0,.int .i64 0] 31 (0,0)):=by
  refine Hand.kb hb2 ?_;first|with_reducible exact g_R|(simp (disch:=try exact Hand.z) only [Hand.q2,Hand.q1,Hand.q5,Hand.q6,Hand.q4,Hand.q3,g_R]<;>rfl)
 have h_G:w2.heap[w1.heap.size]?=some (.cells #[.int .u64 (hiN g),.int .u64 (loN g)] 85 (0,0)):=by
  exact Hand.kb hb2 Hand.k
 have hB':Below w.heap.size w w2:=Hand.stepB hb2 Hand.b (Nat.le_refl _)
 clear HG hB g_A g_R zw z_A z1_A z2_A y0_A y1_A c_A_0 f_A_0 c_A_1 f_A_1 c_A_2 f_A_2 c_A_3 f_A_3 c_A_4 f_A_4 z_R z1_R z2_R y0_R y1_R c_R_0 f_R_0 c_R_1 f_R_1
 clear hb2
 have g_A:=h_A
 have g_R:=h_R
 have g_G:=h_G
 have hB:=hB'
 clear hB' h_A h_R h_G
 obtain ⟨z_A,z1_A,z2_A,y0_A,y1_A⟩:=Hand.hz g_A
 obtain ⟨c_A_0,f_A_0,c_A_1,f_A_1,c_A_2,f_A_2,c_A_3,f_A_3,c_A_4,f_A_4⟩:=Hand.hc5 g_A
 obtain ⟨z_R,z1_R,z2_R,y0_R,y1_R⟩:=Hand.hz g_R
 obtain ⟨c_R_0,f_R_0,c_R_1,f_R_1⟩:=Hand.hc2 g_R
 obtain ⟨z_G,z1_G,z2_G,y0_G,y1_G⟩:=Hand.hz g_G
 obtain ⟨c_G_0,f_G_0,c_G_1,f_G_1⟩:=Hand.hc2 g_G
 have zw:w.heap.size≤w2.heap.size:=hB.size
 have HG:=Lib.hid (And.intro g_A (And.intro g_R (And.intro g_G (hB))))
 clear g_A g_R g_G hB
 go_wp2_with fail
 refine (over_any d g hd hg0 hgb _).mono ?_
 rintro e w3 ⟨rfl,hb3⟩
 rw [HE.out.2.2.1,HE.out.2.2.2.2]
 obtain ⟨g_A,g_R,g_G,hB⟩:=HG.out
 have h_A:w3.heap[w.heap.size]?=some (.cells #[.bool neg,.int .u64 (hiN n),.int .u64 (loN n),.int .u64 (hiN d),.int .u64 (loN d)] 114 (0,0)):=by
  refine Hand.kb hb3 ?_;first|with_reducible exact g_A|(simp (disch:=try exact Hand.z) only [Hand.q2,Hand.q1,Hand.q5,Hand.q6,Hand.q4,Hand.q3,g_A]<;>rfl)
 have h_R:w3.heap[w.heap.size+1]?=some (.cells #[.int .i64 0,.int .i64 0] 31 (0,0)):=by
  refine Hand.kb hb3 ?_;first|with_reducible exact g_R|(simp (disch:=try exact Hand.z) only [Hand.q2,Hand.q1,Hand.q5,Hand.q6,Hand.q4,Hand.q3,g_R]<;>rfl)
 have h_G:w3.heap[w1.heap.size]?=some (.cells #[.int .u64 (hiN g),.int .u64 (loN g)] 85 (0,0)):=by
  refine Hand.kb hb3 ?_;first|with_reducible exact g_G|(simp (disch:=try exact Hand.z) only [Hand.q2,Hand.q1,Hand.q5,Hand.q6,Hand.q4,Hand.q3,g_G]<;>rfl)
 have h_P:w3.heap[w2.heap.size]?=some (.cells #[.int .u64 (hiN p),.int .u64 (loN p)] 85 (0,0)):=by
  exact Hand.kb hb3 Hand.k
 have hB':Below w.heap.size w w3:=Hand.stepB hb3 Hand.b (Nat.le_refl _)
 clear HG hB g_A g_R g_G zw z_A z1_A z2_A y0_A y1_A c_A_0 f_A_0 c_A_1 f_A_1 c_A_2 f_A_2 c_A_3 f_A_3 c_A_4 f_A_4 z_R z1_R z2_R y0_R y1_R c_R_0 f_R_0 c_R_1 f_R_1 z_G z1_G z2_G y0_G y1_G c_G_0 f_G_0 c_G_1 f_G_1
 clear hb3
 have g_A:=h_A
 have g_R:=h_R
 have g_G:=h_G
 have g_P:=h_P
 have hB:=hB'
 clear hB' h_A h_R h_G h_P
 obtain ⟨z_A,z1_A,z2_A,y0_A,y1_A⟩:=Hand.hz g_A
 obtain ⟨c_A_0,f_A_0,c_A_1,f_A_1,c_A_2,f_A_2,c_A_3,f_A_3,c_A_4,f_A_4⟩:=Hand.hc5 g_A
 obtain ⟨z_R,z1_R,z2_R,y0_R,y1_R⟩:=Hand.hz g_R
 obtain ⟨c_R_0,f_R_0,c_R_1,f_R_1⟩:=Hand.hc2 g_R
 obtain ⟨z_G,z1_G,z2_G,y0_G,y1_G⟩:=Hand.hz g_G
 obtain ⟨c_G_0,f_G_0,c_G_1,f_G_1⟩:=Hand.hc2 g_G
 obtain ⟨z_P,z1_P,z2_P,y0_P,y1_P⟩:=Hand.hz g_P
 obtain ⟨c_P_0,f_P_0,c_P_1,f_P_1⟩:=Hand.hc2 g_P
 have zw:w.heap.size≤w3.heap.size:=hB.size
 have HG:=Lib.hid (And.intro g_A (And.intro g_R (And.intro g_G (And.intro g_P (hB)))))
 clear g_A g_R g_G g_P hB
 go_wp2_with fail
 obtain ⟨g_A,g_R,g_G,g_P,hB⟩:=HG.out
 obtain ⟨W,hW⟩:∃ W_,W_=(w3.alloc (.cells #[.int .u64 (hiN q),.int .u64 (loN q)] 85)).alloc (.cells #[.int .u64 (hiN q'),.int .u64 (loN q')] 85):=⟨_,rfl⟩
 rw [← hW]
 have h_A:W.heap[w.heap.size]?=some (.cells #[.bool neg,.int .u64 (hiN n),.int .u64 (loN n),.int .u64 (hiN d),.int .u64 (loN d)] 114 (0,0)):=by
  rw [hW]
  first|(simp (disch:=try exact Hand.zt) only [Hand.q2,Hand.q1,Hand.q5,Hand.q6,Hand.q4,Hand.q3,g_A];done)|(simp (disch:=try exact Hand.zt) only [Hand.q2,Hand.q1,Hand.q5,Hand.q6,Hand.q4,Hand.q3,g_A];rfl)
 have h_R:W.heap[w.heap.size+1]?=some (.cells #[.int .i64 0,.int .i64 0] 31 (0,0)):=by
  rw [hW]
  first|(simp (disch:=try exact Hand.zt) only [Hand.q2,Hand.q1,Hand.q5,Hand.q6,Hand.q4,Hand.q3,g_R];done)|(simp (disch:=try exact Hand.zt) only [Hand.q2,Hand.q1,Hand.q5,Hand.q6,Hand.q4,Hand.q3,g_R];rfl)
 have h_G:W.heap[w1.heap.size]?=some (.cells #[.int .u64 (hiN g),.int .u64 (loN g)] 85 (0,0)):=by
  rw [hW]
  first|(simp (disch:=try exact Hand.zt) only [Hand.q2,Hand.q1,Hand.q5,Hand.q6,Hand.q4,Hand.q3,g_G];done)|(simp (disch:=try exact Hand.zt) only [Hand.q2,Hand.q1,Hand.q5,Hand.q6,Hand.q4,Hand.q3,g_G];rfl)
 have h_P:W.heap[w2.heap.size]?=some (.cells #[.int .u64 (hiN p),.int .u64 (loN p)] 85 (0,0)):=by
  rw [hW]
  first|(simp (disch:=try exact Hand.zt) only [Hand.q2,Hand.q1,Hand.q5,Hand.q6,Hand.q4,Hand.q3,g_P];done)|(simp (disch:=try exact Hand.zt) only [Hand.q2,Hand.q1,Hand.q5,Hand.q6,Hand.q4,Hand.q3,g_P];rfl)
 have h_Q:W.heap[w3.heap.size]?=some (.cells #[.int .u64 (hiN q),.int .u64 (loN q)] 85 (0,0)):=by
  rw [hW]
  first|(simp (disch:=try exact Hand.zt) only [Hand.q2,Hand.q1,Hand.q5,Hand.q6,Hand.q4,Hand.q3];done)|(simp (disch:=try exact Hand.zt) only [Hand.q2,Hand.q1,Hand.q5,Hand.q6,Hand.q4,Hand.q3];rfl)
 have hB':Below w.heap.size w W:=by
  rw [hW]
  repeat (first|exact hB|(with_reducible first|apply Below.drew|apply pw_below_drewN|refine Below.setCell ?_ Hand.d _|refine Below.alloc ?_ Hand.z _))
 clear HG hB g_A g_R g_G g_P zw z_A z1_A z2_A y0_A y1_A c_A_0 f_A_0 c_A_1 f_A_1 c_A_2 f_A_2 c_A_3 f_A_3 c_A_4 f_A_4 z_R z1_R z2_R y0_R y1_R c_R_0 f_R_0 c_R_1 f_R_1 z_G z1_G z2_G y0_G y1_G c_G_0 f_G_0 c_G_1 f_G_1 z_P z1_P z2_P y0_P y1_P c_P_0 f_P_0 c_P_1 f_P_1
 clear hW
 have g_A:=h_A
 have g_R:=h_R
 have g_G:=h_G
 have g_P:=h_P
 have g_Q:=h_Q
 have hB:=hB'
 clear hB' h_A h_R h_G h_P h_Q
 obtain ⟨z_A,z1_A,z2_A,y0_A,y1_A⟩:=Hand.hz g_A
 obtain ⟨c_A_0,f_A_0,c_A_1,f_A_1,c_A_2,f_A_2,c_A_3,f_A_3,c_A_4,f_A_4⟩:=Hand.hc5 g_A
 obtain ⟨z_R,z1_R,z2_R,y0_R,y1_R⟩:=Hand.hz g_R
 obtain ⟨c_R_0,f_R_0,c_R_1,f_R_1⟩:=Hand.hc2 g_R
 obtain ⟨z_G,z1_G,z2_G,y0_G,y1_G⟩:=Hand.hz g_G
 obtain ⟨c_G_0,f_G_0,c_G_1,f_G_1⟩:=Hand.hc2 g_G
 obtain ⟨z_P,z1_P,z2_P,y0_P,y1_P⟩:=Hand.hz g_P
 obtain ⟨c_P_0,f_P_0,c_P_1,f_P_1⟩:=Hand.hc2 g_P
 obtain ⟨z_Q,z1_Q,z2_Q,y0_Q,y1_Q⟩:=Hand.hz g_Q
 obtain ⟨c_Q_0,f_Q_0,c_Q_1,f_Q_1⟩:=Hand.hc2 g_Q
 have zw:w.heap.size≤W.heap.size:=hB.size
 have HG:=Lib.hid (And.intro g_A (And.intro g_R (And.intro g_G (And.intro g_P (And.intro g_Q (hB))))))
 clear g_A g_R g_G g_P g_Q hB
 have K0:W.cell? ⟨w2.heap.size,0,none⟩=some (.int .u64 (hiN p))∧W.cell? ⟨w2.heap.size,1,none⟩=some (.int .u64 (loN p))∧W.cell? ⟨w3.heap.size,0,none⟩=some (.int .u64 (hiN q))∧W.cell? ⟨w3.heap.size,1,none⟩=some (.int .u64 (loN q)):=⟨c_P_0,c_P_1,c_Q_0,c_Q_1⟩
 have HK:=Lib.hid K0
 have BD:Below W.heap.size W W.drew:=Below.drew (Below.refl _ _)
 clear K0
 go_region_held3 (fun w'=>Below W.heap.size W w'∧w'.cell? ⟨w2.heap.size,0,none⟩=some (.int .u64 (hiN p))∧w'.cell? ⟨w2.heap.size,1,none⟩=some (.int .u64 (loN p))∧w'.cell? ⟨w3.heap.size,0,none⟩=some (.int .u64 (hiN q))∧w'.cell? ⟨w3.heap.size,1,none⟩=some (.int .u64 (loN q))) (first|exact Hand.keep4 (Below.refl _ _) z_P z_Q HK.out|exact Hand.keep4 (Below.drew (Below.refl _ _)) z_P z_Q HK.out|exact Hand.keep4 BB z_P z_Q HK.out) (first|(go_at_call 87;((with_reducible refine (small62 _).mono ?_);rintro e w4 ⟨rfl,hb⟩;have BB:=Hand.stepB hb (by assumption) (Nat.le_refl _);clear hb))|(go_at_call 52;((with_reducible refine (cmp_any p 4611686018427387904 _).mono ?_);rintro e w5 ⟨rfl,hb⟩;have BB:=Hand.stepB hb (by assumption) (Nat.le_refl _);clear hb))|(go_at_call 87;((with_reducible refine (small31 _).mono ?_);rintro e w6 ⟨rfl,hb⟩;have BB:=Hand.stepB hb (by assumption) (Nat.le_refl _);clear hb))|(go_at_call 52;((with_reducible refine (cmp_any q 2147483648 _).mono ?_);rintro e w7 ⟨rfl,hb⟩;have BB:=Hand.stepB hb (by assumption) (Nat.le_refl _);clear hb)))
 obtain ⟨g_A,g_R,g_G,g_P,g_Q,hB⟩:=HG.out
 have h_A:w7.heap[w.heap.size]?=some (.cells #[.bool neg,.int .u64 (hiN n),.int .u64 (loN n),.int .u64 (hiN d),.int .u64 (loN d)] 114 (0,0)):=by
  refine Hand.kb BB ?_;first|with_reducible exact g_A|(simp (disch:=try exact Hand.z) only [Hand.q2,Hand.q1,Hand.q5,Hand.q6,Hand.q4,Hand.q3,g_A]<;>rfl)
 have h_R:w7.heap[w.heap.size+1]?=some (.cells #[.int .i64 0,.int .i64 0] 31 (0,0)):=by
  refine Hand.kb BB ?_;first|with_reducible exact g_R|(simp (disch:=try exact Hand.z) only [Hand.q2,Hand.q1,Hand.q5,Hand.q6,Hand.q4,Hand.q3,g_R]<;>rfl)
 have h_G:w7.heap[w1.heap.size]?=some (.cells #[.int .u64 (hiN g),.int .u64 (loN g)] 85 (0,0)):=by
  refine Hand.kb BB ?_;first|with_reducible exact g_G|(simp (disch:=try exact Hand.z) only [Hand.q2,Hand.q1,Hand.q5,Hand.q6,Hand.q4,Hand.q3,g_G]<;>rfl)
 have h_P:w7.heap[w2.heap.size]?=some (.cells #[.int .u64 (hiN p),.int .u64 (loN p)] 85 (0,0)):=by
  refine Hand.kb BB ?_;first|with_reducible exact g_P|(simp (disch:=try exact Hand.z) only [Hand.q2,Hand.q1,Hand.q5,Hand.q6,Hand.q4,Hand.q3,g_P]<;>rfl)
 have h_Q:w7.heap[w3.heap.size]?=some (.cells #[.int .u64 (hiN q),.int .u64 (loN q)] 85 (0,0)):=by
  refine Hand.kb BB ?_;first|with_reducible exact g_Q|(simp (disch:=try exact Hand.z) only [Hand.q2,Hand.q1,Hand.q5,Hand.q6,Hand.q4,Hand.q3,g_Q]<;>rfl)
 have hB':Below w.heap.size w w7:=Hand.stepB BB Hand.b (Nat.le_refl _)
 clear HG hB g_A g_R g_G g_P g_Q zw z_A z1_A z2_A y0_A y1_A c_A_0 f_A_0 c_A_1 f_A_1 c_A_2 f_A_2 c_A_3 f_A_3 c_A_4 f_A_4 z_R z1_R z2_R y0_R y1_R c_R_0 f_R_0 c_R_1 f_R_1 z_G z1_G z2_G y0_G y1_G c_G_0 f_G_0 c_G_1 f_G_1 z_P z1_P z2_P y0_P y1_P c_P_0 f_P_0 c_P_1 f_P_1 z_Q z1_Q z2_Q y0_Q y1_Q c_Q_0 f_Q_0 c_Q_1 f_Q_1
 clear BB
 have g_A:=h_A
 have g_R:=h_R
 have g_G:=h_G
 have g_P:=h_P
 have g_Q:=h_Q
 have hB:=hB'
 clear hB' h_A h_R h_G h_P h_Q
 obtain ⟨z_A,z1_A,z2_A,y0_A,y1_A⟩:=Hand.hz g_A
 obtain ⟨c_A_0,f_A_0,c_A_1,f_A_1,c_A_2,f_A_2,c_A_3,f_A_3,c_A_4,f_A_4⟩:=Hand.hc5 g_A
 obtain ⟨z_R,z1_R,z2_R,y0_R,y1_R⟩:=Hand.hz g_R
 obtain ⟨c_R_0,f_R_0,c_R_1,f_R_1⟩:=Hand.hc2 g_R
 obtain ⟨z_G,z1_G,z2_G,y0_G,y1_G⟩:=Hand.hz g_G
 obtain ⟨c_G_0,f_G_0,c_G_1,f_G_1⟩:=Hand.hc2 g_G
 obtain ⟨z_P,z1_P,z2_P,y0_P,y1_P⟩:=Hand.hz g_P
 obtain ⟨c_P_0,f_P_0,c_P_1,f_P_1⟩:=Hand.hc2 g_P
 obtain ⟨z_Q,z1_Q,z2_Q,y0_Q,y1_Q⟩:=Hand.hz g_Q
 obtain ⟨c_Q_0,f_Q_0,c_Q_1,f_Q_1⟩:=Hand.hc2 g_Q
 have zw:w.heap.size≤w7.heap.size:=hB.size
 have HG:=Lib.hid (And.intro g_A (And.intro g_R (And.intro g_G (And.intro g_P (And.intro g_Q (hB))))))
 clear g_A g_R g_G g_P g_Q hB
 go_wp2
 obtain ⟨g_A,g_R,g_G,g_P,g_Q,hB⟩:=HG.out
 refine bodyPost_ret (results_ct rfl _ _ (w.heap.size+1) 31 #[.int .i64 0,.int .i64 0] (0,0) _ rfl ?_ Try.underlying31 rfl (by kernel_rfl)) rfl ⟨rfl,?_⟩
 ·simp (disch:=omega) only [Hand.q1,g_R];rfl
 ·exact (hB.setCell Hand.d _).setCell Hand.d _
theorem fit_ok (neg:Bool) (n d g p q p' q':Nat) (hn:n<340282366920938463463374607431768211456) (hd:d<340282366920938463463374607431768211456) (hd0:0<d) (w:World)
  (hg:Nat.gcd n d=g) (hp:n / g=p) (hq:d / g=q) (hp':n % g=p') (hq':d % g=q') (h:(decide (0<cmpN p 4611686018427387904))=false) (h2:(decide (0<cmpN q 2147483648))=false) (hp1:(p:Int)≤4611686018427387904) (hlp:wrap64 (loN p)=(p:Int)) (hlq:wrap64 (loN q)=(q:Int)) :
  Calls Try.prog 84 #[.agg #[.bool neg,.int .u64 (hiN n),.int .u64 (loN n),.int .u64 (hiN d),.int .u64 (loN d)]] w fun e w' =>
   e = .returned (.tuple #[.agg #[.int .i64 (if neg=true then -(p:Int) else (p:Int)),.int .i64 (q:Int)],.int .i64 0])∧Below w.heap.size w w':=by
 have HE:=Lib.hid (And.intro hg (And.intro hp (And.intro hq (And.intro hp' hq'))))
 have hg0:0<g:=by rw [← hg];exact Nat.gcd_pos_of_pos_right _ hd0
 have hgb:g<340282366920938463463374607431768211456:=Nat.lt_of_le_of_lt (by rw [← hg];exact Nat.gcd_le_right _ hd0) hd
 clear hg hp hq hp' hq'
 go_enter Try.func84,Try.ntmps84
 go_wp2_with fail
 refine (common_any n d hn hd _).mono ?_
 rintro e w1 ⟨rfl,hb1⟩
 rw [HE.out.1]
 have h_A:w1.heap[w.heap.size]?=some (.cells #[.bool neg,.int .u64 (hiN n),.int .u64 (loN n),.int .u64 (hiN d),.int .u64 (loN d)] 114 (0,0)):=by
  exact Hand.kb hb1 Hand.k
 have h_R:w1.heap[w.heap.size+1]?=some (.cells #[.int .i64 0,.int .i64 0] 31 (0,0)):=by
  exact Hand.kb hb1 Hand.k
 have hB':Below w.heap.size w w1:=Hand.stepB hb1 Hand.b (Nat.le_refl _)
 clear hb1
 have g_A:=h_A
 have g_R:=h_R
 have hB:=hB'
 clear hB' h_A h_R
 obtain ⟨z_A,z1_A,z2_A,y0_A,y1_A⟩:=Hand.hz g_A
 obtain ⟨c_A_0,f_A_0,c_A_1,f_A_1,c_A_2,f_A_2,c_A_3,f_A_3,c_A_4,f_A_4⟩:=Hand.hc5 g_A
 obtain ⟨z_R,z1_R,z2_R,y0_R,y1_R⟩:=Hand.hz g_R
 obtain ⟨c_R_0,f_R_0,c_R_1,f_R_1⟩:=Hand.hc2 g_R
 have zw:w.heap.size≤w1.heap.size:=hB.size
 have HG:=Lib.hid (And.intro g_A (And.intro g_R (hB)))
 clear g_A g_R hB
 go_wp2_with fail
 refine (over_any n g hn hg0 hgb _).mono ?_
 rintro e w2 ⟨rfl,hb2⟩
 rw [HE.out.2.1,HE.out.2.2.2.1]
 obtain ⟨g_A,g_R,hB⟩:=HG.out
 have h_A:w2.heap[w.heap.size]?=some (.cells #[.bool neg,.int .u64 (hiN n),.int .u64 (loN n),.int .u64 (hiN d),.int .u64 (loN d)] 114 (0,0)):=by
  refine Hand.kb hb2 ?_;first|with_reducible exact g_A|(simp (disch:=try exact Hand.z) only [Hand.q2,Hand.q1,Hand.q5,Hand.q6,Hand.q4,Hand.q3,g_A]<;>rfl)
 have h_R:w2.heap[w.heap.size+1]?=some (.cells #[.int .i64 0,.int .i64 0] 31 (0,0)):=by
  refine Hand.kb hb2 ?_;first|with_reducible exact g_R|(simp (disch:=try exact Hand.z) only [Hand.q2,Hand.q1,Hand.q5,Hand.q6,Hand.q4,Hand.q3,g_R]<;>rfl)
 have h_G:w2.heap[w1.heap.size]?=some (.cells #[.int .u64 (hiN g),.int .u64 (loN g)] 85 (0,0)):=by
  exact Hand.kb hb2 Hand.k
 have hB':Below w.heap.size w w2:=Hand.stepB hb2 Hand.b (Nat.le_refl _)
 clear HG hB g_A g_R zw z_A z1_A z2_A y0_A y1_A c_A_0 f_A_0 c_A_1 f_A_1 c_A_2 f_A_2 c_A_3 f_A_3 c_A_4 f_A_4 z_R z1_R z2_R y0_R y1_R c_R_0 f_R_0 c_R_1 f_R_1
 clear hb2
 have g_A:=h_A
 have g_R:=h_R
 have g_G:=h_G
 have hB:=hB'
 clear hB' h_A h_R h_G
 obtain ⟨z_A,z1_A,z2_A,y0_A,y1_A⟩:=Hand.hz g_A
 obtain ⟨c_A_0,f_A_0,c_A_1,f_A_1,c_A_2,f_A_2,c_A_3,f_A_3,c_A_4,f_A_4⟩:=Hand.hc5 g_A
 obtain ⟨z_R,z1_R,z2_R,y0_R,y1_R⟩:=Hand.hz g_R
 obtain ⟨c_R_0,f_R_0,c_R_1,f_R_1⟩:=Hand.hc2 g_R
 obtain ⟨z_G,z1_G,z2_G,y0_G,y1_G⟩:=Hand.hz g_G
 obtain ⟨c_G_0,f_G_0,c_G_1,f_G_1⟩:=Hand.hc2 g_G
 have zw:w.heap.size≤w2.heap.size:=hB.size
 have HG:=Lib.hid (And.intro g_A (And.intro g_R (And.intro g_G (hB))))
 clear g_A g_R g_G hB
 go_wp2_with fail
 refine (over_any d g hd hg0 hgb _).mono ?_
 rintro e w3 ⟨rfl,hb3⟩
 rw [HE.out.2.2.1,HE.out.2.2.2.2]
 obtain ⟨g_A,g_R,g_G,hB⟩:=HG.out
 have h_A:w3.heap[w.heap.size]?=some (.cells #[.bool neg,.int .u64 (hiN n),.int .u64 (loN n),.int .u64 (hiN d),.int .u64 (loN d)] 114 (0,0)):=by
  refine Hand.kb hb3 ?_;first|with_reducible exact g_A|(simp (disch:=try exact Hand.z) only [Hand.q2,Hand.q1,Hand.q5,Hand.q6,Hand.q4,Hand.q3,g_A]<;>rfl)
 have h_R:w3.heap[w.heap.size+1]?=some (.cells #[.int .i64 0,.int .i64 0] 31 (0,0)):=by
  refine Hand.kb hb3 ?_;first|with_reducible exact g_R|(simp (disch:=try exact Hand.z) only [Hand.q2,Hand.q1,Hand.q5,Hand.q6,Hand.q4,Hand.q3,g_R]<;>rfl)
 have h_G:w3.heap[w1.heap.size]?=some (.cells #[.int .u64 (hiN g),.int .u64 (loN g)] 85 (0,0)):=by
  refine Hand.kb hb3 ?_;first|with_reducible exact g_G|(simp (disch:=try exact Hand.z) only [Hand.q2,Hand.q1,Hand.q5,Hand.q6,Hand.q4,Hand.q3,g_G]<;>rfl)
 have h_P:w3.heap[w2.heap.size]?=some (.cells #[.int .u64 (hiN p),.int .u64 (loN p)] 85 (0,0)):=by
  exact Hand.kb hb3 Hand.k
 have hB':Below w.heap.size w w3:=Hand.stepB hb3 Hand.b (Nat.le_refl _)
 clear HG hB g_A g_R g_G zw z_A z1_A z2_A y0_A y1_A c_A_0 f_A_0 c_A_1 f_A_1 c_A_2 f_A_2 c_A_3 f_A_3 c_A_4 f_A_4 z_R z1_R z2_R y0_R y1_R c_R_0 f_R_0 c_R_1 f_R_1 z_G z1_G z2_G y0_G y1_G c_G_0 f_G_0 c_G_1 f_G_1
 clear hb3
 have g_A:=h_A
 have g_R:=h_R
 have g_G:=h_G
 have g_P:=h_P
 have hB:=hB'
 clear hB' h_A h_R h_G h_P
 obtain ⟨z_A,z1_A,z2_A,y0_A,y1_A⟩:=Hand.hz g_A
 obtain ⟨c_A_0,f_A_0,c_A_1,f_A_1,c_A_2,f_A_2,c_A_3,f_A_3,c_A_4,f_A_4⟩:=Hand.hc5 g_A
 obtain ⟨z_R,z1_R,z2_R,y0_R,y1_R⟩:=Hand.hz g_R
 obtain ⟨c_R_0,f_R_0,c_R_1,f_R_1⟩:=Hand.hc2 g_R
 obtain ⟨z_G,z1_G,z2_G,y0_G,y1_G⟩:=Hand.hz g_G
 obtain ⟨c_G_0,f_G_0,c_G_1,f_G_1⟩:=Hand.hc2 g_G
 obtain ⟨z_P,z1_P,z2_P,y0_P,y1_P⟩:=Hand.hz g_P
 obtain ⟨c_P_0,f_P_0,c_P_1,f_P_1⟩:=Hand.hc2 g_P
 have zw:w.heap.size≤w3.heap.size:=hB.size
 have HG:=Lib.hid (And.intro g_A (And.intro g_R (And.intro g_G (And.intro g_P (hB)))))
 clear g_A g_R g_G g_P hB
 go_wp2_with fail
 obtain ⟨g_A,g_R,g_G,g_P,hB⟩:=HG.out
 obtain ⟨W,hW⟩:∃ W_,W_=(w3.alloc (.cells #[.int .u64 (hiN q),.int .u64 (loN q)] 85)).alloc (.cells #[.int .u64 (hiN q'),.int .u64 (loN q')] 85):=⟨_,rfl⟩
 rw [← hW]
 have h_A:W.heap[w.heap.size]?=some (.cells #[.bool neg,.int .u64 (hiN n),.int .u64 (loN n),.int .u64 (hiN d),.int .u64 (loN d)] 114 (0,0)):=by
  rw [hW]
  first|(simp (disch:=try exact Hand.zt) only [Hand.q2,Hand.q1,Hand.q5,Hand.q6,Hand.q4,Hand.q3,g_A];done)|(simp (disch:=try exact Hand.zt) only [Hand.q2,Hand.q1,Hand.q5,Hand.q6,Hand.q4,Hand.q3,g_A];rfl)
 have h_R:W.heap[w.heap.size+1]?=some (.cells #[.int .i64 0,.int .i64 0] 31 (0,0)):=by
  rw [hW]
  first|(simp (disch:=try exact Hand.zt) only [Hand.q2,Hand.q1,Hand.q5,Hand.q6,Hand.q4,Hand.q3,g_R];done)|(simp (disch:=try exact Hand.zt) only [Hand.q2,Hand.q1,Hand.q5,Hand.q6,Hand.q4,Hand.q3,g_R];rfl)
 have h_G:W.heap[w1.heap.size]?=some (.cells #[.int .u64 (hiN g),.int .u64 (loN g)] 85 (0,0)):=by
  rw [hW]
  first|(simp (disch:=try exact Hand.zt) only [Hand.q2,Hand.q1,Hand.q5,Hand.q6,Hand.q4,Hand.q3,g_G];done)|(simp (disch:=try exact Hand.zt) only [Hand.q2,Hand.q1,Hand.q5,Hand.q6,Hand.q4,Hand.q3,g_G];rfl)
 have h_P:W.heap[w2.heap.size]?=some (.cells #[.int .u64 (hiN p),.int .u64 (loN p)] 85 (0,0)):=by
  rw [hW]
  first|(simp (disch:=try exact Hand.zt) only [Hand.q2,Hand.q1,Hand.q5,Hand.q6,Hand.q4,Hand.q3,g_P];done)|(simp (disch:=try exact Hand.zt) only [Hand.q2,Hand.q1,Hand.q5,Hand.q6,Hand.q4,Hand.q3,g_P];rfl)
 have h_Q:W.heap[w3.heap.size]?=some (.cells #[.int .u64 (hiN q),.int .u64 (loN q)] 85 (0,0)):=by
  rw [hW]
  first|(simp (disch:=try exact Hand.zt) only [Hand.q2,Hand.q1,Hand.q5,Hand.q6,Hand.q4,Hand.q3];done)|(simp (disch:=try exact Hand.zt) only [Hand.q2,Hand.q1,Hand.q5,Hand.q6,Hand.q4,Hand.q3];rfl)
 have hB':Below w.heap.size w W:=by
  rw [hW]
  repeat (first|exact hB|(with_reducible first|apply Below.drew|apply pw_below_drewN|refine Below.setCell ?_ Hand.d _|refine Below.alloc ?_ Hand.z _))
 clear HG hB g_A g_R g_G g_P zw z_A z1_A z2_A y0_A y1_A c_A_0 f_A_0 c_A_1 f_A_1 c_A_2 f_A_2 c_A_3 f_A_3 c_A_4 f_A_4 z_R z1_R z2_R y0_R y1_R c_R_0 f_R_0 c_R_1 f_R_1 z_G z1_G z2_G y0_G y1_G c_G_0 f_G_0 c_G_1 f_G_1 z_P z1_P z2_P y0_P y1_P c_P_0 f_P_0 c_P_1 f_P_1
 clear hW
 have g_A:=h_A
 have g_R:=h_R
 have g_G:=h_G
 have g_P:=h_P
 have g_Q:=h_Q
 have hB:=hB'
 clear hB' h_A h_R h_G h_P h_Q
 obtain ⟨z_A,z1_A,z2_A,y0_A,y1_A⟩:=Hand.hz g_A
 obtain ⟨c_A_0,f_A_0,c_A_1,f_A_1,c_A_2,f_A_2,c_A_3,f_A_3,c_A_4,f_A_4⟩:=Hand.hc5 g_A
 obtain ⟨z_R,z1_R,z2_R,y0_R,y1_R⟩:=Hand.hz g_R
 obtain ⟨c_R_0,f_R_0,c_R_1,f_R_1⟩:=Hand.hc2 g_R
 obtain ⟨z_G,z1_G,z2_G,y0_G,y1_G⟩:=Hand.hz g_G
 obtain ⟨c_G_0,f_G_0,c_G_1,f_G_1⟩:=Hand.hc2 g_G
 obtain ⟨z_P,z1_P,z2_P,y0_P,y1_P⟩:=Hand.hz g_P
 obtain ⟨c_P_0,f_P_0,c_P_1,f_P_1⟩:=Hand.hc2 g_P
 obtain ⟨z_Q,z1_Q,z2_Q,y0_Q,y1_Q⟩:=Hand.hz g_Q
 obtain ⟨c_Q_0,f_Q_0,c_Q_1,f_Q_1⟩:=Hand.hc2 g_Q
 have zw:w.heap.size≤W.heap.size:=hB.size
 have HG:=Lib.hid (And.intro g_A (And.intro g_R (And.intro g_G (And.intro g_P (And.intro g_Q (hB))))))
 clear g_A g_R g_G g_P g_Q hB
 have K0:W.cell? ⟨w2.heap.size,0,none⟩=some (.int .u64 (hiN p))∧W.cell? ⟨w2.heap.size,1,none⟩=some (.int .u64 (loN p))∧W.cell? ⟨w3.heap.size,0,none⟩=some (.int .u64 (hiN q))∧W.cell? ⟨w3.heap.size,1,none⟩=some (.int .u64 (loN q)):=⟨c_P_0,c_P_1,c_Q_0,c_Q_1⟩
 have HK:=Lib.hid K0
 have BD:Below W.heap.size W W.drew:=Below.drew (Below.refl _ _)
 clear K0
 go_region_held3 (fun w'=>Below W.heap.size W w'∧w'.cell? ⟨w2.heap.size,0,none⟩=some (.int .u64 (hiN p))∧w'.cell? ⟨w2.heap.size,1,none⟩=some (.int .u64 (loN p))∧w'.cell? ⟨w3.heap.size,0,none⟩=some (.int .u64 (hiN q))∧w'.cell? ⟨w3.heap.size,1,none⟩=some (.int .u64 (loN q))) (first|exact Hand.keep4 (Below.refl _ _) z_P z_Q HK.out|exact Hand.keep4 (Below.drew (Below.refl _ _)) z_P z_Q HK.out|exact Hand.keep4 BB z_P z_Q HK.out) (first|(go_at_call 87;((with_reducible refine (small62 _).mono ?_);rintro e w4 ⟨rfl,hb⟩;have BB:=Hand.stepB hb (by assumption) (Nat.le_refl _);clear hb))|(go_at_call 52;((with_reducible refine (cmp_any p 4611686018427387904 _).mono ?_);rintro e w5 ⟨rfl,hb⟩;have BB:=Hand.stepB hb (by assumption) (Nat.le_refl _);clear hb))|(go_at_call 87;((with_reducible refine (small31 _).mono ?_);rintro e w6 ⟨rfl,hb⟩;have BB:=Hand.stepB hb (by assumption) (Nat.le_refl _);clear hb))|(go_at_call 52;((with_reducible refine (cmp_any q 2147483648 _).mono ?_);rintro e w7 ⟨rfl,hb⟩;have BB:=Hand.stepB hb (by assumption) (Nat.le_refl _);clear hb)))
 obtain ⟨g_A,g_R,g_G,g_P,g_Q,hB⟩:=HG.out
 have h_A:w7.heap[w.heap.size]?=some (.cells #[.bool neg,.int .u64 (hiN n),.int .u64 (loN n),.int .u64 (hiN d),.int .u64 (loN d)] 114 (0,0)):=by
  refine Hand.kb BB ?_;first|with_reducible exact g_A|(simp (disch:=try exact Hand.z) only [Hand.q2,Hand.q1,Hand.q5,Hand.q6,Hand.q4,Hand.q3,g_A]<;>rfl)
 have h_R:w7.heap[w.heap.size+1]?=some (.cells #[.int .i64 0,.int .i64 0] 31 (0,0)):=by
  refine Hand.kb BB ?_;first|with_reducible exact g_R|(simp (disch:=try exact Hand.z) only [Hand.q2,Hand.q1,Hand.q5,Hand.q6,Hand.q4,Hand.q3,g_R]<;>rfl)
 have h_G:w7.heap[w1.heap.size]?=some (.cells #[.int .u64 (hiN g),.int .u64 (loN g)] 85 (0,0)):=by
  refine Hand.kb BB ?_;first|with_reducible exact g_G|(simp (disch:=try exact Hand.z) only [Hand.q2,Hand.q1,Hand.q5,Hand.q6,Hand.q4,Hand.q3,g_G]<;>rfl)
 have h_P:w7.heap[w2.heap.size]?=some (.cells #[.int .u64 (hiN p),.int .u64 (loN p)] 85 (0,0)):=by
  refine Hand.kb BB ?_;first|with_reducible exact g_P|(simp (disch:=try exact Hand.z) only [Hand.q2,Hand.q1,Hand.q5,Hand.q6,Hand.q4,Hand.q3,g_P]<;>rfl)
 have h_Q:w7.heap[w3.heap.size]?=some (.cells #[.int .u64 (hiN q),.int .u64 (loN q)] 85 (0,0)):=by
  refine Hand.kb BB ?_;first|with_reducible exact g_Q|(simp (disch:=try exact Hand.z) only [Hand.q2,Hand.q1,Hand.q5,Hand.q6,Hand.q4,Hand.q3,g_Q]<;>rfl)
 have hB':Below w.heap.size w w7:=Hand.stepB BB Hand.b (Nat.le_refl _)
 clear HG hB g_A g_R g_G g_P g_Q zw z_A z1_A z2_A y0_A y1_A c_A_0 f_A_0 c_A_1 f_A_1 c_A_2 f_A_2 c_A_3 f_A_3 c_A_4 f_A_4 z_R z1_R z2_R y0_R y1_R c_R_0 f_R_0 c_R_1 f_R_1 z_G z1_G z2_G y0_G y1_G c_G_0 f_G_0 c_G_1 f_G_1 z_P z1_P z2_P y0_P y1_P c_P_0 f_P_0 c_P_1 f_P_1 z_Q z1_Q z2_Q y0_Q y1_Q c_Q_0 f_Q_0 c_Q_1 f_Q_1
 clear BB
 have g_A:=h_A
 have g_R:=h_R
 have g_G:=h_G
 have g_P:=h_P
 have g_Q:=h_Q
 have hB:=hB'
 clear hB' h_A h_R h_G h_P h_Q
 obtain ⟨z_A,z1_A,z2_A,y0_A,y1_A⟩:=Hand.hz g_A
 obtain ⟨c_A_0,f_A_0,c_A_1,f_A_1,c_A_2,f_A_2,c_A_3,f_A_3,c_A_4,f_A_4⟩:=Hand.hc5 g_A
 obtain ⟨z_R,z1_R,z2_R,y0_R,y1_R⟩:=Hand.hz g_R
 obtain ⟨c_R_0,f_R_0,c_R_1,f_R_1⟩:=Hand.hc2 g_R
 obtain ⟨z_G,z1_G,z2_G,y0_G,y1_G⟩:=Hand.hz g_G
 obtain ⟨c_G_0,f_G_0,c_G_1,f_G_1⟩:=Hand.hc2 g_G
 obtain ⟨z_P,z1_P,z2_P,y0_P,y1_P⟩:=Hand.hz g_P
 obtain ⟨c_P_0,f_P_0,c_P_1,f_P_1⟩:=Hand.hc2 g_P
 obtain ⟨z_Q,z1_Q,z2_Q,y0_Q,y1_Q⟩:=Hand.hz g_Q
 obtain ⟨c_Q_0,f_Q_0,c_Q_1,f_Q_1⟩:=Hand.hc2 g_Q
 have zw:w.heap.size≤w7.heap.size:=hB.size
 have HG:=Lib.hid (And.intro g_A (And.intro g_R (And.intro g_G (And.intro g_P (And.intro g_Q (hB))))))
 clear g_A g_R g_G g_P g_Q hB
 cases neg
 ·go_wp2
  obtain ⟨g_A,g_R,g_G,g_P,g_Q,hB⟩:=HG.out
  refine bodyPost_ret (results_ct rfl _ _ (w.heap.size+1) 31 #[.int .i64 (p:Int),.int .i64 (q:Int)] (0,0) _ rfl ?_ Try.underlying31 rfl (by kernel_rfl)) rfl ⟨rfl,?_⟩
  ·simp (disch:=try exact Hand.z) only [Hand.q4,Hand.q1,g_R];rfl
  ·refine Below.alloc ?_ (by simp only [World.size_setCell];omega) _
   exact (hB.setCell Hand.d _).setCell Hand.d _
 ·go_wp2
  obtain ⟨g_A,g_R,g_G,g_P,g_Q,hB⟩:=HG.out
  refine bodyPost_ret (results_ct rfl _ _ (w.heap.size+1) 31 #[.int .i64 (-(p:Int)),.int .i64 (q:Int)] (0,0) _ rfl ?_ Try.underlying31 rfl (by kernel_rfl)) rfl ⟨rfl,?_⟩
  ·simp (disch:=try exact Hand.z) only [Hand.q4,Hand.q1,g_R];rfl
  ·refine Below.alloc ?_ (by simp only [World.size_setCell];omega) _
   exact (hB.setCell Hand.d _).setCell Hand.d _
theorem wrap64_loN {x:Nat} (h:x≤4611686018427387904):wrap64 (loN x)=(x:Int):=by rw [loN_small (by omega)];unfold wrap64;omega
theorem cmpN_pos {x y:Nat}:decide (0<cmpN x y)=decide (y<x):=by
 unfold cmpN
 by_cases h:x=y
 ·subst h;simp
 ·rw [if_neg h]
  by_cases h2:x<y
  ·rw [if_pos h2];simp;omega
  ·rw [if_neg h2];simp;omega
theorem fit_any (neg:Bool) (n d:Nat) (hn:n<340282366920938463463374607431768211456) (hd:d<340282366920938463463374607431768211456) (hd0:0<d) (w:World) :
  Calls Try.prog 84 #[.agg #[.bool neg,.int .u64 (hiN n),.int .u64 (loN n),.int .u64 (hiN d),.int .u64 (loN d)]] w fun e w' =>
   e = .returned (.tuple #[.agg #[.int .i64 (fitS neg n d).1,.int .i64 (fitS neg n d).2.1],.int .i64 (fitS neg n d).2.2])∧Below w.heap.size w w':=by
 unfold fitS
 by_cases h1:n / Nat.gcd n d≤4611686018427387904
 ·by_cases h2:d / Nat.gcd n d≤2147483648
  ·rw [if_pos ⟨h1,h2⟩]
   exact fit_ok neg n d _ _ _ _ _ hn hd hd0 w rfl rfl rfl rfl rfl (by rw [cmpN_pos];exact decide_eq_false (by omega)) (by rw [cmpN_pos];exact decide_eq_false (by omega)) (by omega)
    (wrap64_loN h1) (wrap64_loN (Nat.le_trans h2 (by omega)))
  ·rw [if_neg (by omega)]
   exact fit_wide2 neg n d _ _ _ _ _ hn hd hd0 w rfl rfl rfl rfl rfl (by rw [cmpN_pos];exact decide_eq_false (by omega)) (by rw [cmpN_pos];exact decide_eq_true (by omega))
 ·rw [if_neg (by omega)]
  exact fit_wide neg n d _ _ _ _ _ hn hd hd0 w rfl rfl rfl rfl rfl (by rw [cmpN_pos];exact decide_eq_true (by omega))
end Go.Proofs.Ythlpaglldhgmfaa.PA
namespace Go.Proofs.Ythlpaglldhgmfaa.PA
open Go.RowKit Go.Proofs.YthlpaglldhgmfaaW.PrintWords Go.Proofs.YthlpaglldhgmfaaW.PrintLast Go.Proofs.YthlpaglldhgmfaaW.PrintMore
attribute [local go_sem high] eqA85
set_option linter.unusedSimpArgs false
set_option linter.unusedVariables false
def newS (n d:Int):Int × Int × Int:=if d=0 then (0,0,11) else fitS (decide (n<0) != decide (d<0)) n.natAbs d.natAbs
theorem new_zero (n:Int) (w:World) :
  Calls Try.prog 49 #[.int .i64 n,.int .i64 0] w fun e w'=>e = .returned (.tuple #[.agg #[.int .i64 0,.int .i64 0],.int .i64 11])∧Below w.heap.size w w':=by
 go_enter Try.func49,Try.ntmps49
 go_wp2
 refine bodyPost_ret (v:=.tuple #[.agg #[.int .i64 0,.int .i64 0],.int .i64 11]) (by simp [results,Try.results49,go_sem]) rfl ⟨rfl,?_⟩
 exact (Below.refl _ _).alloc (Nat.le_refl _) _
theorem new_some (n d x y z:Int) (a b:Nat) (neg:Bool) (w:World) (hd:(d == 0)=false) (hn0:-9223372036854775808≤n) (hn1:n≤9223372036854775807) (hd0:-9223372036854775808≤d) (hd1:d≤9223372036854775807)
  (ha:n.natAbs=a) (hb:d.natAbs=b) (hneg:(!(decide (n<0) == decide (d<0)))=neg) (hf:fitS neg a b=(x,y,z)) :
  Calls Try.prog 49 #[.int .i64 n,.int .i64 d] w fun e w'=>e = .returned (.tuple #[.agg #[.int .i64 x,.int .i64 y],.int .i64 z])∧Below w.heap.size w w':=by
 have hd':d≠0:=by simpa using hd
 have ha2:a<18446744073709551616:=by omega
 have hb2:b<18446744073709551616:=by omega
 have hb0:0<b:=by omega
 have HF:=Lib.hid hf
 have HA:=Lib.hid (And.intro ha hb)
 clear hf ha hb
 go_enter Try.func49,Try.ntmps49
 go_wp2_with fail
 with_reducible refine (size_any n hn0 hn1 _).mono ?_
 rintro e w1 ⟨rfl,hr1⟩
 obtain ⟨q1,rfl⟩:=hr1.out
 clear hr1
 rw [HA.out.1]
 go_wp2_with fail
 with_reducible refine (small_any a ha2 _).mono ?_
 rintro e w2 ⟨rfl,hb2⟩
 have h_R:w2.heap[w.heap.size]?=some (.cells #[.int .i64 0,.int .i64 0] 31 (0,0)):=by
  exact Hand.kb hb2 Hand.k
 have hB':Below w.heap.size w w2:=Hand.stepB hb2 Hand.b (Nat.le_refl _)
 clear hb2
 have g_R:=h_R
 have hB:=hB'
 clear hB' h_R
 obtain ⟨z_R,z1_R,z2_R,y0_R,y1_R⟩:=Hand.hz g_R
 obtain ⟨c_R_0,f_R_0,c_R_1,f_R_1⟩:=Hand.hc2 g_R
 have zw:w.heap.size≤w2.heap.size:=hB.size
 have HG:=Lib.hid (And.intro g_R (hB))
 clear g_R hB
 go_wp2_with fail
 with_reducible refine (size_any d hd0 hd1 _).mono ?_
 rintro e w3 ⟨rfl,hr3⟩
 obtain ⟨q3,rfl⟩:=hr3.out
 rw [HA.out.2]
 clear hr3
 go_wp2_with fail
 with_reducible refine (small_any b (by omega) _).mono ?_
 rintro e w4 ⟨rfl,hb4⟩
 obtain ⟨g_R,hB⟩:=HG.out
 have h_R:w4.heap[w.heap.size]?=some (.cells #[.int .i64 0,.int .i64 0] 31 (0,0)):=by
  refine Hand.kb hb4 ?_;first|with_reducible exact g_R|(simp (disch:=try exact Hand.z) only [Hand.q2,Hand.q1,Hand.q5,Hand.q6,Hand.q4,Hand.q3,g_R]<;>rfl)
 have hB':Below w.heap.size w w4:=Hand.stepB hb4 Hand.b (Nat.le_refl _)
 clear HG hB g_R zw z_R z1_R z2_R y0_R y1_R c_R_0 f_R_0 c_R_1 f_R_1
 clear hb4
 have g_R:=h_R
 have hB:=hB'
 clear hB' h_R
 obtain ⟨z_R,z1_R,z2_R,y0_R,y1_R⟩:=Hand.hz g_R
 obtain ⟨c_R_0,f_R_0,c_R_1,f_R_1⟩:=Hand.hc2 g_R
 have zw:w.heap.size≤w4.heap.size:=hB.size
 have HG:=Lib.hid (And.intro g_R (hB))
 clear g_R hB
 go_wp2_with fail
 with_reducible refine (fit_any neg a b (by omega) (by omega) hb0 _).mono ?_
 rintro e w5 ⟨rfl,hb5⟩
 rw [HF.out]
 obtain ⟨g_R,hB⟩:=HG.out
 have h_R:w5.heap[w.heap.size]?=some (.cells #[.int .i64 0,.int .i64 0] 31 (0,0)):=by
  refine Hand.kb hb5 ?_;first|with_reducible exact g_R|(simp (disch:=try exact Hand.z) only [Hand.q2,Hand.q1,Hand.q5,Hand.q6,Hand.q4,Hand.q3,g_R]<;>rfl)
 have hB':Below w.heap.size w w5:=Hand.stepB hb5 Hand.b (Nat.le_refl _)
 clear HG hB g_R zw z_R z1_R z2_R y0_R y1_R c_R_0 f_R_0 c_R_1 f_R_1
 clear hb5
 have g_R:=h_R
 have hB:=hB'
 clear hB' h_R
 obtain ⟨z_R,z1_R,z2_R,y0_R,y1_R⟩:=Hand.hz g_R
 obtain ⟨c_R_0,f_R_0,c_R_1,f_R_1⟩:=Hand.hc2 g_R
 have zw:w.heap.size≤w5.heap.size:=hB.size
 have HG:=Lib.hid (And.intro g_R (hB))
 clear g_R hB
 go_wp2
 obtain ⟨g_R,hB⟩:=HG.out
 refine bodyPost_ret (results_ct rfl _ _ (w.heap.size) 31 #[.int .i64 x,.int .i64 y] (0,0) _ rfl ?_ Try.underlying31 rfl (by kernel_rfl)) rfl ⟨rfl,?_⟩
 ·simp (disch:=omega) only [Hand.q1,g_R];rfl
 ·exact (hB.setCell Hand.d _).setCell Hand.d _
theorem new_any (n d:Int) (w:World) (hn0:-9223372036854775808≤n) (hn1:n≤9223372036854775807) (hd0:-9223372036854775808≤d) (hd1:d≤9223372036854775807) :
  Calls Try.prog 49 #[.int .i64 n,.int .i64 d] w fun e w'=>e = .returned (.tuple #[.agg #[.int .i64 (newS n d).1,.int .i64 (newS n d).2.1],.int .i64 (newS n d).2.2])∧Below w.heap.size w w':=by
 unfold newS
 by_cases h:d=0
 ·subst h;rw [if_pos rfl];exact new_zero n w
 ·rw [if_neg h];exact new_some n d _ _ _ _ _ _ w (beq_eq_false_iff_ne.mpr h) hn0 hn1 hd0 hd1 rfl rfl rfl rfl
theorem eqA31 (d:Nat) (w:World) (x0 y0:Int) (x1 y1:Int) :
  (Op.equalIn (d+2) 31 (.agg #[.int .i64 x0,.int .i64 x1]) (.agg #[.int .i64 y0,.int .i64 y1])).run Try.prog w = .ok (x0 == y0 && (x1 == y1)) w:=by
 refine eqA_of Try.underlying31 (by kernel_rfl) ?_
 refine eqf_cons (by rfl) (by go_simp;rfl) (by go_simp;rfl) (by go_simp) ?_
 exact eqf_last (by rfl) (by go_simp;rfl) (by go_simp;rfl) (by go_simp)
attribute [local go_sem high] eqA31
def rightS (n d:Int):Bool:=decide (1≤d) && decide (newS n d=(n,d,0))
theorem right_low (n d:Int) (w:World) (h:decide (d<1)=true) :
  Calls Try.prog 17 #[.agg #[.int .i64 n,.int .i64 d]] w fun e w'=>e = .returned (.bool false)∧Below w.heap.size w w':=by
 go_enter Try.func17,Try.ntmps17
 go_wp2
 all_goals go_ret
 all_goals exact ⟨rfl,(Below.refl _ _).alloc (Nat.le_refl _) _⟩
theorem right_err (n d x y z:Int) (w:World) (h:decide (d<1)=false) (hn0:-9223372036854775808≤n) (hn1:n≤9223372036854775807) (hd0:-9223372036854775808≤d) (hd1:d≤9223372036854775807)
  (hs:newS n d=(x,y,z)) (hz:(z == 0)=false) :
  Calls Try.prog 17 #[.agg #[.int .i64 n,.int .i64 d]] w fun e w'=>e = .returned (.bool false)∧Below w.heap.size w w':=by
 have HS:=Lib.hid hs
 clear hs
 go_enter Try.func17,Try.ntmps17
 go_wp2_with fail
 with_reducible refine (new_any n d _ hn0 hn1 hd0 hd1).mono ?_
 rintro e w1 ⟨rfl,hb1⟩
 rw [HS.out]
 have h_R:w1.heap[w.heap.size]?=some (.cells #[.int .i64 n,.int .i64 d] 31 (0,0)):=by
  exact Hand.kb hb1 Hand.k
 have hB':Below w.heap.size w w1:=Hand.stepB hb1 Hand.b (Nat.le_refl _)
 clear hb1
 have g_R:=h_R
 have hB:=hB'
 clear hB' h_R
 obtain ⟨z_R,z1_R,z2_R,y0_R,y1_R⟩:=Hand.hz g_R
 obtain ⟨c_R_0,f_R_0,c_R_1,f_R_1⟩:=Hand.hc2 g_R
 have zw:w.heap.size≤w1.heap.size:=hB.size
 have HG:=Lib.hid (And.intro g_R (hB))
 clear g_R hB
 go_wp2
 obtain ⟨g_R,hB⟩:=HG.out
 go_ret
 exact ⟨rfl,hB.alloc (by omega) _⟩
theorem right_ok (n d x y:Int) (w:World) (h:decide (d<1)=false) (hn0:-9223372036854775808≤n) (hn1:n≤9223372036854775807) (hd0:-9223372036854775808≤d) (hd1:d≤9223372036854775807)
  (hs:newS n d=(x,y,0)) :
  Calls Try.prog 17 #[.agg #[.int .i64 n,.int .i64 d]] w fun e w'=>e = .returned (.bool (x == n && y == d))∧Below w.heap.size w w':=by
 have HS:=Lib.hid hs
 clear hs
 go_enter Try.func17,Try.ntmps17
 go_wp2_with fail
 with_reducible refine (new_any n d _ hn0 hn1 hd0 hd1).mono ?_
 rintro e w1 ⟨rfl,hb1⟩
 rw [HS.out]
 have h_R:w1.heap[w.heap.size]?=some (.cells #[.int .i64 n,.int .i64 d] 31 (0,0)):=by
  exact Hand.kb hb1 Hand.k
 have hB':Below w.heap.size w w1:=Hand.stepB hb1 Hand.b (Nat.le_refl _)
 clear hb1
 have g_R:=h_R
 have hB:=hB'
 clear hB' h_R
 obtain ⟨z_R,z1_R,z2_R,y0_R,y1_R⟩:=Hand.hz g_R
 obtain ⟨c_R_0,f_R_0,c_R_1,f_R_1⟩:=Hand.hc2 g_R
 have zw:w.heap.size≤w1.heap.size:=hB.size
 have HG:=Lib.hid (And.intro g_R (hB))
 clear g_R hB
 go_wp2
 obtain ⟨g_R,hB⟩:=HG.out
 go_ret
 exact ⟨rfl,hB.alloc (by omega) _⟩
theorem right_any (n d:Int) (w:World) (hn0:-9223372036854775808≤n) (hn1:n≤9223372036854775807) (hd0:-9223372036854775808≤d) (hd1:d≤9223372036854775807) :
  Calls Try.prog 17 #[.agg #[.int .i64 n,.int .i64 d]] w fun e w'=>e = .returned (.bool (rightS n d))∧Below w.heap.size w w':=by
 unfold rightS
 by_cases h:1≤d
 ·obtain ⟨x,y,z,hs⟩:∃ x y z,newS n d=(x,y,z):=⟨_,_,_,rfl⟩
  rw [hs,decide_eq_true h]
  by_cases hz:z=0
  ·subst hz
   have e:(true && decide ((x,y,(0:Int))=(n,d,0)))=(x == n && y == d):=by
    rw [Bool.eq_iff_iff];simp
   rw [e]
   exact right_ok n d x y w (decide_eq_false (by omega)) hn0 hn1 hd0 hd1 hs
  ·have e:(true && decide ((x,y,z)=(n,d,0)))=false:=by simp [hz]
   rw [e]
   exact right_err n d x y z w (decide_eq_false (by omega)) hn0 hn1 hd0 hd1 hs (beq_eq_false_iff_ne.mpr hz)
 ·rw [decide_eq_false h]
  exact right_low n d w (decide_eq_true (by omega))
end Go.Proofs.Ythlpaglldhgmfaa.PA
