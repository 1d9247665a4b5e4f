/- right of two; Mul, Div, Cmp. Mul, Div, Cmp. Cmp, by, Div. by, Div, Sub. -/
import Derived.Test.YthlpaglldhgmfaaM1
set_option maxHeartbeats 2000000
set_option maxRecDepth 100000
namespace Go.Proofs.Ythlpaglldhgmfaa.PA
open Go.RowKit Go.Proofs.YthlpaglldhgmfaaW.PrintWords Go.Proofs.YthlpaglldhgmfaaW.PrintLast Go.Proofs.YthlpaglldhgmfaaW.PrintMore
attribute [local go_sem high] eqA85 eqA31
set_option linter.unusedSimpArgs false
set_option linter.unusedVariables false
theorem right_two (a b c d:Int) (g:Nat) (w:World) (ha0:-9223372036854775808≤a) (ha1:a≤9223372036854775807) (hb0:-9223372036854775808≤b) (hb1:b≤9223372036854775807)
  (hc0:-9223372036854775808≤c) (hc1:c≤9223372036854775807) (hd0:-9223372036854775808≤d) (hd1:d≤9223372036854775807)
  (hg:w.heap[g]?=some (.cells #[.int .i64 a,.int .i64 b,.int .i64 c,.int .i64 d] 31 (0,0))) :
  Calls Try.prog 81 #[.slice (some ⟨g,0,none⟩) 2 2] w fun e w'=>e = .returned (.bool (rightS a b && rightS c d))∧Below w.heap.size w w':=by
 have hgl:g<w.heap.size:=World.block_lt_of_cell? w _ (Hand.cell_of hg 0 _ rfl)
 have HH:=Lib.hid hg
 clear hg
 go_enter Try.func81,Try.ntmps81
 go_wp2
 go_loopw [7] (fun i wr=>∃ k:Nat,k≤2∧i = .int .i64 k∧(1≤k → rightS a b=true)∧(2≤k → rightS c d=true)∧Below w.heap.size w wr) (fun i _=>2 - (intOf i).toNat)
 case atStart=>exact ⟨0,by omega,rfl,fun h=>by omega,fun h=>by omega,Below.refl _ _⟩
 case round =>
  obtain ⟨k,hk,rfl,h1,h2,hB⟩:=hrel
  have g_A:=(Hand.hp_below hB hgl).trans HH.out
  have H12:=Lib.hid (And.intro h1 h2)
  clear h1 h2
  obtain ⟨z_A,z1_A,z2_A,y0_A,y1_A⟩:=Hand.hz g_A
  obtain ⟨c_A_0,f_A_0,c_A_1,f_A_1,c_A_2,f_A_2,c_A_3,f_A_3⟩:=Hand.hc4 g_A
  have zw:w.heap.size≤wr.heap.size:=hB.size
  have HG:=Lib.hid (And.intro g_A (hB))
  clear g_A hB
  by_cases k0:k=0
  ·subst k0
   by_cases hr:rightS a b=true
   ·go_wp2_with fail
    with_reducible refine (right_any a b _ ha0 ha1 hb0 hb1).mono ?_
    rintro e w1 ⟨rfl,hb9⟩
    obtain ⟨g_A,hB⟩:=HG.out
    have h_A:w1.heap[g]?=some (.cells #[.int .i64 a,.int .i64 b,.int .i64 c,.int .i64 d] 31 (0,0)):=by
     refine Hand.kb hb9 ?_;first|with_reducible exact g_A|(simp (disch:=try exact Hand.z) only [Hand.q2,Hand.q1,Hand.q5,Hand.q6,Hand.q4,Hand.q3,g_A]<;>rfl)
    have hB':Below w.heap.size w w1:=Hand.stepB hb9 Hand.b (Nat.le_refl _)
    clear HG hB g_A zw z_A z1_A z2_A y0_A y1_A c_A_0 f_A_0 c_A_1 f_A_1 c_A_2 f_A_2 c_A_3 f_A_3
    clear hb9
    have g_A:=h_A
    have hB:=hB'
    clear hB' h_A
    obtain ⟨z_A,z1_A,z2_A,y0_A,y1_A⟩:=Hand.hz g_A
    obtain ⟨c_A_0,f_A_0,c_A_1,f_A_1,c_A_2,f_A_2,c_A_3,f_A_3⟩:=Hand.hc4 g_A
    have zw:w.heap.size≤w1.heap.size:=hB.size
    have HG:=Lib.hid (And.intro g_A (hB))
    clear g_A hB
    go_wp2
    go_roundw
    case rel =>
     obtain ⟨g_A,hB⟩:=HG.out
     exact ⟨1,by omega,rfl,fun _=>hr,fun h=>by omega,hB⟩
    case measure=>simp [intOf]
   ·have hr':rightS a b=false:=by simpa using hr
    clear hr
    go_wp2_with fail
    with_reducible refine (right_any a b _ ha0 ha1 hb0 hb1).mono ?_
    rintro e w1 ⟨rfl,hb9⟩
    obtain ⟨g_A,hB⟩:=HG.out
    have h_A:w1.heap[g]?=some (.cells #[.int .i64 a,.int .i64 b,.int .i64 c,.int .i64 d] 31 (0,0)):=by
     refine Hand.kb hb9 ?_;first|with_reducible exact g_A|(simp (disch:=try exact Hand.z) only [Hand.q2,Hand.q1,Hand.q5,Hand.q6,Hand.q4,Hand.q3,g_A]<;>rfl)
    have hB':Below w.heap.size w w1:=Hand.stepB hb9 Hand.b (Nat.le_refl _)
    clear HG hB g_A zw z_A z1_A z2_A y0_A y1_A c_A_0 f_A_0 c_A_1 f_A_1 c_A_2 f_A_2 c_A_3 f_A_3
    clear hb9
    have g_A:=h_A
    have hB:=hB'
    clear hB' h_A
    obtain ⟨z_A,z1_A,z2_A,y0_A,y1_A⟩:=Hand.hz g_A
    obtain ⟨c_A_0,f_A_0,c_A_1,f_A_1,c_A_2,f_A_2,c_A_3,f_A_3⟩:=Hand.hc4 g_A
    have zw:w.heap.size≤w1.heap.size:=hB.size
    have HG:=Lib.hid (And.intro g_A (hB))
    clear g_A hB
    go_wp2
    obtain ⟨g_A,hB⟩:=HG.out
    go_ret
    exact ⟨by rw [hr'];rfl,hB⟩
  ·by_cases k1:k=1
   ·subst k1
    by_cases hr:rightS c d=true
    ·go_wp2_with fail
     with_reducible refine (right_any c d _ hc0 hc1 hd0 hd1).mono ?_
     rintro e w1 ⟨rfl,hb9⟩
     obtain ⟨g_A,hB⟩:=HG.out
     have h_A:w1.heap[g]?=some (.cells #[.int .i64 a,.int .i64 b,.int .i64 c,.int .i64 d] 31 (0,0)):=by
      refine Hand.kb hb9 ?_;first|with_reducible exact g_A|(simp (disch:=try exact Hand.z) only [Hand.q2,Hand.q1,Hand.q5,Hand.q6,Hand.q4,Hand.q3,g_A]<;>rfl)
     have hB':Below w.heap.size w w1:=Hand.stepB hb9 Hand.b (Nat.le_refl _)
     clear HG hB g_A zw z_A z1_A z2_A y0_A y1_A c_A_0 f_A_0 c_A_1 f_A_1 c_A_2 f_A_2 c_A_3 f_A_3
     clear hb9
     have g_A:=h_A
     have hB:=hB'
     clear hB' h_A
     obtain ⟨z_A,z1_A,z2_A,y0_A,y1_A⟩:=Hand.hz g_A
     obtain ⟨c_A_0,f_A_0,c_A_1,f_A_1,c_A_2,f_A_2,c_A_3,f_A_3⟩:=Hand.hc4 g_A
     have zw:w.heap.size≤w1.heap.size:=hB.size
     have HG:=Lib.hid (And.intro g_A (hB))
     clear g_A hB
     go_wp2
     go_roundw
     case rel =>
      obtain ⟨g_A,hB⟩:=HG.out
      exact ⟨2,by omega,rfl,fun _=>H12.out.1 (by omega),fun _=>hr,hB⟩
     case measure=>simp [intOf]
    ·have hr':rightS c d=false:=by simpa using hr
     clear hr
     go_wp2_with fail
     with_reducible refine (right_any c d _ hc0 hc1 hd0 hd1).mono ?_
     rintro e w1 ⟨rfl,hb9⟩
     obtain ⟨g_A,hB⟩:=HG.out
     have h_A:w1.heap[g]?=some (.cells #[.int .i64 a,.int .i64 b,.int .i64 c,.int .i64 d] 31 (0,0)):=by
      refine Hand.kb hb9 ?_;first|with_reducible exact g_A|(simp (disch:=try exact Hand.z) only [Hand.q2,Hand.q1,Hand.q5,Hand.q6,Hand.q4,Hand.q3,g_A]<;>rfl)
     have hB':Below w.heap.size w w1:=Hand.stepB hb9 Hand.b (Nat.le_refl _)
     clear HG hB g_A zw z_A z1_A z2_A y0_A y1_A c_A_0 f_A_0 c_A_1 f_A_1 c_A_2 f_A_2 c_A_3 f_A_3
     clear hb9
     have g_A:=h_A
     have hB:=hB'
     clear hB' h_A
     obtain ⟨z_A,z1_A,z2_A,y0_A,y1_A⟩:=Hand.hz g_A
     obtain ⟨c_A_0,f_A_0,c_A_1,f_A_1,c_A_2,f_A_2,c_A_3,f_A_3⟩:=Hand.hc4 g_A
     have zw:w.heap.size≤w1.heap.size:=hB.size
     have HG:=Lib.hid (And.intro g_A (hB))
     clear g_A hB
     go_wp2
     obtain ⟨g_A,hB⟩:=HG.out
     go_ret
     exact ⟨by rw [hr',Bool.and_false];rfl,hB⟩
   ·obtain rfl:k=2:=by omega
    go_wp2
    obtain ⟨g_A,hB⟩:=HG.out
    go_ret
    exact ⟨by rw [H12.out.1 (by omega),H12.out.2 (by omega)];rfl,hB⟩
theorem fitS_ok {neg:Bool} {n d:Nat} {x y:Int} (h:fitS neg n d=(x,y,0)):n / Nat.gcd n d≤4611686018427387904∧d / Nat.gcd n d≤2147483648∧x=(if neg then -((n / Nat.gcd n d:Nat):Int) else ((n / Nat.gcd n d:Nat):Int))∧y=((d / Nat.gcd n d:Nat):Int):=by
 unfold fitS at h
 split at h
 ·rename_i hc
  simp only [Prod.mk.injEq] at h
  exact ⟨hc.1,hc.2,h.1.symm,h.2.1.symm⟩
 ·simp at h
theorem right_bounds {n d:Int} (h:rightS n d=true):1≤d∧d≤2147483648∧n.natAbs≤4611686018427387904∧Nat.gcd n.natAbs d.natAbs=1:=by
 unfold rightS at h
 rw [Bool.and_eq_true,decide_eq_true_eq,decide_eq_true_eq] at h
 obtain ⟨h1,h2⟩:=h
 unfold newS at h2
 rw [if_neg (by omega)] at h2
 obtain ⟨a,b,c,e⟩:=fitS_ok h2
 have hg:0<Nat.gcd n.natAbs d.natAbs:=Nat.gcd_pos_of_pos_right _ (by omega)
 have hd:d.natAbs / Nat.gcd n.natAbs d.natAbs=d.natAbs:=by omega
 have hg1:Nat.gcd n.natAbs d.natAbs=1:=by
  have:=Nat.div_mul_cancel (Nat.gcd_dvd_right n.natAbs d.natAbs)
  rw [hd] at this
  have h3:d.natAbs*Nat.gcd n.natAbs d.natAbs=d.natAbs*1:=by omega
  exact Nat.eq_of_mul_eq_mul_left (by omega) h3
 rw [hg1,Nat.div_one] at a b
 exact ⟨h1,by omega,a,hg1⟩
def mulS (a b c d:Int):Int × Int × Int:=if rightS a b && rightS c d then fitS (decide (a<0) != decide (c<0)) (a.natAbs*c.natAbs) (b.natAbs*d.natAbs) else (0,0,12)
theorem mul_ok (a b c d x y z:Int) (p q:Nat) (neg:Bool) (w:World) (h1:rightS a b=true) (h2:rightS c d=true)
  (hp:a.natAbs*c.natAbs=p) (hq:b.natAbs*d.natAbs=q) (hneg:(!(decide (a<0) == decide (c<0)))=neg) (hf:fitS neg p q=(x,y,z)) :
  Calls Try.prog 80 #[.agg #[.int .i64 a,.int .i64 b],.agg #[.int .i64 c,.int .i64 d]] w fun e w'=>e = .returned (.tuple #[.agg #[.int .i64 x,.int .i64 y],.int .i64 z])∧Below w.heap.size w w':=by
 obtain ⟨b1,b2,b3,_⟩:=right_bounds h1
 obtain ⟨d1,d2,d3,_⟩:=right_bounds h2
 have pb:p<340282366920938463463374607431768211456:=by rw [← hp];exact Nat.lt_of_le_of_lt (Nat.mul_le_mul b3 d3) (by omega)
 have qb:q<340282366920938463463374607431768211456:=by rw [← hq];exact Nat.lt_of_le_of_lt (Nat.mul_le_mul (show b.natAbs≤2147483648 by omega) (show d.natAbs≤2147483648 by omega)) (by omega)
 have q0:0<q:=by rw [← hq];exact Nat.mul_pos (by omega) (by omega)
 have eb:IntKind.u64.wrap b=(b.natAbs:Int):=by rw [U64.wrap_u64];omega
 have ed:IntKind.u64.wrap d=(d.natAbs:Int):=by rw [U64.wrap_u64];omega
 have m1:∀ w,Calls Try.prog 50 #[.int .u64 (a.natAbs:Int),.int .u64 (c.natAbs:Int)] w fun e w'=>e = .returned (.agg #[.int .u64 (hiN p),.int .u64 (loN p)])∧Below w.heap.size w w':=fun w=>by rw [← hp];exact mul_any _ _ (by omega) (by omega) w
 have m2:∀ w,Calls Try.prog 50 #[.int .u64 (b.natAbs:Int),.int .u64 (d.natAbs:Int)] w fun e w'=>e = .returned (.agg #[.int .u64 (hiN q),.int .u64 (loN q)])∧Below w.heap.size w w':=fun w=>by rw [← hq];exact mul_any _ _ (by omega) (by omega) w
 have m3:∀ w,Calls Try.prog 84 #[.agg #[.bool neg,.int .u64 (hiN p),.int .u64 (loN p),.int .u64 (hiN q),.int .u64 (loN q)]] w fun e w'=>e = .returned (.tuple #[.agg #[.int .i64 x,.int .i64 y],.int .i64 z])∧Below w.heap.size w w':=fun w=>by
  have:=fit_any neg p q pb qb q0 w;rw [hf] at this;exact this
 have s1:∀ w,Calls Try.prog 51 #[.int .i64 a] w fun e w'=>e = .returned (.int .u64 (a.natAbs:Int))∧Drawn0 w w':=size_any a (by omega) (by omega)
 have s2:∀ w,Calls Try.prog 51 #[.int .i64 c] w fun e w'=>e = .returned (.int .u64 (c.natAbs:Int))∧Drawn0 w w':=size_any c (by omega) (by omega)
 have rt:∀ g w,w.heap[g]?=some (.cells #[.int .i64 a,.int .i64 b,.int .i64 c,.int .i64 d] 31 (0,0)) → Calls Try.prog 81 #[.slice (some ⟨g,0,none⟩) 2 2] w fun e w'=>e = .returned (.bool true)∧Below w.heap.size w w':=fun g w hg=>by
  have:=right_two a b c d g w (by omega) (by omega) (by omega) (by omega) (by omega) (by omega) (by omega) (by omega) hg
  rw [h1,h2] at this;exact this
 have M1:=Lib.hid m1
 have M2:=Lib.hid m2
 have M3:=Lib.hid m3
 have S1:=Lib.hid s1
 have S2:=Lib.hid s2
 have RT:=Lib.hid rt
 clear m1 m2 m3 s1 s2 rt hp hq hf h1 h2
 go_enter Try.func80,Try.ntmps80
 go_wp2_with fail
 with_reducible refine (RT.out _ _ ?_).mono ?_
 ·simp (disch:=try exact Hand.z) only [Hand.q3]
 rintro e w1 ⟨rfl,hb1⟩
 have h_A:w1.heap[w.heap.size]?=some (.cells #[.int .i64 a,.int .i64 b] 31 (0,0)):=by
  exact Hand.kb hb1 Hand.k
 have h_B:w1.heap[w.heap.size+1]?=some (.cells #[.int .i64 c,.int .i64 d] 31 (0,0)):=by
  exact Hand.kb hb1 Hand.k
 have h_R:w1.heap[w.heap.size+1+1]?=some (.cells #[.int .i64 0,.int .i64 0] 31 (0,0)):=by
  exact Hand.kb hb1 Hand.k
 have hB':Below w.heap.size w w1:=Hand.stepB hb1 Hand.b (Nat.le_refl _)
 clear hb1
 have g_A:=h_A
 have g_B:=h_B
 have g_R:=h_R
 have hB:=hB'
 clear hB' h_A h_B h_R
 obtain ⟨z_A,z1_A,z2_A,y0_A,y1_A⟩:=Hand.hz g_A
 obtain ⟨c_A_0,f_A_0,c_A_1,f_A_1⟩:=Hand.hc2 g_A
 obtain ⟨z_B,z1_B,z2_B,y0_B,y1_B⟩:=Hand.hz g_B
 obtain ⟨c_B_0,f_B_0,c_B_1,f_B_1⟩:=Hand.hc2 g_B
 obtain ⟨z_R,z1_R,z2_R,y0_R,y1_R⟩:=Hand.hz g_R
 obtain ⟨c_R_0,f_R_0,c_R_1,f_R_1⟩:=Hand.hc2 g_R
 have zw:w.heap.size≤w1.heap.size:=hB.size
 have HG:=Lib.hid (And.intro g_A (And.intro g_B (And.intro g_R (hB))))
 clear g_A g_B g_R hB
 go_wp2
 have HBW:=Lib.hid (HG.out.2.2.2)
 have HK:=Lib.hid (And.intro c_A_0 (And.intro c_A_1 (And.intro c_B_0 (c_B_1))))
 have HR_R:=Lib.hid (And.intro c_R_0 (And.intro f_R_0 (And.intro c_R_1 (f_R_1))))
 have BD:Below w1.heap.size w1 w1.drew:=Below.drew (Below.refl _ _)
 have BR:Below w1.heap.size w1 w1:=Below.refl _ _
 go_region_held3 (fun w_=>Below w.heap.size w w_∧w_.cell? ⟨w.heap.size,0,none⟩=some (.int .i64 a)∧w_.cell? ⟨w.heap.size,1,none⟩=some (.int .i64 b)∧w_.cell? ⟨w.heap.size+1,0,none⟩=some (.int .i64 c)∧w_.cell? ⟨w.heap.size+1,1,none⟩=some (.int .i64 d)) (first|with_reducible exact ⟨Below.setCell (Below.setCell (HBW.out.trans (Below.mono BB zw)) Hand.d _) Hand.d _,Hand.cell_far (by omega) (Hand.cell_far (by omega) ((Below.cell BB (p:=⟨w.heap.size,0,none⟩) z_A).trans (HK.out.1))),Hand.cell_far (by omega) (Hand.cell_far (by omega) ((Below.cell BB (p:=⟨w.heap.size,1,none⟩) z_A).trans (HK.out.2.1))),Hand.cell_far (by omega) (Hand.cell_far (by omega) ((Below.cell BB (p:=⟨w.heap.size+1,0,none⟩) z_B).trans (HK.out.2.2.1))),Hand.cell_far (by omega) (Hand.cell_far (by omega) ((Below.cell BB (p:=⟨w.heap.size+1,1,none⟩) z_B).trans (HK.out.2.2.2)))⟩|with_reducible (refine ⟨?_,(Below.cell BR (p:=⟨w.heap.size,0,none⟩) z_A).trans (HK.out.1),(Below.cell BR (p:=⟨w.heap.size,1,none⟩) z_A).trans (HK.out.2.1),(Below.cell BR (p:=⟨w.heap.size+1,0,none⟩) z_B).trans (HK.out.2.2.1),(Below.cell BR (p:=⟨w.heap.size+1,1,none⟩) z_B).trans (HK.out.2.2.2)⟩;apply (HBW.out.trans (Below.mono BR zw)))|with_reducible (refine ⟨?_,(Below.cell BD (p:=⟨w.heap.size,0,none⟩) z_A).trans (HK.out.1),(Below.cell BD (p:=⟨w.heap.size,1,none⟩) z_A).trans (HK.out.2.1),(Below.cell BD (p:=⟨w.heap.size+1,0,none⟩) z_B).trans (HK.out.2.2.1),(Below.cell BD (p:=⟨w.heap.size+1,1,none⟩) z_B).trans (HK.out.2.2.2)⟩;apply (HBW.out.trans (Below.mono BD zw)))|with_reducible (refine ⟨?_,(Below.cell BB (p:=⟨w.heap.size,0,none⟩) z_A).trans (HK.out.1),(Below.cell BB (p:=⟨w.heap.size,1,none⟩) z_A).trans (HK.out.2.1),(Below.cell BB (p:=⟨w.heap.size+1,0,none⟩) z_B).trans (HK.out.2.2.1),(Below.cell BB (p:=⟨w.heap.size+1,1,none⟩) z_B).trans (HK.out.2.2.2)⟩;apply (HBW.out.trans (Below.mono BB zw)))) (first|(go_at_call 51;((with_reducible refine (S1.out _).mono ?_);rintro e w2 ⟨rfl,hb_⟩;have BB:Below w1.heap.size w1 w2:=Hand.stepB hb_.below (by assumption) (Nat.le_refl _);have zB_w2:=Below.size BB;clear hb_))|(go_at_call 51;((with_reducible refine (S2.out _).mono ?_);rintro e w3 ⟨rfl,hb_⟩;have BB:Below w1.heap.size w1 w3:=Hand.stepB hb_.below (by assumption) (Nat.le_refl _);have zB_w3:=Below.size BB;clear hb_))|(go_at_call 50;((with_reducible refine (M1.out _).mono ?_);rintro e w4 ⟨rfl,hb_⟩;have BB:Below w1.heap.size w1 w4:=Hand.stepB hb_ (by assumption) (Nat.le_refl _);have zB_w4:=Below.size BB;clear hb_))|(go_at_call 50;((with_reducible refine (M2.out _).mono ?_);rintro e w5 ⟨rfl,hb_⟩;have BB:Below w1.heap.size w1 w5:=Hand.stepB hb_ (by assumption) (Nat.le_refl _);have zB_w5:=Below.size BB;clear hb_))|(go_at_call 84;((with_reducible refine (M3.out _).mono ?_);rintro e w6 ⟨rfl,hb_⟩;have BB:Below w1.heap.size w1 w6:=Hand.stepB hb_ (by assumption) (Nat.le_refl _);have zB_w6:=Below.size BB;clear hb_;(try clear rR_0 sR_0 rR_1 sR_1);have rR_0:=(Below.cell BB (p:=⟨w.heap.size+1+1,0,none⟩) z_R).trans (HR_R.out.1);have sR_0:=(Below.frozen BB (p:=⟨w.heap.size+1+1,0,none⟩) z_R).trans (HR_R.out.2.1);have rR_1:=(Below.cell BB (p:=⟨w.heap.size+1+1,1,none⟩) z_R).trans (HR_R.out.2.2.1);have sR_1:=(Below.frozen BB (p:=⟨w.heap.size+1+1,1,none⟩) z_R).trans (HR_R.out.2.2.2))))
 go_wp2
 obtain ⟨g_A,g_B,g_R,hB⟩:=HG.out
 have g6:=(Hand.hp_below BB z_R).trans g_R
 refine bodyPost_ret (results_ct rfl _ _ (w.heap.size+1+1) 31 #[.int .i64 x,.int .i64 y] (0,0) _ rfl ?_ Try.underlying31 rfl (by kernel_rfl)) rfl ⟨rfl,?_⟩
 ·simp (disch:=omega) only [Hand.q1,g6];rfl
 ·exact ((hB.trans (Below.mono BB zw)).setCell Hand.d _).setCell Hand.d _
theorem mul_bad (a b c d:Int) (w:World) (ha0:-9223372036854775808≤a) (ha1:a≤9223372036854775807) (hb0:-9223372036854775808≤b) (hb1:b≤9223372036854775807)
  (hc0:-9223372036854775808≤c) (hc1:c≤9223372036854775807) (hd0:-9223372036854775808≤d) (hd1:d≤9223372036854775807) (h:(rightS a b && rightS c d)=false) :
  Calls Try.prog 80 #[.agg #[.int .i64 a,.int .i64 b],.agg #[.int .i64 c,.int .i64 d]] w fun e w'=>e = .returned (.tuple #[.agg #[.int .i64 0,.int .i64 0],.int .i64 12])∧Below w.heap.size w w':=by
 have rt:∀ g w,w.heap[g]?=some (.cells #[.int .i64 a,.int .i64 b,.int .i64 c,.int .i64 d] 31 (0,0)) → Calls Try.prog 81 #[.slice (some ⟨g,0,none⟩) 2 2] w fun e w'=>e = .returned (.bool false)∧Below w.heap.size w w':=fun g w hg=>by
  have:=right_two a b c d g w ha0 ha1 hb0 hb1 hc0 hc1 hd0 hd1 hg
  rw [h] at this;exact this
 have RT:=Lib.hid rt
 clear rt h
 go_enter Try.func80,Try.ntmps80
 go_wp2_with fail
 with_reducible refine (RT.out _ _ ?_).mono ?_
 ·simp (disch:=try exact Hand.z) only [Hand.q3]
 rintro e w1 ⟨rfl,hb9⟩
 have h_A:w1.heap[w.heap.size]?=some (.cells #[.int .i64 a,.int .i64 b] 31 (0,0)):=by
  exact Hand.kb hb9 Hand.k
 have h_B:w1.heap[w.heap.size+1]?=some (.cells #[.int .i64 c,.int .i64 d] 31 (0,0)):=by
  exact Hand.kb hb9 Hand.k
 have h_R:w1.heap[w.heap.size+1+1]?=some (.cells #[.int .i64 0,.int .i64 0] 31 (0,0)):=by
  exact Hand.kb hb9 Hand.k
 have hB':Below w.heap.size w w1:=Hand.stepB hb9 Hand.b (Nat.le_refl _)
 clear hb9
 have g_A:=h_A
 have g_B:=h_B
 have g_R:=h_R
 have hB:=hB'
 clear hB' h_A h_B h_R
 obtain ⟨z_A,z1_A,z2_A,y0_A,y1_A⟩:=Hand.hz g_A
 obtain ⟨c_A_0,f_A_0,c_A_1,f_A_1⟩:=Hand.hc2 g_A
 obtain ⟨z_B,z1_B,z2_B,y0_B,y1_B⟩:=Hand.hz g_B
 obtain ⟨c_B_0,f_B_0,c_B_1,f_B_1⟩:=Hand.hc2 g_B
 obtain ⟨z_R,z1_R,z2_R,y0_R,y1_R⟩:=Hand.hz g_R
 obtain ⟨c_R_0,f_R_0,c_R_1,f_R_1⟩:=Hand.hc2 g_R
 have zw:w.heap.size≤w1.heap.size:=hB.size
 have HG:=Lib.hid (And.intro g_A (And.intro g_B (And.intro g_R (hB))))
 clear g_A g_B g_R hB
 go_wp2
 obtain ⟨g_A,g_B,g_R,hB⟩:=HG.out
 refine bodyPost_ret (results_ct rfl _ _ (w.heap.size+1+1) 31 #[.int .i64 0,.int .i64 0] (0,0) _ rfl ?_ Try.underlying31 rfl (by kernel_rfl)) rfl ⟨rfl,?_⟩
 ·simp (disch:=omega) only [Hand.q1,g_R];rfl
 ·exact (hB.setCell Hand.d _).setCell Hand.d _
theorem mulR_any (a b c d:Int) (w:World) (ha0:-9223372036854775808≤a) (ha1:a≤9223372036854775807) (hb0:-9223372036854775808≤b) (hb1:b≤9223372036854775807)
  (hc0:-9223372036854775808≤c) (hc1:c≤9223372036854775807) (hd0:-9223372036854775808≤d) (hd1:d≤9223372036854775807) :
  Calls Try.prog 80 #[.agg #[.int .i64 a,.int .i64 b],.agg #[.int .i64 c,.int .i64 d]] w fun e w'=>e = .returned (.tuple #[.agg #[.int .i64 (mulS a b c d).1,.int .i64 (mulS a b c d).2.1],.int .i64 (mulS a b c d).2.2])∧Below w.heap.size w w':=by
 unfold mulS
 by_cases h:(rightS a b && rightS c d)=true
 ·rw [if_pos h]
  rw [Bool.and_eq_true] at h
  exact mul_ok a b c d _ _ _ _ _ _ w h.1 h.2 rfl rfl rfl rfl
 ·rw [if_neg h]
  exact mul_bad a b c d w ha0 ha1 hb0 hb1 hc0 hc1 hd0 hd1 (by simpa using h)
def cmpS (a b c d:Int):Int :=
 if (decide (a<0) == decide (c<0))=true then (if a<0 then -(cmpN (a.natAbs*d.natAbs) (c.natAbs*b.natAbs)) else cmpN (a.natAbs*d.natAbs) (c.natAbs*b.natAbs)) else if a<0 then -1 else 1
theorem cmpR_neg (a b c d:Int) (w:World) (h:(decide (a<0) == decide (c<0))=false) (h2:decide (a<0)=true) :
  Calls Try.prog 18 #[.agg #[.int .i64 a,.int .i64 b],.agg #[.int .i64 c,.int .i64 d]] w fun e w'=>e = .returned (.int .i64 (-1))∧Below w.heap.size w w':=by
 have h3:decide (c<0)=false:=by rw [h2] at h;simpa using h
 clear h
 go_enter Try.func18,Try.ntmps18
 go_wp2
 go_ret
 exact ⟨rfl,((Below.refl _ _).alloc (Nat.le_refl _) _).alloc (by simp) _⟩
theorem cmpR_pos (a b c d:Int) (w:World) (h:(decide (a<0) == decide (c<0))=false) (h2:decide (a<0)=false) :
  Calls Try.prog 18 #[.agg #[.int .i64 a,.int .i64 b],.agg #[.int .i64 c,.int .i64 d]] w fun e w'=>e = .returned (.int .i64 1)∧Below w.heap.size w w':=by
 have h3:decide (c<0)=true:=by rw [h2] at h;simpa using h
 clear h
 go_enter Try.func18,Try.ntmps18
 go_wp2
 go_ret
 exact ⟨rfl,((Below.refl _ _).alloc (Nat.le_refl _) _).alloc (by simp) _⟩
theorem cmpN_range (x y:Nat):-1≤cmpN x y∧cmpN x y≤1:=by unfold cmpN;split<;>(try split)<;>omega
theorem cmpR_same (a b c d n:Int) (p q:Nat) (s:Bool) (w:World) (h:decide (a<0)=s) (h2:decide (c<0)=s)
  (ha0:-9223372036854775808≤a) (ha1:a≤9223372036854775807) (hb0:0≤b) (hb1:b≤9223372036854775807)
  (hc0:-9223372036854775808≤c) (hc1:c≤9223372036854775807) (hd0:0≤d) (hd1:d≤9223372036854775807)
  (hp:a.natAbs*d.natAbs=p) (hq:c.natAbs*b.natAbs=q) (hn:cmpN p q=n) :
  Calls Try.prog 18 #[.agg #[.int .i64 a,.int .i64 b],.agg #[.int .i64 c,.int .i64 d]] w fun e w'=>e = .returned (.int .i64 (if s=true then -n else n))∧Below w.heap.size w w':=by
 have n0:-1≤n:=by rw [← hn];exact (cmpN_range p q).1
 have n1:n≤1:=by rw [← hn];exact (cmpN_range p q).2
 have eb:IntKind.u64.wrap b=(b.natAbs:Int):=by rw [U64.wrap_u64];omega
 have ed:IntKind.u64.wrap d=(d.natAbs:Int):=by rw [U64.wrap_u64];omega
 have m1:∀ w,Calls Try.prog 50 #[.int .u64 (a.natAbs:Int),.int .u64 (d.natAbs:Int)] w fun e w'=>e = .returned (.agg #[.int .u64 (hiN p),.int .u64 (loN p)])∧Below w.heap.size w w':=fun w=>by rw [← hp];exact mul_any _ _ (by omega) (by omega) w
 have m2:∀ w,Calls Try.prog 50 #[.int .u64 (c.natAbs:Int),.int .u64 (b.natAbs:Int)] w fun e w'=>e = .returned (.agg #[.int .u64 (hiN q),.int .u64 (loN q)])∧Below w.heap.size w w':=fun w=>by rw [← hq];exact mul_any _ _ (by omega) (by omega) w
 have m3:∀ w,Calls Try.prog 52 #[.agg #[.int .u64 (hiN p),.int .u64 (loN p)],.agg #[.int .u64 (hiN q),.int .u64 (loN q)]] w fun e w'=>e = .returned (.int .i64 n)∧Below w.heap.size w w':=fun w=>by rw [← hn];exact cmp_any p q w
 have s1:∀ w,Calls Try.prog 51 #[.int .i64 a] w fun e w'=>e = .returned (.int .u64 (a.natAbs:Int))∧Drawn0 w w':=size_any a (by omega) (by omega)
 have s2:∀ w,Calls Try.prog 51 #[.int .i64 c] w fun e w'=>e = .returned (.int .u64 (c.natAbs:Int))∧Drawn0 w w':=size_any c (by omega) (by omega)
 have M1:=Lib.hid m1
 have M2:=Lib.hid m2
 have M3:=Lib.hid m3
 have S1:=Lib.hid s1
 have S2:=Lib.hid s2
 clear m1 m2 m3 s1 s2 hp hq hn
 go_enter Try.func18,Try.ntmps18
 cases s
 all_goals
  go_wp2
  obtain ⟨W,hW⟩:∃ W_,W_=(w.alloc (.cells #[.int .i64 a,.int .i64 b] 31)).alloc (.cells #[.int .i64 c,.int .i64 d] 31):=⟨_,rfl⟩
  rw [← hW]
  have h_A:W.heap[w.heap.size]?=some (.cells #[.int .i64 a,.int .i64 b] 31 (0,0)):=by
   rw [hW]
   first|(simp (disch:=try exact Hand.zt) only [Hand.q2,Hand.q1,Hand.q5,Hand.q6,Hand.q4,Hand.q3];done)|(simp (disch:=try exact Hand.zt) only [Hand.q2,Hand.q1,Hand.q5,Hand.q6,Hand.q4,Hand.q3];rfl)
  have h_B:W.heap[w.heap.size+1]?=some (.cells #[.int .i64 c,.int .i64 d] 31 (0,0)):=by
   rw [hW]
   first|(simp (disch:=try exact Hand.zt) only [Hand.q2,Hand.q1,Hand.q5,Hand.q6,Hand.q4,Hand.q3];done)|(simp (disch:=try exact Hand.zt) only [Hand.q2,Hand.q1,Hand.q5,Hand.q6,Hand.q4,Hand.q3];rfl)
  have hB':Below w.heap.size w W:=by
   rw [hW]
   repeat (first|exact Below.refl _ _|(with_reducible first|apply Below.drew|apply pw_below_drewN|refine Below.setCell ?_ Hand.d _|refine Below.alloc ?_ Hand.z _))
  clear hW
  have g_A:=h_A
  have g_B:=h_B
  have hB:=hB'
  clear hB' h_A h_B
  obtain ⟨z_A,z1_A,z2_A,y0_A,y1_A⟩:=Hand.hz g_A
  obtain ⟨c_A_0,f_A_0,c_A_1,f_A_1⟩:=Hand.hc2 g_A
  obtain ⟨z_B,z1_B,z2_B,y0_B,y1_B⟩:=Hand.hz g_B
  obtain ⟨c_B_0,f_B_0,c_B_1,f_B_1⟩:=Hand.hc2 g_B
  have zw:w.heap.size≤W.heap.size:=hB.size
  have HG:=Lib.hid (And.intro g_A (And.intro g_B (hB)))
  clear g_A g_B hB
  have HBW:=Lib.hid (HG.out.2.2)
  have HK:=Lib.hid (And.intro c_A_0 (And.intro c_A_1 (And.intro c_B_0 (c_B_1))))
  have BD:Below W.heap.size W W.drew:=Below.drew (Below.refl _ _)
  have BR:Below W.heap.size W W:=Below.refl _ _
  go_region_held3 (fun w_=>Below w.heap.size w w_∧w_.cell? ⟨w.heap.size,0,none⟩=some (.int .i64 a)∧w_.cell? ⟨w.heap.size,1,none⟩=some (.int .i64 b)∧w_.cell? ⟨w.heap.size+1,0,none⟩=some (.int .i64 c)∧w_.cell? ⟨w.heap.size+1,1,none⟩=some (.int .i64 d)) (first|with_reducible (refine ⟨?_,(Below.cell BR (p:=⟨w.heap.size,0,none⟩) z_A).trans (HK.out.1),(Below.cell BR (p:=⟨w.heap.size,1,none⟩) z_A).trans (HK.out.2.1),(Below.cell BR (p:=⟨w.heap.size+1,0,none⟩) z_B).trans (HK.out.2.2.1),(Below.cell BR (p:=⟨w.heap.size+1,1,none⟩) z_B).trans (HK.out.2.2.2)⟩;apply (HBW.out.trans (Below.mono BR zw)))|with_reducible (refine ⟨?_,(Below.cell BD (p:=⟨w.heap.size,0,none⟩) z_A).trans (HK.out.1),(Below.cell BD (p:=⟨w.heap.size,1,none⟩) z_A).trans (HK.out.2.1),(Below.cell BD (p:=⟨w.heap.size+1,0,none⟩) z_B).trans (HK.out.2.2.1),(Below.cell BD (p:=⟨w.heap.size+1,1,none⟩) z_B).trans (HK.out.2.2.2)⟩;apply (HBW.out.trans (Below.mono BD zw)))|with_reducible (refine ⟨?_,(Below.cell BB (p:=⟨w.heap.size,0,none⟩) z_A).trans (HK.out.1),(Below.cell BB (p:=⟨w.heap.size,1,none⟩) z_A).trans (HK.out.2.1),(Below.cell BB (p:=⟨w.heap.size+1,0,none⟩) z_B).trans (HK.out.2.2.1),(Below.cell BB (p:=⟨w.heap.size+1,1,none⟩) z_B).trans (HK.out.2.2.2)⟩;apply (HBW.out.trans (Below.mono BB zw)))|(refine ⟨?_,?_,?_,?_,?_⟩;(focus (repeat (with_reducible first|apply (HBW.out.trans (Below.mono BB zw))|apply Below.drew|(apply Below.setCell;rotate_left;(dsimp only;omega))|(apply Below.alloc;rotate_left;exact Hand.z))));(repeat (with_reducible first|exact (Below.cell BB (p:=⟨w.heap.size,0,none⟩) z_A).trans (HK.out.1)|refine Hand.cell_alloc ?_|refine Hand.cell_drew ?_|refine Hand.cell_far (by omega) ?_));(repeat (with_reducible first|exact (Below.cell BB (p:=⟨w.heap.size,1,none⟩) z_A).trans (HK.out.2.1)|refine Hand.cell_alloc ?_|refine Hand.cell_drew ?_|refine Hand.cell_far (by omega) ?_));(repeat (with_reducible first|exact (Below.cell BB (p:=⟨w.heap.size+1,0,none⟩) z_B).trans (HK.out.2.2.1)|refine Hand.cell_alloc ?_|refine Hand.cell_drew ?_|refine Hand.cell_far (by omega) ?_));(repeat (with_reducible first|exact (Below.cell BB (p:=⟨w.heap.size+1,1,none⟩) z_B).trans (HK.out.2.2.2)|refine Hand.cell_alloc ?_|refine Hand.cell_drew ?_|refine Hand.cell_far (by omega) ?_)))) (first|(go_at_call 51;((with_reducible refine (S1.out _).mono ?_);rintro e w2 ⟨rfl,hb_⟩;have BB:Below W.heap.size W w2:=Hand.stepB hb_.below (by assumption) (Nat.le_refl _);have zB_w2:=Below.size BB;clear hb_))|(go_at_call 51;((with_reducible refine (S2.out _).mono ?_);rintro e w3 ⟨rfl,hb_⟩;have BB:Below W.heap.size W w3:=Hand.stepB hb_.below (by assumption) (Nat.le_refl _);have zB_w3:=Below.size BB;clear hb_))|(go_at_call 50;((with_reducible refine (M1.out _).mono ?_);rintro e w4 ⟨rfl,hb_⟩;have BB:Below W.heap.size W w4:=Hand.stepB hb_ (by assumption) (Nat.le_refl _);have zB_w4:=Below.size BB;clear hb_))|(go_at_call 50;((with_reducible refine (M2.out _).mono ?_);rintro e w5 ⟨rfl,hb_⟩;have BB:Below W.heap.size W w5:=Hand.stepB hb_ (by assumption) (Nat.le_refl _);have zB_w5:=Below.size BB;clear hb_))|(go_at_call 52;((with_reducible refine (M3.out _).mono ?_);rintro e w6 ⟨rfl,hb_⟩;have BB:Below W.heap.size W w6:=Hand.stepB hb_ (by assumption) (Nat.le_refl _);have zB_w6:=Below.size BB;clear hb_)))
  have k0:w6.cell? ⟨w.heap.size,0,none⟩=some (.int .i64 a):=(Below.cell BB (p:=⟨w.heap.size,0,none⟩) z_A).trans c_A_0
  go_wp2
  obtain ⟨g_A,g_B,hB⟩:=HG.out
  go_ret
  exact ⟨by rfl,hB.trans (Below.mono BB zw)⟩
theorem cmpR_any (a b c d:Int) (w:World) 
  (ha0:-9223372036854775808≤a) (ha1:a≤9223372036854775807) (hb0:0≤b) (hb1:b≤9223372036854775807)
  (hc0:-9223372036854775808≤c) (hc1:c≤9223372036854775807) (hd0:0≤d) (hd1:d≤9223372036854775807) :
  Calls Try.prog 18 #[.agg #[.int .i64 a,.int .i64 b],.agg #[.int .i64 c,.int .i64 d]] w fun e w'=>e = .returned (.int .i64 (cmpS a b c d))∧Below w.heap.size w w':=by
 unfold cmpS
 by_cases h:(decide (a<0) == decide (c<0))=true
 ·rw [if_pos h]
  have:=cmpR_same a b c d _ _ _ (decide (a<0)) w rfl (by rw [beq_iff_eq] at h;exact h.symm) ha0 ha1 hb0 hb1 hc0 hc1 hd0 hd1 rfl rfl rfl
  simp only [decide_eq_true_eq] at this
  exact this
 ·rw [if_neg h]
  have h':(decide (a<0) == decide (c<0))=false:=by simpa using h
  by_cases h2:a<0
  ·rw [if_pos h2];exact cmpR_neg a b c d w h' (decide_eq_true h2)
  ·rw [if_neg h2];exact cmpR_pos a b c d w h' (decide_eq_false h2)
theorem by_any (a b c d:Int) (p q:Nat) (neg:Bool) (w:World)
  (ha0:-9223372036854775808≤a) (ha1:a≤9223372036854775807) (hb0:0≤b) (hb1:b≤9223372036854775807)
  (hc0:-9223372036854775808≤c) (hc1:c≤9223372036854775807) (hd0:0≤d) (hd1:d≤9223372036854775807)
  (hp:a.natAbs*d.natAbs=p) (hq:b.natAbs*c.natAbs=q) (hneg:(!(decide (a<0) == decide (c<0)))=neg) :
  Calls Try.prog 98 #[.agg #[.int .i64 a,.int .i64 b],.agg #[.int .i64 c,.int .i64 d]] w fun e w'=>e = .returned (.agg #[.bool neg,.int .u64 (hiN p),.int .u64 (loN p),.int .u64 (hiN q),.int .u64 (loN q)])∧Below w.heap.size w w':=by
 have eb:IntKind.u64.wrap b=(b.natAbs:Int):=by rw [U64.wrap_u64];omega
 have ed:IntKind.u64.wrap d=(d.natAbs:Int):=by rw [U64.wrap_u64];omega
 have m1:∀ w,Calls Try.prog 50 #[.int .u64 (a.natAbs:Int),.int .u64 (d.natAbs:Int)] w fun e w'=>e = .returned (.agg #[.int .u64 (hiN p),.int .u64 (loN p)])∧Below w.heap.size w w':=fun w=>by rw [← hp];exact mul_any _ _ (by omega) (by omega) w
 have m2:∀ w,Calls Try.prog 50 #[.int .u64 (b.natAbs:Int),.int .u64 (c.natAbs:Int)] w fun e w'=>e = .returned (.agg #[.int .u64 (hiN q),.int .u64 (loN q)])∧Below w.heap.size w w':=fun w=>by rw [← hq];exact mul_any _ _ (by omega) (by omega) w
 have s1:∀ w,Calls Try.prog 51 #[.int .i64 a] w fun e w'=>e = .returned (.int .u64 (a.natAbs:Int))∧Drawn0 w w':=size_any a (by omega) (by omega)
 have s2:∀ w,Calls Try.prog 51 #[.int .i64 c] w fun e w'=>e = .returned (.int .u64 (c.natAbs:Int))∧Drawn0 w w':=size_any c (by omega) (by omega)
 have M1:=Lib.hid m1
 have M2:=Lib.hid m2
 have S1:=Lib.hid s1
 have S2:=Lib.hid s2
 clear m1 m2 s1 s2 hp hq
 go_enter Try.func98,Try.ntmps98
 go_wp2
 obtain ⟨W,hW⟩:∃ W_,W_=((w.alloc (.cells #[.int .i64 a,.int .i64 b] 31)).alloc (.cells #[.int .i64 c,.int .i64 d] 31)).alloc (.cells #[.bool false,.int .u64 0,.int .u64 0,.int .u64 0,.int .u64 0] 114):=⟨_,rfl⟩
 rw [← hW]
 have h_A:W.heap[w.heap.size]?=some (.cells #[.int .i64 a,.int .i64 b] 31 (0,0)):=by
  rw [hW]
  first|(simp (disch:=try exact Hand.zt) only [Hand.q2,Hand.q1,Hand.q5,Hand.q6,Hand.q4,Hand.q3];done)|(simp (disch:=try exact Hand.zt) only [Hand.q2,Hand.q1,Hand.q5,Hand.q6,Hand.q4,Hand.q3];rfl)
 have h_B:W.heap[w.heap.size+1]?=some (.cells #[.int .i64 c,.int .i64 d] 31 (0,0)):=by
  rw [hW]
  first|(simp (disch:=try exact Hand.zt) only [Hand.q2,Hand.q1,Hand.q5,Hand.q6,Hand.q4,Hand.q3];done)|(simp (disch:=try exact Hand.zt) only [Hand.q2,Hand.q1,Hand.q5,Hand.q6,Hand.q4,Hand.q3];rfl)
 have h_R:W.heap[w.heap.size+1+1]?=some (.cells #[.bool false,.int .u64 0,.int .u64 0,.int .u64 0,.int .u64 0] 114 (0,0)):=by
  rw [hW]
  first|(simp (disch:=try exact Hand.zt) only [Hand.q2,Hand.q1,Hand.q5,Hand.q6,Hand.q4,Hand.q3];done)|(simp (disch:=try exact Hand.zt) only [Hand.q2,Hand.q1,Hand.q5,Hand.q6,Hand.q4,Hand.q3];rfl)
 have hB':Below w.heap.size w W:=by
  rw [hW]
  repeat (first|exact Below.refl _ _|(with_reducible first|apply Below.drew|apply pw_below_drewN|refine Below.setCell ?_ Hand.d _|refine Below.alloc ?_ Hand.z _))
 clear hW
 have g_A:=h_A
 have g_B:=h_B
 have g_R:=h_R
 have hB:=hB'
 clear hB' h_A h_B h_R
 obtain ⟨z_A,z1_A,z2_A,y0_A,y1_A⟩:=Hand.hz g_A
 obtain ⟨c_A_0,f_A_0,c_A_1,f_A_1⟩:=Hand.hc2 g_A
 obtain ⟨z_B,z1_B,z2_B,y0_B,y1_B⟩:=Hand.hz g_B
 obtain ⟨c_B_0,f_B_0,c_B_1,f_B_1⟩:=Hand.hc2 g_B
 obtain ⟨z_R,z1_R,z2_R,y0_R,y1_R⟩:=Hand.hz g_R
 obtain ⟨c_R_0,f_R_0,c_R_1,f_R_1,c_R_2,f_R_2,c_R_3,f_R_3,c_R_4,f_R_4⟩:=Hand.hc5 g_R
 have zw:w.heap.size≤W.heap.size:=hB.size
 have HG:=Lib.hid (And.intro g_A (And.intro g_B (And.intro g_R (hB))))
 clear g_A g_B g_R hB
 have HBW:=Lib.hid (HG.out.2.2.2)
 have HK:=Lib.hid (And.intro c_A_0 (And.intro c_A_1 (And.intro c_B_0 (c_B_1))))
 have HR_R:=Lib.hid (And.intro c_R_0 (And.intro f_R_0 (And.intro c_R_1 (And.intro f_R_1 (And.intro c_R_2 (And.intro f_R_2 (And.intro c_R_3 (And.intro f_R_3 (And.intro c_R_4 (f_R_4))))))))))
 have BD:Below W.heap.size W W.drew:=Below.drew (Below.refl _ _)
 have BR:Below W.heap.size W W:=Below.refl _ _
 go_region_held3 (fun w_=>Below w.heap.size w w_∧w_.cell? ⟨w.heap.size,0,none⟩=some (.int .i64 a)∧w_.cell? ⟨w.heap.size,1,none⟩=some (.int .i64 b)∧w_.cell? ⟨w.heap.size+1,0,none⟩=some (.int .i64 c)∧w_.cell? ⟨w.heap.size+1,1,none⟩=some (.int .i64 d)) (first|with_reducible exact ⟨Below.setCell (Below.setCell (Below.setCell (Below.setCell (Below.setCell (HBW.out.trans (Below.mono BB zw)) Hand.d _) Hand.d _) Hand.d _) Hand.d _) Hand.d _,Hand.cell_far (by omega) (Hand.cell_far (by omega) (Hand.cell_far (by omega) (Hand.cell_far (by omega) (Hand.cell_far (by omega) ((Below.cell BB (p:=⟨w.heap.size,0,none⟩) z_A).trans (HK.out.1)))))),Hand.cell_far (by omega) (Hand.cell_far (by omega) (Hand.cell_far (by omega) (Hand.cell_far (by omega) (Hand.cell_far (by omega) ((Below.cell BB (p:=⟨w.heap.size,1,none⟩) z_A).trans (HK.out.2.1)))))),Hand.cell_far (by omega) (Hand.cell_far (by omega) (Hand.cell_far (by omega) (Hand.cell_far (by omega) (Hand.cell_far (by omega) ((Below.cell BB (p:=⟨w.heap.size+1,0,none⟩) z_B).trans (HK.out.2.2.1)))))),Hand.cell_far (by omega) (Hand.cell_far (by omega) (Hand.cell_far (by omega) (Hand.cell_far (by omega) (Hand.cell_far (by omega) ((Below.cell BB (p:=⟨w.heap.size+1,1,none⟩) z_B).trans (HK.out.2.2.2))))))⟩|with_reducible (refine ⟨?_,(Below.cell BR (p:=⟨w.heap.size,0,none⟩) z_A).trans (HK.out.1),(Below.cell BR (p:=⟨w.heap.size,1,none⟩) z_A).trans (HK.out.2.1),(Below.cell BR (p:=⟨w.heap.size+1,0,none⟩) z_B).trans (HK.out.2.2.1),(Below.cell BR (p:=⟨w.heap.size+1,1,none⟩) z_B).trans (HK.out.2.2.2)⟩;apply (HBW.out.trans (Below.mono BR zw)))|with_reducible (refine ⟨?_,(Below.cell BD (p:=⟨w.heap.size,0,none⟩) z_A).trans (HK.out.1),(Below.cell BD (p:=⟨w.heap.size,1,none⟩) z_A).trans (HK.out.2.1),(Below.cell BD (p:=⟨w.heap.size+1,0,none⟩) z_B).trans (HK.out.2.2.1),(Below.cell BD (p:=⟨w.heap.size+1,1,none⟩) z_B).trans (HK.out.2.2.2)⟩;apply (HBW.out.trans (Below.mono BD zw)))|with_reducible (refine ⟨?_,(Below.cell BB (p:=⟨w.heap.size,0,none⟩) z_A).trans (HK.out.1),(Below.cell BB (p:=⟨w.heap.size,1,none⟩) z_A).trans (HK.out.2.1),(Below.cell BB (p:=⟨w.heap.size+1,0,none⟩) z_B).trans (HK.out.2.2.1),(Below.cell BB (p:=⟨w.heap.size+1,1,none⟩) z_B).trans (HK.out.2.2.2)⟩;apply (HBW.out.trans (Below.mono BB zw)))) (first|(go_at_call 51;((with_reducible refine (S1.out _).mono ?_);rintro e w2 ⟨rfl,hb_⟩;have BB:Below W.heap.size W w2:=Hand.stepB hb_.below (by assumption) (Nat.le_refl _);have zB_w2:=Below.size BB;clear hb_))|(go_at_call 51;((with_reducible refine (S2.out _).mono ?_);rintro e w3 ⟨rfl,hb_⟩;have BB:Below W.heap.size W w3:=Hand.stepB hb_.below (by assumption) (Nat.le_refl _);have zB_w3:=Below.size BB;clear hb_))|(go_at_call 50;((with_reducible refine (M1.out _).mono ?_);rintro e w4 ⟨rfl,hb_⟩;have BB:Below W.heap.size W w4:=Hand.stepB hb_ (by assumption) (Nat.le_refl _);have zB_w4:=Below.size BB;clear hb_;(try clear rR_0 sR_0 rR_1 sR_1 rR_2 sR_2 rR_3 sR_3 rR_4 sR_4);have rR_0:=(Below.cell BB (p:=⟨w.heap.size+1+1,0,none⟩) z_R).trans (HR_R.out.1);have sR_0:=(Below.frozen BB (p:=⟨w.heap.size+1+1,0,none⟩) z_R).trans (HR_R.out.2.1);have rR_1:=(Below.cell BB (p:=⟨w.heap.size+1+1,1,none⟩) z_R).trans (HR_R.out.2.2.1);have sR_1:=(Below.frozen BB (p:=⟨w.heap.size+1+1,1,none⟩) z_R).trans (HR_R.out.2.2.2.1);have rR_2:=(Below.cell BB (p:=⟨w.heap.size+1+1,2,none⟩) z_R).trans (HR_R.out.2.2.2.2.1);have sR_2:=(Below.frozen BB (p:=⟨w.heap.size+1+1,2,none⟩) z_R).trans (HR_R.out.2.2.2.2.2.1);have rR_3:=(Below.cell BB (p:=⟨w.heap.size+1+1,3,none⟩) z_R).trans (HR_R.out.2.2.2.2.2.2.1);have sR_3:=(Below.frozen BB (p:=⟨w.heap.size+1+1,3,none⟩) z_R).trans (HR_R.out.2.2.2.2.2.2.2.1);have rR_4:=(Below.cell BB (p:=⟨w.heap.size+1+1,4,none⟩) z_R).trans (HR_R.out.2.2.2.2.2.2.2.2.1);have sR_4:=(Below.frozen BB (p:=⟨w.heap.size+1+1,4,none⟩) z_R).trans (HR_R.out.2.2.2.2.2.2.2.2.2)))|(go_at_call 50;((with_reducible refine (M2.out _).mono ?_);rintro e w5 ⟨rfl,hb_⟩;have BB:Below W.heap.size W w5:=Hand.stepB hb_ (by assumption) (Nat.le_refl _);have zB_w5:=Below.size BB;clear hb_;(try clear rR_0 sR_0 rR_1 sR_1 rR_2 sR_2 rR_3 sR_3 rR_4 sR_4);have rR_0:=(Below.cell BB (p:=⟨w.heap.size+1+1,0,none⟩) z_R).trans (HR_R.out.1);have sR_0:=(Below.frozen BB (p:=⟨w.heap.size+1+1,0,none⟩) z_R).trans (HR_R.out.2.1);have rR_1:=(Below.cell BB (p:=⟨w.heap.size+1+1,1,none⟩) z_R).trans (HR_R.out.2.2.1);have sR_1:=(Below.frozen BB (p:=⟨w.heap.size+1+1,1,none⟩) z_R).trans (HR_R.out.2.2.2.1);have rR_2:=(Below.cell BB (p:=⟨w.heap.size+1+1,2,none⟩) z_R).trans (HR_R.out.2.2.2.2.1);have sR_2:=(Below.frozen BB (p:=⟨w.heap.size+1+1,2,none⟩) z_R).trans (HR_R.out.2.2.2.2.2.1);have rR_3:=(Below.cell BB (p:=⟨w.heap.size+1+1,3,none⟩) z_R).trans (HR_R.out.2.2.2.2.2.2.1);have sR_3:=(Below.frozen BB (p:=⟨w.heap.size+1+1,3,none⟩) z_R).trans (HR_R.out.2.2.2.2.2.2.2.1);have rR_4:=(Below.cell BB (p:=⟨w.heap.size+1+1,4,none⟩) z_R).trans (HR_R.out.2.2.2.2.2.2.2.2.1);have sR_4:=(Below.frozen BB (p:=⟨w.heap.size+1+1,4,none⟩) z_R).trans (HR_R.out.2.2.2.2.2.2.2.2.2))))
 go_wp2
 obtain ⟨g_A,g_B,g_R,hB⟩:=HG.out
 have g6:=(Hand.hp_below BB z_R).trans g_R
 refine bodyPost_ret (results_cell_row rfl _ _ (w.heap.size+1+1) 114 #[.bool neg,.int .u64 (hiN p),.int .u64 (loN p),.int .u64 (hiN q),.int .u64 (loN q)] (0,0) _ rfl ?_ Try.underlying114 rfl (by kernel_rfl)) rfl ⟨rfl,?_⟩
 ·simp (disch:=omega) only [Hand.q1,g6];rfl
 ·exact (((((hB.trans (Below.mono BB zw)).setCell Hand.d _).setCell Hand.d _).setCell Hand.d _).setCell Hand.d _).setCell Hand.d _
def divS (a b c d:Int):Int × Int × Int:=if rightS a b && rightS c d then (if c=0 then (0,0,11) else fitS (decide (a<0) != decide (c<0)) (a.natAbs*d.natAbs) (b.natAbs*c.natAbs)) else (0,0,12)
theorem div_ok (a b c d x y z:Int) (p q:Nat) (neg:Bool) (w:World) (h1:rightS a b=true) (h2:rightS c d=true) (hc:(c == 0)=false)
  (hp:a.natAbs*d.natAbs=p) (hq:b.natAbs*c.natAbs=q) (hneg:(!(decide (a<0) == decide (c<0)))=neg) (hf:fitS neg p q=(x,y,z)) :
  Calls Try.prog 63 #[.agg #[.int .i64 a,.int .i64 b],.agg #[.int .i64 c,.int .i64 d]] w fun e w'=>e = .returned (.tuple #[.agg #[.int .i64 x,.int .i64 y],.int .i64 z])∧Below w.heap.size w w':=by
 obtain ⟨b1,b2,b3,_⟩:=right_bounds h1
 obtain ⟨d1,d2,d3,_⟩:=right_bounds h2
 have hc0:c≠0:=by simpa using hc
 have pb:p<340282366920938463463374607431768211456:=by rw [← hp];exact Nat.lt_of_le_of_lt (Nat.mul_le_mul b3 (show d.natAbs≤2147483648 by omega)) (by omega)
 have qb:q<340282366920938463463374607431768211456:=by rw [← hq];exact Nat.lt_of_le_of_lt (Nat.mul_le_mul (show b.natAbs≤2147483648 by omega) d3) (by omega)
 have q0:0<q:=by rw [← hq];exact Nat.mul_pos (by omega) (by omega)
 have m3:∀ w,Calls Try.prog 84 #[.agg #[.bool neg,.int .u64 (hiN p),.int .u64 (loN p),.int .u64 (hiN q),.int .u64 (loN q)]] w fun e w'=>e = .returned (.tuple #[.agg #[.int .i64 x,.int .i64 y],.int .i64 z])∧Below w.heap.size w w':=fun w=>by
  have:=fit_any neg p q pb qb q0 w;rw [hf] at this;exact this
 have m2:=fun w=>by_any a b c d p q neg w (by omega) (by omega) (by omega) (by omega) (by omega) (by omega) (by omega) (by omega) hp hq hneg
 have rt:∀ g w,w.heap[g]?=some (.cells #[.int .i64 a,.int .i64 b,.int .i64 c,.int .i64 d] 31 (0,0)) → Calls Try.prog 81 #[.slice (some ⟨g,0,none⟩) 2 2] w fun e w'=>e = .returned (.bool true)∧Below w.heap.size w w':=fun g w hg=>by
  have:=right_two a b c d g w (by omega) (by omega) (by omega) (by omega) (by omega) (by omega) (by omega) (by omega) hg
  rw [h1,h2] at this;exact this
 have M3:=Lib.hid m3
 have M2:=Lib.hid m2
 have RT:=Lib.hid rt
 clear m2 m3 rt hp hq hf h1 h2 hneg
 go_enter Try.func63,Try.ntmps63
 go_wp2_with fail
 with_reducible refine (RT.out _ _ ?_).mono ?_
 ·simp (disch:=try exact Hand.z) only [Hand.q3]
 rintro e w1 ⟨rfl,hb1⟩
 have h_A:w1.heap[w.heap.size]?=some (.cells #[.int .i64 a,.int .i64 b] 31 (0,0)):=by
  exact Hand.kb hb1 Hand.k
 have h_B:w1.heap[w.heap.size+1]?=some (.cells #[.int .i64 c,.int .i64 d] 31 (0,0)):=by
  exact Hand.kb hb1 Hand.k
 have h_R:w1.heap[w.heap.size+1+1]?=some (.cells #[.int .i64 0,.int .i64 0] 31 (0,0)):=by
  exact Hand.kb hb1 Hand.k
 have hB':Below w.heap.size w w1:=Hand.stepB hb1 Hand.b (Nat.le_refl _)
 clear hb1
 have g_A:=h_A
 have g_B:=h_B
 have g_R:=h_R
 have hB:=hB'
 clear hB' h_A h_B h_R
 obtain ⟨z_A,z1_A,z2_A,y0_A,y1_A⟩:=Hand.hz g_A
 obtain ⟨c_A_0,f_A_0,c_A_1,f_A_1⟩:=Hand.hc2 g_A
 obtain ⟨z_B,z1_B,z2_B,y0_B,y1_B⟩:=Hand.hz g_B
 obtain ⟨c_B_0,f_B_0,c_B_1,f_B_1⟩:=Hand.hc2 g_B
 obtain ⟨z_R,z1_R,z2_R,y0_R,y1_R⟩:=Hand.hz g_R
 obtain ⟨c_R_0,f_R_0,c_R_1,f_R_1⟩:=Hand.hc2 g_R
 have zw:w.heap.size≤w1.heap.size:=hB.size
 have HG:=Lib.hid (And.intro g_A (And.intro g_B (And.intro g_R (hB))))
 clear g_A g_B g_R hB
 go_wp2_with fail
 with_reducible refine (M2.out _).mono ?_
 rintro e w2 ⟨rfl,hb2⟩
 obtain ⟨g_A,g_B,g_R,hB⟩:=HG.out
 have h_A:w2.heap[w.heap.size]?=some (.cells #[.int .i64 a,.int .i64 b] 31 (0,0)):=by
  refine Hand.kb hb2 ?_;first|with_reducible exact g_A|(simp (disch:=try exact Hand.z) only [Hand.q2,Hand.q1,Hand.q5,Hand.q6,Hand.q4,Hand.q3,g_A]<;>rfl)
 have h_B:w2.heap[w.heap.size+1]?=some (.cells #[.int .i64 c,.int .i64 d] 31 (0,0)):=by
  refine Hand.kb hb2 ?_;first|with_reducible exact g_B|(simp (disch:=try exact Hand.z) only [Hand.q2,Hand.q1,Hand.q5,Hand.q6,Hand.q4,Hand.q3,g_B]<;>rfl)
 have h_R:w2.heap[w.heap.size+1+1]?=some (.cells #[.int .i64 0,.int .i64 0] 31 (0,0)):=by
  refine Hand.kb hb2 ?_;first|with_reducible exact g_R|(simp (disch:=try exact Hand.z) only [Hand.q2,Hand.q1,Hand.q5,Hand.q6,Hand.q4,Hand.q3,g_R]<;>rfl)
 have hB':Below w.heap.size w w2:=Hand.stepB hb2 Hand.b (Nat.le_refl _)
 clear HG hB g_A g_B g_R zw z_A z1_A z2_A y0_A y1_A c_A_0 f_A_0 c_A_1 f_A_1 z_B z1_B z2_B y0_B y1_B c_B_0 f_B_0 c_B_1 f_B_1 z_R z1_R z2_R y0_R y1_R c_R_0 f_R_0 c_R_1 f_R_1
 clear hb2
 have g_A:=h_A
 have g_B:=h_B
 have g_R:=h_R
 have hB:=hB'
 clear hB' h_A h_B h_R
 obtain ⟨z_A,z1_A,z2_A,y0_A,y1_A⟩:=Hand.hz g_A
 obtain ⟨c_A_0,f_A_0,c_A_1,f_A_1⟩:=Hand.hc2 g_A
 obtain ⟨z_B,z1_B,z2_B,y0_B,y1_B⟩:=Hand.hz g_B
 obtain ⟨c_B_0,f_B_0,c_B_1,f_B_1⟩:=Hand.hc2 g_B
 obtain ⟨z_R,z1_R,z2_R,y0_R,y1_R⟩:=Hand.hz g_R
 obtain ⟨c_R_0,f_R_0,c_R_1,f_R_1⟩:=Hand.hc2 g_R
 have zw:w.heap.size≤w2.heap.size:=hB.size
 have HG:=Lib.hid (And.intro g_A (And.intro g_B (And.intro g_R (hB))))
 clear g_A g_B g_R hB
 go_wp2_with fail
 with_reducible refine (M3.out _).mono ?_
 rintro e w3 ⟨rfl,hb3⟩
 obtain ⟨g_A,g_B,g_R,hB⟩:=HG.out
 have h_A:w3.heap[w.heap.size]?=some (.cells #[.int .i64 a,.int .i64 b] 31 (0,0)):=by
  refine Hand.kb hb3 ?_;first|with_reducible exact g_A|(simp (disch:=try exact Hand.z) only [Hand.q2,Hand.q1,Hand.q5,Hand.q6,Hand.q4,Hand.q3,g_A]<;>rfl)
 have h_B:w3.heap[w.heap.size+1]?=some (.cells #[.int .i64 c,.int .i64 d] 31 (0,0)):=by
  refine Hand.kb hb3 ?_;first|with_reducible exact g_B|(simp (disch:=try exact Hand.z) only [Hand.q2,Hand.q1,Hand.q5,Hand.q6,Hand.q4,Hand.q3,g_B]<;>rfl)
 have h_R:w3.heap[w.heap.size+1+1]?=some (.cells #[.int .i64 0,.int .i64 0] 31 (0,0)):=by
  refine Hand.kb hb3 ?_;first|with_reducible exact g_R|(simp (disch:=try exact Hand.z) only [Hand.q2,Hand.q1,Hand.q5,Hand.q6,Hand.q4,Hand.q3,g_R]<;>rfl)
 have hB':Below w.heap.size w w3:=Hand.stepB hb3 Hand.b (Nat.le_refl _)
 clear HG hB g_A g_B g_R zw z_A z1_A z2_A y0_A y1_A c_A_0 f_A_0 c_A_1 f_A_1 z_B z1_B z2_B y0_B y1_B c_B_0 f_B_0 c_B_1 f_B_1 z_R z1_R z2_R y0_R y1_R c_R_0 f_R_0 c_R_1 f_R_1
 clear hb3
 have g_A:=h_A
 have g_B:=h_B
 have g_R:=h_R
 have hB:=hB'
 clear hB' h_A h_B h_R
 obtain ⟨z_A,z1_A,z2_A,y0_A,y1_A⟩:=Hand.hz g_A
 obtain ⟨c_A_0,f_A_0,c_A_1,f_A_1⟩:=Hand.hc2 g_A
 obtain ⟨z_B,z1_B,z2_B,y0_B,y1_B⟩:=Hand.hz g_B
 obtain ⟨c_B_0,f_B_0,c_B_1,f_B_1⟩:=Hand.hc2 g_B
 obtain ⟨z_R,z1_R,z2_R,y0_R,y1_R⟩:=Hand.hz g_R
 obtain ⟨c_R_0,f_R_0,c_R_1,f_R_1⟩:=Hand.hc2 g_R
 have zw:w.heap.size≤w3.heap.size:=hB.size
 have HG:=Lib.hid (And.intro g_A (And.intro g_B (And.intro g_R (hB))))
 clear g_A g_B g_R hB
 go_wp2
 obtain ⟨g_A,g_B,g_R,hB⟩:=HG.out
 refine bodyPost_ret (results_ct rfl _ _ (w.heap.size+1+1) 31 #[.int .i64 x,.int .i64 y] (0,0) _ rfl ?_ Try.underlying31 rfl (by kernel_rfl)) rfl ⟨rfl,?_⟩
 ·simp (disch:=omega) only [Hand.q1,g_R];rfl
 ·exact (hB.setCell Hand.d _).setCell Hand.d _
theorem div_bad (a b c d:Int) (r:Bool) (n:Int) (w:World) (ha0:-9223372036854775808≤a) (ha1:a≤9223372036854775807) (hb0:-9223372036854775808≤b) (hb1:b≤9223372036854775807)
  (hc0:-9223372036854775808≤c) (hc1:c≤9223372036854775807) (hd0:-9223372036854775808≤d) (hd1:d≤9223372036854775807) (h:(rightS a b && rightS c d)=r) (hr:r=false∧n=12 ∨ r=true∧(c == 0)=true∧n=11) :
  Calls Try.prog 63 #[.agg #[.int .i64 a,.int .i64 b],.agg #[.int .i64 c,.int .i64 d]] w fun e w'=>e = .returned (.tuple #[.agg #[.int .i64 0,.int .i64 0],.int .i64 n])∧Below w.heap.size w w':=by
 have rt:∀ g w,w.heap[g]?=some (.cells #[.int .i64 a,.int .i64 b,.int .i64 c,.int .i64 d] 31 (0,0)) → Calls Try.prog 81 #[.slice (some ⟨g,0,none⟩) 2 2] w fun e w'=>e = .returned (.bool r)∧Below w.heap.size w w':=fun g w hg=>by
  have:=right_two a b c d g w ha0 ha1 hb0 hb1 hc0 hc1 hd0 hd1 hg
  rw [h] at this;exact this
 have RT:=Lib.hid rt
 clear rt h
 rcases hr with ⟨rfl,rfl⟩|⟨rfl,hc,rfl⟩
 all_goals
  go_enter Try.func63,Try.ntmps63
  go_wp2_with fail
  with_reducible refine (RT.out _ _ ?_).mono ?_
  ·simp (disch:=try exact Hand.z) only [Hand.q3]
  rintro e w1 ⟨rfl,hb9⟩
  have h_A:w1.heap[w.heap.size]?=some (.cells #[.int .i64 a,.int .i64 b] 31 (0,0)):=by
   exact Hand.kb hb9 Hand.k
  have h_B:w1.heap[w.heap.size+1]?=some (.cells #[.int .i64 c,.int .i64 d] 31 (0,0)):=by
   exact Hand.kb hb9 Hand.k
  have h_R:w1.heap[w.heap.size+1+1]?=some (.cells #[.int .i64 0,.int .i64 0] 31 (0,0)):=by
   exact Hand.kb hb9 Hand.k
  have hB':Below w.heap.size w w1:=Hand.stepB hb9 Hand.b (Nat.le_refl _)
  clear hb9
  have g_A:=h_A
  have g_B:=h_B
  have g_R:=h_R
  have hB:=hB'
  clear hB' h_A h_B h_R
  obtain ⟨z_A,z1_A,z2_A,y0_A,y1_A⟩:=Hand.hz g_A
  obtain ⟨c_A_0,f_A_0,c_A_1,f_A_1⟩:=Hand.hc2 g_A
  obtain ⟨z_B,z1_B,z2_B,y0_B,y1_B⟩:=Hand.hz g_B
  obtain ⟨c_B_0,f_B_0,c_B_1,f_B_1⟩:=Hand.hc2 g_B
  obtain ⟨z_R,z1_R,z2_R,y0_R,y1_R⟩:=Hand.hz g_R
  obtain ⟨c_R_0,f_R_0,c_R_1,f_R_1⟩:=Hand.hc2 g_R
  have zw:w.heap.size≤w1.heap.size:=hB.size
  have HG:=Lib.hid (And.intro g_A (And.intro g_B (And.intro g_R (hB))))
  clear g_A g_B g_R hB
  go_wp2
  obtain ⟨g_A,g_B,g_R,hB⟩:=HG.out
  refine bodyPost_ret (results_ct rfl _ _ (w.heap.size+1+1) 31 #[.int .i64 0,.int .i64 0] (0,0) _ rfl ?_ Try.underlying31 rfl (by kernel_rfl)) rfl ⟨rfl,?_⟩
  ·simp (disch:=omega) only [Hand.q1,g_R];rfl
  ·exact (hB.setCell Hand.d _).setCell Hand.d _
theorem divR_any (a b c d:Int) (w:World) (ha0:-9223372036854775808≤a) (ha1:a≤9223372036854775807) (hb0:-9223372036854775808≤b) (hb1:b≤9223372036854775807)
  (hc0:-9223372036854775808≤c) (hc1:c≤9223372036854775807) (hd0:-9223372036854775808≤d) (hd1:d≤9223372036854775807) :
  Calls Try.prog 63 #[.agg #[.int .i64 a,.int .i64 b],.agg #[.int .i64 c,.int .i64 d]] w fun e w'=>e = .returned (.tuple #[.agg #[.int .i64 (divS a b c d).1,.int .i64 (divS a b c d).2.1],.int .i64 (divS a b c d).2.2])∧Below w.heap.size w w':=by
 unfold divS
 by_cases h:(rightS a b && rightS c d)=true
 ·rw [if_pos h]
  by_cases hc:c=0
  ·rw [if_pos hc]
   exact div_bad a b c d true 11 w ha0 ha1 hb0 hb1 hc0 hc1 hd0 hd1 h (.inr ⟨rfl,beq_iff_eq.mpr hc,rfl⟩)
  ·rw [if_neg hc]
   rw [Bool.and_eq_true] at h
   exact div_ok a b c d _ _ _ _ _ _ w h.1 h.2 (beq_eq_false_iff_ne.mpr hc) rfl rfl rfl rfl
 ·rw [if_neg h]
  exact div_bad a b c d false 12 w ha0 ha1 hb0 hb1 hc0 hc1 hd0 hd1 (by simpa using h) (.inl ⟨rfl,rfl⟩)
end Go.Proofs.Ythlpaglldhgmfaa.PA
