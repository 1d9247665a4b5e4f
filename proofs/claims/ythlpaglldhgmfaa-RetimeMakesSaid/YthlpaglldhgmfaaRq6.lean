/- Chapter 6: Rates of the reference. -/
import Derived.Test.YthlpaglldhgmfaaRt6
import Derived.Test.YthlpaglldhgmfaaMq6
import Derived.Deep.RegionHeld3
set_option maxHeartbeats 4000000
set_option maxRecDepth 100000
namespace Go.Proofs.Ythlpaglldhgmfaa.PA
open Go Go.RowKit Go.Proofs.YthlpaglldhgmfaaW.PrintWords Go.Proofs.YthlpaglldhgmfaaW.PrintLast Go.Proofs.YthlpaglldhgmfaaW.PrintMore
attribute [local go_sem high] eqA31 eqA35
set_option linter.unusedSimpArgs false
set_option linter.unusedVariables false
open Go.Proofs.Ythlpaglldhgmfaa.CS Go.Proofs.Ythlpaglldhgmfaa.PR
theorem noB_rates (n d:Int) (b:Bool) (m f:Int) (z:Bool):noB (ratesS n d b m f z) =
  if checkS n d b≠0 then (none,checkS n d b) else if checkS m f z≠0 then (none,checkS m f z) else
  if (newS n d).2.2≠0 then (none,(newS n d).2.2) else if (newS m f).2.2≠0 then (none,(newS m f).2.2) else
  if (rDiv ((newS n d).1,(newS n d).2.1) ((newS m f).1,(newS m f).2.1)).2≠0 then (none,(rDiv ((newS n d).1,(newS n d).2.1) ((newS m f).1,(newS m f).2.1)).2) else
  noB (scaleS (rDiv ((newS n d).1,(newS n d).2.1) ((newS m f).1,(newS m f).2.1)).1 (0,1)):=by
 unfold ratesS
 have h:∀ (p:Prop) [Decidable p] (e:Int) (x:Option MapV × Int),noB (if p then (none,e) else x)=if p then (none,e) else noB x:=by
  intro p _ e x
  split<;>rfl
 rw [h,h,h,h,h]
theorem low_new {n d:Int} (h1:1≤n) (h2:n≤240000) (h3:1≤d) (h4:d≤1001):surtitleref3_right.f false 0 n=some (false,0,n)∧surtitleref3_lowest.f false 0 n false 0 d=some (newS n d)∧wI (n*1)=(false,0,n)∧surtitleref3_size.f d=some d:=by
 have e1:wvN 0 n=n.natAbs:=by have:=wvN_hl n.natAbs;rw [hiN_small (by omega),loN_small (by omega)] at this;rwa [show ((n.natAbs:Nat):Int)=n by omega] at this
 have e2:wvN 0 d=d.natAbs:=by have:=wvN_hl d.natAbs;rw [hiN_small (by omega),loN_small (by omega)] at this;rwa [show ((d.natAbs:Nat):Int)=d by omega] at this
 refine ⟨?_,?_,?_,?_⟩
 ·unfold surtitleref3_right.f;rw [if_pos rfl,if_neg (by omega)]
 ·unfold surtitleref3_lowest.f
  rw [e1,e2,if_pos ⟨by decide,u64ok_iff.2 ⟨by omega,by omega⟩,by decide,u64ok_iff.2 ⟨by omega,by omega⟩,rfl,fun _=>rfl,by omega⟩]
  unfold newS
  rw [if_neg (by omega),decide_eq_false (show ¬ n<0 by omega),decide_eq_false (show ¬ d<0 by omega)]
  rfl
 ·unfold wI;rw [Int.mul_one,hiN_small (by omega),loN_small (by omega),decide_eq_false (show ¬ n<0 by omega),show ((n.natAbs:Nat):Int)=n by omega]
 ·unfold surtitleref3_size.f;rw [if_neg (by omega),IntKind.wrap_u64,Int.emod_eq_of_lt (by omega) (by omega)]
theorem check_ok {n d:Int} {b:Bool} (h:checkS n d b=0):1≤n∧n≤240000∧1≤d∧d≤1001:=by
 unfold checkS at h
 by_cases h1:okR n d b=true
 ·have:=okR_iff.mp h1
  obtain ⟨a1,a2,a3,a4,_⟩:=this
  omega
 ·rw [if_neg h1] at h
  exact absurd h (by decide)
theorem qnew3_any (n d:Int) (h1:1≤n) (h2:n≤240000) (h3:1≤d) (h4:d≤1001) (w:World) :
  Calls Try.prog 65 #[.int .i64 n,.int .i64 d] w fun e w'=>e = .returned (.tuple #[.agg #[.int .i64 (newS n d).1,.int .i64 (newS n d).2.1],.int .i64 (newS n d).2.2])∧Below w.heap.size w w':=by
 obtain ⟨hr,hl,hw,hs⟩:=low_new h1 h2 h3 h4
 obtain ⟨⟨x,y,z⟩,hR⟩:∃ X,newS n d=X:=⟨_,rfl⟩
 rw [hR] at hl ⊢
 have M1:=Lib.hid (fun (u:World)=>(by have:=qtimes n 1 u (by omega) (by omega) (by omega) (by omega);rw [hw] at this;exact this:Calls Try.prog 94 #[.int .i64 n,.int .i64 1] u fun e w'=>e = .returned (.agg #[.bool false,.int .u64 0,.int .u64 n])∧Below u.heap.size u w'))
 have M2:=Lib.hid (fun (u:World)=>(surtitleref3_right.calls false 0 n _ _ _ u hr:Calls Try.prog 100 #[.agg #[.bool false,.int .u64 0,.int .u64 n]] u fun e w'=>e = .returned (.agg #[.bool false,.int .u64 0,.int .u64 n])∧Below u.heap.size u w'))
 have M3:=Lib.hid (fun (u:World)=>((surtitleref3_size.calls d d u hs).mono (by rintro e w' ⟨h,hd⟩;exact ⟨h,by first|exact hd|(obtain ⟨q,rfl⟩:=hd.out;apply pw_below_drewN;exact Below.refl _ _)⟩):Calls Try.prog 96 #[.int .i64 d] u fun e w'=>e = .returned (.int .u64 d)∧Below u.heap.size u w'))
 have M4:=Lib.hid (fun (u:World)=>(surtitleref3_lowest.calls false 0 n false 0 d x y z u hl:Calls Try.prog 92 #[.agg #[.bool false,.int .u64 0,.int .u64 n],.agg #[.bool false,.int .u64 0,.int .u64 d]] u fun e w'=>e = .returned (.tuple #[.agg #[.int .i64 x,.int .i64 y],.int .i64 z])∧Below u.heap.size u w'))
 have j1:(d == 0)=false:=by simp;omega
 have j2:decide (d<0)=false:=decide_eq_false (by omega)
 clear hr hl hw hs hR h1 h2 h3 h4
 go_enter Try.func65,Try.ntmps65
 go_wp2_with fail
 with_reducible refine (M1.out _).mono ?_
 rintro e_ w1 ⟨rfl,hb1⟩
 have g_R:=Hand.kb hb1 (Hand.q3 w (.cells #[.int .i64 0,.int .i64 0] 31 (0,0)) _ rfl)
 have HB:=Hand.stepB hb1 ((Below.refl w.heap.size w).alloc (Nat.le_refl _) _) (Nat.le_refl _)
 have lR:=(Hand.hz g_R).1
 clear hb1
 go_wp2_with fail
 with_reducible refine (M2.out _).mono ?_
 rintro e_ w2 ⟨rfl,hb2⟩
 have g_R:=Hand.kb hb2 (Hand.ka g_R)
 have HB:=Hand.stepB hb2 (HB.alloc HB.size _) (Nat.le_refl _)
 clear hb2
 go_wp2_with fail
 with_reducible refine (M3.out _).mono ?_
 rintro e_ w3 ⟨rfl,hb3⟩
 have g_R:=Hand.kb hb3 g_R
 have HB:=Hand.stepB hb3 HB (Nat.le_refl _)
 clear hb3
 go_wp2_with fail
 with_reducible refine (M4.out _).mono ?_
 rintro e_ w4 ⟨rfl,hb4⟩
 have g_R:=Hand.kb hb4 g_R
 have HB:=Hand.stepB hb4 HB (Nat.le_refl _)
 clear hb4
 obtain ⟨cR0,fR0,cR1,fR1⟩:=Hand.hc2 g_R
 have zR:=(Hand.hz g_R).1
 go_wp2
 refine bodyPost_ret (results_ct rfl _ _ (w.heap.size) 31 #[.int .i64 x,.int .i64 y] (0,0) _ rfl ?_ Try.underlying31 rfl (by kernel_rfl)) rfl ⟨rfl,?_⟩
 ·simp (disch:=try exact Hand.z) only [Hand.q5,Hand.q1,Hand.q2,g_R];rfl
 ·exact (HB.setCell (Nat.le_refl _) _).setCell (Nat.le_refl _) _
noncomputable def qrtT1:Code:=sndC (Try.f29.body.getD .skip)
noncomputable def qrtT2:Code:=sndC qrtT1
noncomputable def qrtT3:Code:=sndC qrtT2
noncomputable def qrtT4:Code:=sndC qrtT3
noncomputable def qrtT5:Code:=sndC qrtT4
noncomputable def qrtT6:Code:=sndC qrtT5
noncomputable def qrtT7:Code:=sndC qrtT6
noncomputable def qrtT8:Code:=sndC qrtT7
noncomputable def qrtT9:Code:=sndC qrtT8
noncomputable def qrtT10:Code:=sndC qrtT9
noncomputable def qrtT11:Code:=sndC qrtT10
theorem qrtE1:qrtT1 = .seq (fstC qrtT1) qrtT2:=by kernel_rfl
theorem qrtE2:qrtT2 = .seq (fstC qrtT2) qrtT3:=by kernel_rfl
theorem qrtE3:qrtT3 = .seq (fstC qrtT3) qrtT4:=by kernel_rfl
theorem qrtE4:qrtT4 = .seq (fstC qrtT4) qrtT5:=by kernel_rfl
theorem qrtE5:qrtT5 = .seq (fstC qrtT5) qrtT6:=by kernel_rfl
theorem qrtE6:qrtT6 = .seq (fstC qrtT6) qrtT7:=by kernel_rfl
theorem qrtE7:qrtT7 = .seq (fstC qrtT7) qrtT8:=by kernel_rfl
theorem qrtE8:qrtT8 = .seq (fstC qrtT8) qrtT9:=by kernel_rfl
theorem qrtE9:qrtT9 = .seq (fstC qrtT9) qrtT10:=by kernel_rfl
theorem qrtE10:qrtT10 = .seq (fstC qrtT10) qrtT11:=by kernel_rfl
theorem qrt_11 (w V:World) (c1 c2:Int) {z0 z1 z2 z3 z4 z5 z6 z7 z8 z10 z11 z12 z13 z14 z15 z16 z17 z18 z19 z20 z21 z22 z23 z24 z25 z26 z27 z28 z29 z30 z31 z32 z33 z34 z35 z36 z37 z38 z39 z40 z41 z42 z43 z44 z45 z46 z47 z48 z49 z50 z51 z52 z53 z54 z55:Value} {gc:Nat} (hc:V.heap[gc]?=some (.cells #[.int .i64 c1,.int .i64 c2] 31 (0,0))) (rc:R64 (c1,c2)) (hB:Below w.heap.size w V) :
  qrtT11.wp Try.prog (bodyPost Try.prog Try.f29 (NewSQ w (noB (scaleS (c1,c2) (0,1))))) ⟨#[z0,z1,z2,z3,z4,z5,z6,z7,z8,.pointer (some ⟨gc,0,none⟩),z10,z11,z12,z13,z14,z15,z16,z17,z18,z19,z20,z21,z22,z23,z24,z25,z26,z27,z28,z29,z30,z31,z32,z33,z34,z35,z36,z37,z38,z39,z40,z41,z42,z43,z44,z45,z46,z47,z48,z49,z50,z51,z52,z53,z54,z55],[]⟩ V:=by
 have M0:=Lib.hid (fun u=>qnought_any u)
 have MN:=Lib.hid (fun u=>qscale_any c1 c2 0 1 rc (R64_w 0 (by decide) (by decide)) u)
 clear rc
 obtain ⟨c0,f0,c1_,f1⟩:=Hand.hc2 hc
 have gz:=(Hand.hz hc).1
 have HC:=Lib.hid (fun (w_:World) (h:Below V.heap.size V w_)=>(⟨h,(h.cell Hand.d).trans c0,(h.cell Hand.d).trans c1_⟩:Below V.heap.size V w_∧w_.cell? ⟨gc,0,none⟩=some (.int .i64 c1)∧w_.cell? ⟨gc,1,none⟩=some (.int .i64 c2)))
 have BR:Below V.heap.size V V:=Below.refl _ _
 have HBV:=Lib.hid hB
 clear hB hc c0 f0 c1_ f1
 conv=>arg 2;whnf
 go_wp2_with fail
 go_region_held3 (fun w_=>Below V.heap.size V w_∧w_.cell? ⟨gc,0,none⟩=some (.int .i64 c1)∧w_.cell? ⟨gc,1,none⟩=some (.int .i64 c2)) (first|(refine HC.out _ ?_;repeat (with_reducible first|assumption|apply Below.drew|refine Below.alloc ?_ Hand.z _))) (first|(go_at_call 57;((with_reducible refine (M0.out _).mono ?_);rintro e_ w4 ⟨rfl,hb4⟩;have BB:Below V.heap.size V w4:=Hand.stepB hb4 (by repeat (with_reducible first|assumption|apply Below.drew|refine Below.alloc ?_ Hand.z _)) (Nat.le_refl _);have zB4:=BB.size))|(go_at_call 27;((with_reducible refine (MN.out _).mono ?_);rintro e_ w5 ⟨v,rfl,hnr,hb5⟩;have BB:Below V.heap.size V w5:=Hand.stepB hb5 (by repeat (with_reducible first|assumption|apply Below.drew|refine Below.alloc ?_ Hand.z _)) (Nat.le_refl _))))
 all_goals go_wp2
 all_goals go_ret2
 all_goals (exact ⟨_,rfl,hnr,Hand.stepB BB HBV.out (Nat.le_refl _)⟩)
theorem qrt_9 (w V:World) (a1 a2 b1 b2:Int) {z0 z1 z2 z3 z4 z5 z6 z9 z10 z11 z12 z13 z14 z15 z16 z17 z18 z19 z20 z21 z22 z23 z24 z25 z26 z27 z28 z29 z30 z31 z32 z33 z34 z35 z36 z37 z38 z39 z40 z41 z42 z43 z44 z45 z46 z47 z48 z49 z50 z51 z52 z53 z54 z55:Value} {ga gb:Nat} (ha:V.heap[ga]?=some (.cells #[.int .i64 a1,.int .i64 a2] 31 (0,0))) (hb:V.heap[gb]?=some (.cells #[.int .i64 b1,.int .i64 b2] 31 (0,0))) (hB:Below w.heap.size w V) :
  qrtT9.wp Try.prog (bodyPost Try.prog Try.f29 (NewSQ w (if (rDiv (a1,a2) (b1,b2)).2≠0 then (none,(rDiv (a1,a2) (b1,b2)).2) else noB (scaleS (rDiv (a1,a2) (b1,b2)).1 (0,1))))) ⟨#[z0,z1,z2,z3,z4,z5,z6,.pointer (some ⟨ga,0,none⟩),.pointer (some ⟨gb,0,none⟩),z9,z10,z11,z12,z13,z14,z15,z16,z17,z18,z19,z20,z21,z22,z23,z24,z25,z26,z27,z28,z29,z30,z31,z32,z33,z34,z35,z36,z37,z38,z39,z40,z41,z42,z43,z44,z45,z46,z47,z48,z49,z50,z51,z52,z53,z54,z55],[]⟩ V:=by
 have M:=Lib.hid (fun u=>qdiv_any (a1,a2) (b1,b2) u)
 have hR:=div_R (a1,a2) (b1,b2)
 obtain ⟨⟨⟨c1,c2⟩,e1⟩,hX⟩:∃ X,(rDiv (a1,a2) (b1,b2))=X:=⟨_,rfl⟩
 rw [hX] at M hR
 obtain ⟨R,hRR⟩:∃ R,(if (rDiv (a1,a2) (b1,b2)).2≠0 then (none,(rDiv (a1,a2) (b1,b2)).2) else noB (scaleS (rDiv (a1,a2) (b1,b2)).1 (0,1)))=R:=⟨_,rfl⟩
 rw [hRR]
 rw [hX] at hRR
 try dsimp only [rv] at M
 dsimp only at hRR hR
 have HRR:=Lib.hid hRR
 have HR:=Lib.hid hR
 clear hRR hR hX 
 obtain ⟨a0_,fa0,a1_,fa1⟩:=Hand.hc2 ha
 obtain ⟨b0_,fb0,b1_,fb1⟩:=Hand.hc2 hb
 rw [qrtE9]
 refine wp_seq_k (fun K9 hK9=>?_)
 have HK9:=Lib.hid hK9
 clear hK9
 conv=>arg 2;whnf
 go_wp2_with fail
 with_reducible refine (M.out _).mono ?_
 rintro e_ w1 ⟨rfl,hb1⟩
 have hB1:=Hand.stepB hb1 hB (Nat.le_refl _)
 have hs1:=hB1.size
 clear hb1 hB
 go_wp2
 refine HK9.out _ _ ?_
 obtain ⟨W,hW⟩:∃ W_,W_=w1.alloc (.cells #[.int .i64 c1,.int .i64 c2] 31):=⟨_,rfl⟩
 rw [← hW]
 have gc:W.heap[w1.heap.size]?=some (.cells #[.int .i64 c1,.int .i64 c2] 31 (0,0)):=by rw [hW];exact Hand.q3 _ _ _ rfl
 have hBW:Below w.heap.size w W:=by rw [hW];exact hB1.alloc hs1 _
 clear hW hB1 
 rw [qrtE10]
 refine wp_seq_k (fun K10 hK10=>?_)
 have HK10:=Lib.hid hK10
 clear hK10
 conv=>arg 2;whnf
 by_cases he:e1=0
 ·have j1:(e1 != 0)=false:=by simpa using he
  have hQ:noB (scaleS (c1,c2) (0,1))=R:=by have:=HRR.out;rwa [if_neg (by simpa using he)] at this
  clear he
  go_wp2
  refine HK10.out _ _ ?_
  rw [← hQ]
  exact qrt_11 w W c1 c2 gc HR.out hBW
 ·have j1:(e1 != 0)=true:=by simpa using he
  go_wp2
  go_ret2
  rw [← HRR.out,if_pos he]
  exact ⟨_,rfl,rfl,hBW⟩
theorem qrt_7 (w V:World) (n d a1 a2:Int) {z0 z1 z2 z4 z5 z6 z8 z9 z10 z11 z12 z13 z14 z15 z16 z17 z18 z19 z20 z21 z22 z23 z24 z25 z26 z27 z28 z29 z30 z31 z32 z33 z34 z35 z36 z37 z38 z39 z40 z41 z42 z43 z44 z45 z46 z47 z48 z49 z50 z51 z52 z53 z54 z55:Value} {gr ga:Nat} {b:Bool} (hr:V.heap[gr]?=some (.cells #[.int .i64 n,.int .i64 d,.bool b] 50 (0,0))) (ha:V.heap[ga]?=some (.cells #[.int .i64 a1,.int .i64 a2] 31 (0,0))) (h1:1≤n) (h2:n≤240000) (h3:1≤d) (h4:d≤1001) (hB:Below w.heap.size w V) :
  qrtT7.wp Try.prog (bodyPost Try.prog Try.f29 (NewSQ w (if (newS n d).2.2≠0 then (none,(newS n d).2.2) else (if (rDiv (a1,a2) ((newS n d).1,(newS n d).2.1)).2≠0 then (none,(rDiv (a1,a2) ((newS n d).1,(newS n d).2.1)).2) else noB (scaleS (rDiv (a1,a2) ((newS n d).1,(newS n d).2.1)).1 (0,1)))))) ⟨#[z0,z1,z2,.pointer (some ⟨gr,0,none⟩),z4,z5,z6,.pointer (some ⟨ga,0,none⟩),z8,z9,z10,z11,z12,z13,z14,z15,z16,z17,z18,z19,z20,z21,z22,z23,z24,z25,z26,z27,z28,z29,z30,z31,z32,z33,z34,z35,z36,z37,z38,z39,z40,z41,z42,z43,z44,z45,z46,z47,z48,z49,z50,z51,z52,z53,z54,z55],[]⟩ V:=by
 have M:=Lib.hid (fun u=>qnew3_any n d h1 h2 h3 h4 u)
 have hR:=new_R n d
 obtain ⟨⟨c1,c2,e1⟩,hX⟩:∃ X,(newS n d)=X:=⟨_,rfl⟩
 rw [hX] at M hR
 obtain ⟨R,hRR⟩:∃ R,(if (newS n d).2.2≠0 then (none,(newS n d).2.2) else (if (rDiv (a1,a2) ((newS n d).1,(newS n d).2.1)).2≠0 then (none,(rDiv (a1,a2) ((newS n d).1,(newS n d).2.1)).2) else noB (scaleS (rDiv (a1,a2) ((newS n d).1,(newS n d).2.1)).1 (0,1))))=R:=⟨_,rfl⟩
 rw [hRR]
 rw [hX] at hRR
 try dsimp only [rv] at M
 dsimp only at hRR hR
 have HRR:=Lib.hid hRR
 have HR:=Lib.hid hR
 clear hRR hR hX 
 obtain ⟨a0_,fa0,a1_,fa1,a2_,fa2⟩:=Hand.hc3 hr
 rw [qrtE7]
 refine wp_seq_k (fun K7 hK7=>?_)
 have HK7:=Lib.hid hK7
 clear hK7
 conv=>arg 2;whnf
 go_wp2_with fail
 with_reducible refine (M.out _).mono ?_
 rintro e_ w1 ⟨rfl,hb1⟩
 have hB1:=Hand.stepB hb1 hB (Nat.le_refl _)
 have hs1:=hB1.size
 have ha1:=Hand.kb hb1 ha
 clear hb1 hB
 go_wp2
 refine HK7.out _ _ ?_
 obtain ⟨W,hW⟩:∃ W_,W_=w1.alloc (.cells #[.int .i64 c1,.int .i64 c2] 31):=⟨_,rfl⟩
 rw [← hW]
 have gc:W.heap[w1.heap.size]?=some (.cells #[.int .i64 c1,.int .i64 c2] 31 (0,0)):=by rw [hW];exact Hand.q3 _ _ _ rfl
 have hBW:Below w.heap.size w W:=by rw [hW];exact hB1.alloc hs1 _
 have ha2:W.heap[ga]?=some (.cells #[.int .i64 a1,.int .i64 a2] 31 (0,0)):=by rw [hW];exact Hand.ka ha1
 clear hW hB1 ha1
 rw [qrtE8]
 refine wp_seq_k (fun K8 hK8=>?_)
 have HK8:=Lib.hid hK8
 clear hK8
 conv=>arg 2;whnf
 by_cases he:e1=0
 ·have j1:(e1 != 0)=false:=by simpa using he
  have hQ:(if (rDiv (a1,a2) (c1,c2)).2≠0 then (none,(rDiv (a1,a2) (c1,c2)).2) else noB (scaleS (rDiv (a1,a2) (c1,c2)).1 (0,1)))=R:=by have:=HRR.out;rwa [if_neg (by simpa using he)] at this
  clear he
  go_wp2
  refine HK8.out _ _ ?_
  rw [← hQ]
  exact qrt_9 w W a1 a2 c1 c2 ha2 gc hBW
 ·have j1:(e1 != 0)=true:=by simpa using he
  go_wp2
  go_ret2
  rw [← HRR.out,if_pos he]
  exact ⟨_,rfl,rfl,hBW⟩
theorem qrt_5 (w V:World) (n d m f:Int) {z0 z1 z4 z5 z6 z7 z8 z9 z10 z11 z12 z13 z14 z15 z16 z17 z18 z19 z20 z21 z22 z23 z24 z25 z26 z27 z28 z29 z30 z31 z32 z33 z34 z35 z36 z37 z38 z39 z40 z41 z42 z43 z44 z45 z46 z47 z48 z49 z50 z51 z52 z53 z54 z55:Value} {gr gq:Nat} {b z:Bool} (hr:V.heap[gr]?=some (.cells #[.int .i64 n,.int .i64 d,.bool b] 50 (0,0))) (hq:V.heap[gq]?=some (.cells #[.int .i64 m,.int .i64 f,.bool z] 50 (0,0))) (h1:1≤n) (h2:n≤240000) (h3:1≤d) (h4:d≤1001) (k1:1≤m) (k2:m≤240000) (k3:1≤f) (k4:f≤1001) (hB:Below w.heap.size w V) :
  qrtT5.wp Try.prog (bodyPost Try.prog Try.f29 (NewSQ w (if (newS n d).2.2≠0 then (none,(newS n d).2.2) else (if (newS m f).2.2≠0 then (none,(newS m f).2.2) else (if (rDiv ((newS n d).1,(newS n d).2.1) ((newS m f).1,(newS m f).2.1)).2≠0 then (none,(rDiv ((newS n d).1,(newS n d).2.1) ((newS m f).1,(newS m f).2.1)).2) else noB (scaleS (rDiv ((newS n d).1,(newS n d).2.1) ((newS m f).1,(newS m f).2.1)).1 (0,1))))))) ⟨#[z0,z1,.pointer (some ⟨gr,0,none⟩),.pointer (some ⟨gq,0,none⟩),z4,z5,z6,z7,z8,z9,z10,z11,z12,z13,z14,z15,z16,z17,z18,z19,z20,z21,z22,z23,z24,z25,z26,z27,z28,z29,z30,z31,z32,z33,z34,z35,z36,z37,z38,z39,z40,z41,z42,z43,z44,z45,z46,z47,z48,z49,z50,z51,z52,z53,z54,z55],[]⟩ V:=by
 have M:=Lib.hid (fun u=>qnew3_any n d h1 h2 h3 h4 u)
 have hR:=new_R n d
 obtain ⟨⟨c1,c2,e1⟩,hX⟩:∃ X,(newS n d)=X:=⟨_,rfl⟩
 rw [hX] at M hR
 obtain ⟨R,hRR⟩:∃ R,(if (newS n d).2.2≠0 then (none,(newS n d).2.2) else (if (newS m f).2.2≠0 then (none,(newS m f).2.2) else (if (rDiv ((newS n d).1,(newS n d).2.1) ((newS m f).1,(newS m f).2.1)).2≠0 then (none,(rDiv ((newS n d).1,(newS n d).2.1) ((newS m f).1,(newS m f).2.1)).2) else noB (scaleS (rDiv ((newS n d).1,(newS n d).2.1) ((newS m f).1,(newS m f).2.1)).1 (0,1)))))=R:=⟨_,rfl⟩
 rw [hRR]
 rw [hX] at hRR
 try dsimp only [rv] at M
 dsimp only at hRR hR
 have HRR:=Lib.hid hRR
 have HR:=Lib.hid hR
 clear hRR hR hX 
 obtain ⟨a0_,fa0,a1_,fa1,a2_,fa2⟩:=Hand.hc3 hr
 rw [qrtE5]
 refine wp_seq_k (fun K5 hK5=>?_)
 have HK5:=Lib.hid hK5
 clear hK5
 conv=>arg 2;whnf
 go_wp2_with fail
 with_reducible refine (M.out _).mono ?_
 rintro e_ w1 ⟨rfl,hb1⟩
 have hB1:=Hand.stepB hb1 hB (Nat.le_refl _)
 have hs1:=hB1.size
 have hq1:=Hand.kb hb1 hq
 clear hb1 hB
 go_wp2
 refine HK5.out _ _ ?_
 obtain ⟨W,hW⟩:∃ W_,W_=w1.alloc (.cells #[.int .i64 c1,.int .i64 c2] 31):=⟨_,rfl⟩
 rw [← hW]
 have gc:W.heap[w1.heap.size]?=some (.cells #[.int .i64 c1,.int .i64 c2] 31 (0,0)):=by rw [hW];exact Hand.q3 _ _ _ rfl
 have hBW:Below w.heap.size w W:=by rw [hW];exact hB1.alloc hs1 _
 have hq2:W.heap[gq]?=some (.cells #[.int .i64 m,.int .i64 f,.bool z] 50 (0,0)):=by rw [hW];exact Hand.ka hq1
 clear hW hB1 hq1
 rw [qrtE6]
 refine wp_seq_k (fun K6 hK6=>?_)
 have HK6:=Lib.hid hK6
 clear hK6
 conv=>arg 2;whnf
 by_cases he:e1=0
 ·have j1:(e1 != 0)=false:=by simpa using he
  have hQ:(if (newS m f).2.2≠0 then (none,(newS m f).2.2) else (if (rDiv (c1,c2) ((newS m f).1,(newS m f).2.1)).2≠0 then (none,(rDiv (c1,c2) ((newS m f).1,(newS m f).2.1)).2) else noB (scaleS (rDiv (c1,c2) ((newS m f).1,(newS m f).2.1)).1 (0,1))))=R:=by have:=HRR.out;rwa [if_neg (by simpa using he)] at this
  clear he
  go_wp2
  refine HK6.out _ _ ?_
  rw [← hQ]
  exact qrt_7 w W m f c1 c2 hq2 gc k1 k2 k3 k4 hBW
 ·have j1:(e1 != 0)=true:=by simpa using he
  go_wp2
  go_ret2
  rw [← HRR.out,if_pos he]
  exact ⟨_,rfl,rfl,hBW⟩
theorem qrates_any (n d:Int) (b:Bool) (m f:Int) (z:Bool) (w:World) :
  Calls Try.prog 29 #[rate n d b,rate m f z] w (NewSQ w (noB (ratesS n d b m f z))):=by
 have MC1:=Lib.hid (fun u=>rcheck_any n d b u)
 have MC2:=Lib.hid (fun u=>rcheck_any m f z u)
 dsimp only [rate] at MC1 MC2
 obtain ⟨R,hRR⟩:∃ R,noB (ratesS n d b m f z)=R:=⟨_,rfl⟩
 rw [hRR]
 rw [noB_rates] at hRR
 obtain ⟨e1,h1⟩:∃ e,checkS n d b=e:=⟨_,rfl⟩
 obtain ⟨e2,h2⟩:∃ e,checkS m f z=e:=⟨_,rfl⟩
 have HO:=Lib.hid (And.intro (fun h:e1=0=>check_ok (h1.trans h)) (fun h:e2=0=>check_ok (h2.trans h)))
 rw [h1,h2] at hRR
 rw [h1] at MC1
 rw [h2] at MC2
 have HRR:=Lib.hid hRR
 clear hRR h1 h2
 go_enter Try.func29,Try.ntmps29
 refine wp_seq_k (fun K0 hK0=>?_)
 have HK0:=Lib.hid hK0
 clear hK0
 go_wp2_with fail
 refine HK0.out _ _ ?_
 show qrtT1.wp _ _ _ _
 obtain ⟨V,hV⟩:∃ V_,V_=(w.alloc (.cells #[.int .i64 n,.int .i64 d,.bool b] 50)).alloc (.cells #[.int .i64 m,.int .i64 f,.bool z] 50):=⟨_,rfl⟩
 rw [← hV]
 have gr:V.heap[w.heap.size]?=some (.cells #[.int .i64 n,.int .i64 d,.bool b] 50 (0,0)):=by rw [hV];simp (disch:=try exact Hand.z) only [Hand.q4,Hand.q3]
 have gq:V.heap[w.heap.size+1]?=some (.cells #[.int .i64 m,.int .i64 f,.bool z] 50 (0,0)):=by rw [hV];simp (disch:=try exact Hand.z) only [Hand.q4,Hand.q3]
 have hB:Below w.heap.size w V:=by rw [hV];exact ((Below.refl _ _).alloc (Nat.le_refl _) _).alloc (by simp only [World.size_alloc];omega) _
 clear hV
 obtain ⟨r0,fr0,r1,fr1,r2,fr2⟩:=Hand.hc3 gr
 rw [qrtE1]
 refine wp_seq_k (fun K1 hK1=>?_)
 have HK1:=Lib.hid hK1
 clear hK1
 conv=>arg 2;whnf
 go_wp2_with fail
 with_reducible refine (MC1.out _).mono ?_
 rintro e_ w1 ⟨rfl,hb1⟩
 have gr:=Hand.kb hb1 gr
 have gq:=Hand.kb hb1 gq
 have hB:=Hand.stepB hb1 hB (Nat.le_refl _)
 clear hb1 r0 fr0 r1 fr1 r2 fr2
 go_wp2
 refine HK1.out _ _ ?_
 rw [qrtE2]
 refine wp_seq_k (fun K2 hK2=>?_)
 have HK2:=Lib.hid hK2
 clear hK2
 conv=>arg 2;whnf
 by_cases he1:e1=0
 ·have j1:(e1 != 0)=false:=by simpa using he1
  have HE1:=Lib.hid he1
  clear he1
  go_wp2
  refine HK2.out _ _ ?_
  obtain ⟨r0,fr0,r1,fr1,r2,fr2⟩:=Hand.hc3 gq
  rw [qrtE3]
  refine wp_seq_k (fun K3 hK3=>?_)
  have HK3:=Lib.hid hK3
  clear hK3
  conv=>arg 2;whnf
  go_wp2_with fail
  with_reducible refine (MC2.out _).mono ?_
  rintro e_ w3 ⟨rfl,hb3⟩
  have gr:=Hand.kb hb3 gr
  have gq:=Hand.kb hb3 gq
  have hB:=Hand.stepB hb3 hB (Nat.le_refl _)
  clear hb3 r0 fr0 r1 fr1 r2 fr2
  go_wp2
  refine HK3.out _ _ ?_
  rw [qrtE4]
  refine wp_seq_k (fun K4 hK4=>?_)
  have HK4:=Lib.hid hK4
  clear hK4
  conv=>arg 2;whnf
  by_cases he3:e2=0
  ·have j1:(e2 != 0)=false:=by simpa using he3
   have HE3:=Lib.hid he3
   clear he3
   go_wp2
   refine HK4.out _ _ ?_
   rw [← HRR.out,if_neg (by rw [HE1.out];decide),if_neg (by rw [HE3.out];decide)]
   obtain ⟨x1,x2,x3,x4⟩:=HO.out.1 HE1.out
   obtain ⟨y1,y2,y3,y4⟩:=HO.out.2 HE3.out
   exact qrt_5 w _ n d m f gr gq x1 x2 x3 x4 y1 y2 y3 y4 hB
  ·have j1:(e2 != 0)=true:=by simpa using he3
   go_wp2
   go_ret2
   rw [← HRR.out,if_neg (by rw [HE1.out];decide),if_pos he3]
   exact ⟨_,rfl,rfl,hB⟩
 ·have j1:(e1 != 0)=true:=by simpa using he1
  go_wp2
  go_ret2
  rw [← HRR.out,if_pos he1]
  exact ⟨_,rfl,rfl,hB⟩
end Go.Proofs.Ythlpaglldhgmfaa.PA
