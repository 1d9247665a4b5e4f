/- Chapter 6: Rates. -/
import Derived.Test.YthlpaglldhgmfaaMk6
import Derived.Deep.RegionHeld3
set_option maxHeartbeats 4000000
set_option maxRecDepth 100000
namespace Go.Proofs.Ythlpaglldhgmfaa.PA
open Go Go.RowKit Go.Proofs.YthlpaglldhgmfaaW.PrintWords Go.Proofs.YthlpaglldhgmfaaW.PrintLast Go.Proofs.YthlpaglldhgmfaaW.PrintMore
attribute [local go_sem high] eqA31 eqA35
set_option linter.unusedSimpArgs false
set_option linter.unusedVariables false
open Go.Proofs.Ythlpaglldhgmfaa.CS
def ratesS (n1 d1:Int) (b1:Bool) (n2 d2:Int) (b2:Bool):Option MapV × Int :=
 if checkS n1 d1 b1≠0 then (none,checkS n1 d1 b1) else if checkS n2 d2 b2≠0 then (none,checkS n2 d2 b2) else
 if (newS n1 d1).2.2≠0 then (none,(newS n1 d1).2.2) else if (newS n2 d2).2.2≠0 then (none,(newS n2 d2).2.2) else
 if (rDiv ((newS n1 d1).1,(newS n1 d1).2.1) ((newS n2 d2).1,(newS n2 d2).2.1)).2≠0 then (none,(rDiv ((newS n1 d1).1,(newS n1 d1).2.1) ((newS n2 d2).1,(newS n2 d2).2.1)).2) else
 scaleS (rDiv ((newS n1 d1).1,(newS n1 d1).2.1) ((newS n2 d2).1,(newS n2 d2).2.1)).1 (0,1)
theorem new_R (n d:Int):R64 ((newS n d).1,(newS n d).2.1):=by
 unfold newS
 split
 ·exact R64_0
 ·exact fit_R _ _ _
noncomputable def ratT1:Code:=sndC (Try.f28.body.getD .skip)
noncomputable def ratT2:Code:=sndC ratT1
noncomputable def ratT3:Code:=sndC ratT2
noncomputable def ratT4:Code:=sndC ratT3
noncomputable def ratT5:Code:=sndC ratT4
noncomputable def ratT6:Code:=sndC ratT5
noncomputable def ratT7:Code:=sndC ratT6
noncomputable def ratT8:Code:=sndC ratT7
theorem ratE1:ratT1 = .seq (fstC ratT1) ratT2:=by kernel_rfl
theorem ratE2:ratT2 = .seq (fstC ratT2) ratT3:=by kernel_rfl
theorem ratE3:ratT3 = .seq (fstC ratT3) ratT4:=by kernel_rfl
theorem ratE4:ratT4 = .seq (fstC ratT4) ratT5:=by kernel_rfl
theorem ratE5:ratT5 = .seq (fstC ratT5) ratT6:=by kernel_rfl
theorem ratE6:ratT6 = .seq (fstC ratT6) ratT7:=by kernel_rfl
theorem ratE7:ratT7 = .seq (fstC ratT7) ratT8:=by kernel_rfl
theorem rat_8 (w V:World) (c1 c2:Int) {z0 z1 z2 z3 z4 z5 z6 z7 z8 z9 z10 z11 z13 z14 z15 z16 z17 z18 z19 z20 z21 z22 z23 z24 z25 z26 z27 z28 z29 z30 z31 z32 z33 z34 z35 z36 z37 z38 z39 z40 z41 z42 z43 z44 z45 z46 z47 z48 z49 z50 z51 z52 z53 z54 z55 z56 z57 z58 z59 z60 z61 z62:Value} {gc:Nat} (hc:V.heap[gc]?=some (.cells #[.int .i64 c1,.int .i64 c2] 31 (0,0))) (rc:R64 (c1,c2)) (hB:Below w.heap.size w V) (hsz:w.heap.size≤V.heap.size) :
  ratT8.wp Try.prog (bodyPost Try.prog Try.f28 (NewQ w (scaleS (c1,c2) (0,1)))) ⟨#[z0,z1,z2,z3,z4,z5,z6,z7,z8,z9,z10,z11,.pointer (some ⟨gc,0,none⟩),z13,z14,z15,z16,z17,z18,z19,z20,z21,z22,z23,z24,z25,z26,z27,z28,z29,z30,z31,z32,z33,z34,z35,z36,z37,z38,z39,z40,z41,z42,z43,z44,z45,z46,z47,z48,z49,z50,z51,z52,z53,z54,z55,z56,z57,z58,z59,z60,z61,z62],[]⟩ V:=by
 have M0:=Lib.hid (fun u=>whole_any 0 u)
 dsimp only [rv] at M0
 have MN:=Lib.hid (fun u=>scale_any c1 c2 0 1 rc (R64_w 0 (by decide) (by decide)) u)
 clear rc
 obtain ⟨c0,f0,c1_,f1⟩:=Hand.hc2 hc
 have gz:=(Hand.hz hc).1
 have HC:=Lib.hid (fun (w_:World) (h:Below V.heap.size V w_)=>(⟨h,(h.cell Hand.d).trans c0,(h.cell Hand.d).trans c1_⟩:Below V.heap.size V w_∧w_.cell? ⟨gc,0,none⟩=some (.int .i64 c1)∧w_.cell? ⟨gc,1,none⟩=some (.int .i64 c2)))
 have BR:Below V.heap.size V V:=Below.refl _ _
 have HBV:=Lib.hid hB
 clear hB hc c0 f0 c1_ f1
 conv=>arg 2;whnf
 go_wp2_with fail
 go_region_held3 (fun w_=>Below V.heap.size V w_∧w_.cell? ⟨gc,0,none⟩=some (.int .i64 c1)∧w_.cell? ⟨gc,1,none⟩=some (.int .i64 c2)) (first|(refine HC.out _ ?_;repeat (with_reducible first|assumption|apply Below.drew|refine Below.alloc ?_ Hand.z _))) (first|(go_at_call 41;((with_reducible refine (M0.out _).mono ?_);rintro e_ w4 ⟨rfl,hb4⟩;have BB:Below V.heap.size V w4:=Hand.stepB hb4 (by repeat (with_reducible first|assumption|apply Below.drew|refine Below.alloc ?_ Hand.z _)) (Nat.le_refl _);have zB4:=BB.size))|(go_at_call 26;((with_reducible refine (MN.out _).mono ?_);rintro e_ w5 ⟨v,rfl,hnr,hb5⟩;have BB:Below V.heap.size V w5:=Hand.stepB hb5 (by repeat (with_reducible first|assumption|apply Below.drew|refine Below.alloc ?_ Hand.z _)) (Nat.le_refl _))))
 all_goals go_wp2
 all_goals go_ret2
 all_goals (exact ⟨_,rfl,hnr.mono (by omega),Hand.stepB BB HBV.out (Nat.le_refl _)⟩)
theorem rat_6 (w V:World) (a1 a2 b1 b2:Int) {z0 z1 z2 z3 z4 z5 z6 z7 z8 z10 z12 z13 z14 z15 z16 z17 z18 z19 z20 z21 z22 z23 z24 z25 z26 z27 z28 z29 z30 z31 z32 z33 z34 z35 z36 z37 z38 z39 z40 z41 z42 z43 z44 z45 z46 z47 z48 z49 z50 z51 z52 z53 z54 z55 z56 z57 z58 z59 z60 z61 z62:Value} {ga gb:Nat} (ha:V.heap[ga]?=some (.cells #[.int .i64 a1,.int .i64 a2] 31 (0,0))) (hb:V.heap[gb]?=some (.cells #[.int .i64 b1,.int .i64 b2] 31 (0,0))) (ra:R64 (a1,a2)) (rb:R64 (b1,b2)) (hB:Below w.heap.size w V) (hsz:w.heap.size≤V.heap.size) :
  ratT6.wp Try.prog (bodyPost Try.prog Try.f28 (NewQ w (if (rDiv (a1,a2) (b1,b2)).2≠0 then (none,(rDiv (a1,a2) (b1,b2)).2) else scaleS (rDiv (a1,a2) (b1,b2)).1 (0,1)))) ⟨#[z0,z1,z2,z3,z4,z5,z6,z7,z8,.pointer (some ⟨ga,0,none⟩),z10,.pointer (some ⟨gb,0,none⟩),z12,z13,z14,z15,z16,z17,z18,z19,z20,z21,z22,z23,z24,z25,z26,z27,z28,z29,z30,z31,z32,z33,z34,z35,z36,z37,z38,z39,z40,z41,z42,z43,z44,z45,z46,z47,z48,z49,z50,z51,z52,z53,z54,z55,z56,z57,z58,z59,z60,z61,z62],[]⟩ V:=by
 have M:=Lib.hid (fun u=>f_div ra rb u)
 have hR:=div_R (a1,a2) (b1,b2)
 obtain ⟨⟨⟨c1,c2⟩,e1⟩,hX⟩:∃ X,(rDiv (a1,a2) (b1,b2))=X:=⟨_,rfl⟩
 rw [hX] at M hR
 obtain ⟨R,hRR⟩:∃ R,(if (rDiv (a1,a2) (b1,b2)).2≠0 then (none,(rDiv (a1,a2) (b1,b2)).2) else scaleS (rDiv (a1,a2) (b1,b2)).1 (0,1))=R:=⟨_,rfl⟩
 rw [hRR]
 rw [hX] at hRR
 dsimp only [rv] at M hRR
 have HRR:=Lib.hid hRR
 have HR:=Lib.hid hR
 clear hRR hR hX ra rb
 obtain ⟨a0_,fa0,a1_,fa1⟩:=Hand.hc2 ha
 obtain ⟨b0_,fb0,b1_,fb1⟩:=Hand.hc2 hb
 rw [ratE6]
 refine wp_seq_k (fun K6 hK6=>?_)
 have HK6:=Lib.hid hK6
 clear hK6
 conv=>arg 2;whnf
 go_wp2_with fail
 with_reducible refine (M.out _).mono ?_
 rintro e_ w1 ⟨rfl,hb1⟩
 have hB1:=Hand.stepB hb1 hB (Nat.le_refl _)
 have hs1:w.heap.size≤w1.heap.size:=Nat.le_trans hsz hb1.size
 clear hb1 hB a0_ fa0 a1_ fa1 b0_ fb0 b1_ fb1 ha hb
 go_wp2
 refine HK6.out _ _ ?_
 obtain ⟨W,hW⟩:∃ W_,W_=w1.alloc (.cells #[.int .i64 c1,.int .i64 c2] 31):=⟨_,rfl⟩
 rw [← hW]
 have gc:W.heap[w1.heap.size]?=some (.cells #[.int .i64 c1,.int .i64 c2] 31 (0,0)):=by rw [hW];exact Hand.q3 _ _ _ rfl
 have hBW:Below w.heap.size w W:=by rw [hW];exact hB1.alloc hs1 _
 have hsW:w.heap.size≤W.heap.size:=by rw [hW];simp only [World.size_alloc];omega
 clear hW hB1
 rw [ratE7]
 refine wp_seq_k (fun K7 hK7=>?_)
 have HK7:=Lib.hid hK7
 clear hK7
 conv=>arg 2;whnf
 by_cases he:e1=0
 ·have j1:(e1 != 0)=false:=by simpa using he
  have hQ:scaleS (c1,c2) (0,1)=R:=by have:=HRR.out;rwa [if_neg (by simpa using he)] at this
  clear he
  go_wp2
  refine HK7.out _ _ ?_
  rw [← hQ]
  exact rat_8 w W c1 c2 gc HR.out hBW hsW
 ·have j1:(e1 != 0)=true:=by simpa using he
  go_wp2
  go_ret2
  rw [← HRR.out,if_pos he]
  exact ⟨_,rfl,rfl,hBW⟩
theorem rat_4 (w V:World) (n d a1 a2:Int) {z0 z1 z2 z4 z5 z6 z7 z8 z10 z11 z12 z13 z14 z15 z16 z17 z18 z19 z20 z21 z22 z23 z24 z25 z26 z27 z28 z29 z30 z31 z32 z33 z34 z35 z36 z37 z38 z39 z40 z41 z42 z43 z44 z45 z46 z47 z48 z49 z50 z51 z52 z53 z54 z55 z56 z57 z58 z59 z60 z61 z62:Value} {gr ga:Nat} {b:Bool} (hr:V.heap[gr]?=some (.cells #[.int .i64 n,.int .i64 d,.bool b] 50 (0,0))) (ha:V.heap[ga]?=some (.cells #[.int .i64 a1,.int .i64 a2] 31 (0,0))) (ra:R64 (a1,a2)) (hn0:-9223372036854775808≤n) (hn1:n≤9223372036854775807) (hd0:-9223372036854775808≤d) (hd1:d≤9223372036854775807) (hB:Below w.heap.size w V) (hsz:w.heap.size≤V.heap.size) :
  ratT4.wp Try.prog (bodyPost Try.prog Try.f28 (NewQ w (if (newS n d).2.2≠0 then (none,(newS n d).2.2) else (if (rDiv (a1,a2) ((newS n d).1,(newS n d).2.1)).2≠0 then (none,(rDiv (a1,a2) ((newS n d).1,(newS n d).2.1)).2) else scaleS (rDiv (a1,a2) ((newS n d).1,(newS n d).2.1)).1 (0,1))))) ⟨#[z0,z1,z2,.pointer (some ⟨gr,0,none⟩),z4,z5,z6,z7,z8,.pointer (some ⟨ga,0,none⟩),z10,z11,z12,z13,z14,z15,z16,z17,z18,z19,z20,z21,z22,z23,z24,z25,z26,z27,z28,z29,z30,z31,z32,z33,z34,z35,z36,z37,z38,z39,z40,z41,z42,z43,z44,z45,z46,z47,z48,z49,z50,z51,z52,z53,z54,z55,z56,z57,z58,z59,z60,z61,z62],[]⟩ V:=by
 have M:=Lib.hid (fun u=>new_any n d u hn0 hn1 hd0 hd1)
 have hR:=new_R n d
 obtain ⟨⟨c1,c2,e1⟩,hX⟩:∃ X,(newS n d)=X:=⟨_,rfl⟩
 rw [hX] at M hR
 obtain ⟨R,hRR⟩:∃ R,(if (newS n d).2.2≠0 then (none,(newS n d).2.2) else (if (rDiv (a1,a2) ((newS n d).1,(newS n d).2.1)).2≠0 then (none,(rDiv (a1,a2) ((newS n d).1,(newS n d).2.1)).2) else scaleS (rDiv (a1,a2) ((newS n d).1,(newS n d).2.1)).1 (0,1)))=R:=⟨_,rfl⟩
 rw [hRR]
 rw [hX] at hRR
 dsimp only at M hRR hR
 have HRR:=Lib.hid hRR
 have HR:=Lib.hid hR
 clear hRR hR hX hn0 hn1 hd0 hd1
 obtain ⟨a0_,fa0,a1_,fa1,a2_,fa2⟩:=Hand.hc3 hr
 rw [ratE4]
 refine wp_seq_k (fun K4 hK4=>?_)
 have HK4:=Lib.hid hK4
 clear hK4
 conv=>arg 2;whnf
 go_wp2_with fail
 with_reducible refine (M.out _).mono ?_
 rintro e_ w1 ⟨rfl,hb1⟩
 have hB1:=Hand.stepB hb1 hB (Nat.le_refl _)
 have hs1:w.heap.size≤w1.heap.size:=Nat.le_trans hsz hb1.size
 have ha1:=Hand.kb hb1 ha
 clear hb1 hB a0_ fa0 a1_ fa1 a2_ fa2 hr ha
 go_wp2
 refine HK4.out _ _ ?_
 obtain ⟨W,hW⟩:∃ W_,W_=w1.alloc (.cells #[.int .i64 c1,.int .i64 c2] 31):=⟨_,rfl⟩
 rw [← hW]
 have gc:W.heap[w1.heap.size]?=some (.cells #[.int .i64 c1,.int .i64 c2] 31 (0,0)):=by rw [hW];exact Hand.q3 _ _ _ rfl
 have hBW:Below w.heap.size w W:=by rw [hW];exact hB1.alloc hs1 _
 have hsW:w.heap.size≤W.heap.size:=by rw [hW];simp only [World.size_alloc];omega
 have ha2:W.heap[ga]?=some (.cells #[.int .i64 a1,.int .i64 a2] 31 (0,0)):=by rw [hW];exact Hand.ka ha1
 clear hW hB1 ha1
 rw [ratE5]
 refine wp_seq_k (fun K5 hK5=>?_)
 have HK5:=Lib.hid hK5
 clear hK5
 conv=>arg 2;whnf
 by_cases he:e1=0
 ·have j1:(e1 != 0)=false:=by simpa using he
  have hQ:(if (rDiv (a1,a2) (c1,c2)).2≠0 then (none,(rDiv (a1,a2) (c1,c2)).2) else scaleS (rDiv (a1,a2) (c1,c2)).1 (0,1))=R:=by have:=HRR.out;rwa [if_neg (by simpa using he)] at this
  clear he
  go_wp2
  refine HK5.out _ _ ?_
  rw [← hQ]
  exact rat_6 w W a1 a2 c1 c2 ha2 gc ra HR.out hBW hsW
 ·have j1:(e1 != 0)=true:=by simpa using he
  go_wp2
  go_ret2
  rw [← HRR.out,if_pos he]
  exact ⟨_,rfl,rfl,hBW⟩
theorem rat_2 (w V:World) (n d m f:Int) {z0 z1 z4 z5 z6 z7 z8 z9 z10 z11 z12 z13 z14 z15 z16 z17 z18 z19 z20 z21 z22 z23 z24 z25 z26 z27 z28 z29 z30 z31 z32 z33 z34 z35 z36 z37 z38 z39 z40 z41 z42 z43 z44 z45 z46 z47 z48 z49 z50 z51 z52 z53 z54 z55 z56 z57 z58 z59 z60 z61 z62:Value} {gr gq:Nat} {b z:Bool} (hr:V.heap[gr]?=some (.cells #[.int .i64 n,.int .i64 d,.bool b] 50 (0,0))) (hq:V.heap[gq]?=some (.cells #[.int .i64 m,.int .i64 f,.bool z] 50 (0,0))) (hn0:-9223372036854775808≤n) (hn1:n≤9223372036854775807) (hd0:-9223372036854775808≤d) (hd1:d≤9223372036854775807) (hm0:-9223372036854775808≤m) (hm1:m≤9223372036854775807) (hf0:-9223372036854775808≤f) (hf1:f≤9223372036854775807) (hB:Below w.heap.size w V) (hsz:w.heap.size≤V.heap.size) :
  ratT2.wp Try.prog (bodyPost Try.prog Try.f28 (NewQ w (if (newS n d).2.2≠0 then (none,(newS n d).2.2) else (if (newS m f).2.2≠0 then (none,(newS m f).2.2) else (if (rDiv ((newS n d).1,(newS n d).2.1) ((newS m f).1,(newS m f).2.1)).2≠0 then (none,(rDiv ((newS n d).1,(newS n d).2.1) ((newS m f).1,(newS m f).2.1)).2) else scaleS (rDiv ((newS n d).1,(newS n d).2.1) ((newS m f).1,(newS m f).2.1)).1 (0,1)))))) ⟨#[z0,z1,.pointer (some ⟨gr,0,none⟩),.pointer (some ⟨gq,0,none⟩),z4,z5,z6,z7,z8,z9,z10,z11,z12,z13,z14,z15,z16,z17,z18,z19,z20,z21,z22,z23,z24,z25,z26,z27,z28,z29,z30,z31,z32,z33,z34,z35,z36,z37,z38,z39,z40,z41,z42,z43,z44,z45,z46,z47,z48,z49,z50,z51,z52,z53,z54,z55,z56,z57,z58,z59,z60,z61,z62],[]⟩ V:=by
 have M:=Lib.hid (fun u=>new_any n d u hn0 hn1 hd0 hd1)
 have hR:=new_R n d
 obtain ⟨⟨c1,c2,e1⟩,hX⟩:∃ X,(newS n d)=X:=⟨_,rfl⟩
 rw [hX] at M hR
 obtain ⟨R,hRR⟩:∃ R,(if (newS n d).2.2≠0 then (none,(newS n d).2.2) else (if (newS m f).2.2≠0 then (none,(newS m f).2.2) else (if (rDiv ((newS n d).1,(newS n d).2.1) ((newS m f).1,(newS m f).2.1)).2≠0 then (none,(rDiv ((newS n d).1,(newS n d).2.1) ((newS m f).1,(newS m f).2.1)).2) else scaleS (rDiv ((newS n d).1,(newS n d).2.1) ((newS m f).1,(newS m f).2.1)).1 (0,1))))=R:=⟨_,rfl⟩
 rw [hRR]
 rw [hX] at hRR
 dsimp only at M hRR hR
 have HRR:=Lib.hid hRR
 have HR:=Lib.hid hR
 clear hRR hR hX hn0 hn1 hd0 hd1
 obtain ⟨a0_,fa0,a1_,fa1,a2_,fa2⟩:=Hand.hc3 hr
 rw [ratE2]
 refine wp_seq_k (fun K2 hK2=>?_)
 have HK2:=Lib.hid hK2
 clear hK2
 conv=>arg 2;whnf
 go_wp2_with fail
 with_reducible refine (M.out _).mono ?_
 rintro e_ w1 ⟨rfl,hb1⟩
 have hB1:=Hand.stepB hb1 hB (Nat.le_refl _)
 have hs1:w.heap.size≤w1.heap.size:=Nat.le_trans hsz hb1.size
 have hq1:=Hand.kb hb1 hq
 clear hb1 hB a0_ fa0 a1_ fa1 a2_ fa2 hr hq
 go_wp2
 refine HK2.out _ _ ?_
 obtain ⟨W,hW⟩:∃ W_,W_=w1.alloc (.cells #[.int .i64 c1,.int .i64 c2] 31):=⟨_,rfl⟩
 rw [← hW]
 have gc:W.heap[w1.heap.size]?=some (.cells #[.int .i64 c1,.int .i64 c2] 31 (0,0)):=by rw [hW];exact Hand.q3 _ _ _ rfl
 have hBW:Below w.heap.size w W:=by rw [hW];exact hB1.alloc hs1 _
 have hsW:w.heap.size≤W.heap.size:=by rw [hW];simp only [World.size_alloc];omega
 have hq2:W.heap[gq]?=some (.cells #[.int .i64 m,.int .i64 f,.bool z] 50 (0,0)):=by rw [hW];exact Hand.ka hq1
 clear hW hB1 hq1
 rw [ratE3]
 refine wp_seq_k (fun K3 hK3=>?_)
 have HK3:=Lib.hid hK3
 clear hK3
 conv=>arg 2;whnf
 by_cases he:e1=0
 ·have j1:(e1 != 0)=false:=by simpa using he
  have hQ:(if (newS m f).2.2≠0 then (none,(newS m f).2.2) else (if (rDiv (c1,c2) ((newS m f).1,(newS m f).2.1)).2≠0 then (none,(rDiv (c1,c2) ((newS m f).1,(newS m f).2.1)).2) else scaleS (rDiv (c1,c2) ((newS m f).1,(newS m f).2.1)).1 (0,1)))=R:=by have:=HRR.out;rwa [if_neg (by simpa using he)] at this
  clear he
  go_wp2
  refine HK3.out _ _ ?_
  rw [← hQ]
  exact rat_4 w W m f c1 c2 hq2 gc HR.out hm0 hm1 hf0 hf1 hBW hsW
 ·have j1:(e1 != 0)=true:=by simpa using he
  go_wp2
  go_ret2
  rw [← HRR.out,if_pos he]
  exact ⟨_,rfl,rfl,hBW⟩
theorem rates_any (n d:Int) (b:Bool) (m f:Int) (z:Bool) (hn0:-9223372036854775808≤n) (hn1:n≤9223372036854775807) (hd0:-9223372036854775808≤d) (hd1:d≤9223372036854775807) (hm0:-9223372036854775808≤m) (hm1:m≤9223372036854775807) (hf0:-9223372036854775808≤f) (hf1:f≤9223372036854775807) (w:World) :
  Calls Try.prog 28 #[rate n d b,rate m f z] w (NewQ w (ratesS n d b m f z)):=by
 have MC1:=Lib.hid (fun u=>check_any n d b u)
 have MC2:=Lib.hid (fun u=>check_any m f z u)
 dsimp only [rate] at MC1 MC2
 obtain ⟨R,hRR⟩:∃ R,ratesS n d b m f z=R:=⟨_,rfl⟩
 rw [hRR]
 unfold ratesS at hRR
 obtain ⟨e1,h1⟩:∃ e,checkS n d b=e:=⟨_,rfl⟩
 obtain ⟨e2,h2⟩:∃ e,checkS m f z=e:=⟨_,rfl⟩
 rw [h1,h2] at hRR
 rw [h1] at MC1
 rw [h2] at MC2
 have HRR:=Lib.hid hRR
 clear hRR h1 h2
 have HN:=Lib.hid (And.intro (And.intro hn0 hn1) (And.intro (And.intro hd0 hd1) (And.intro (And.intro hm0 hm1) (And.intro hf0 hf1))))
 clear hn0 hn1 hd0 hd1 hm0 hm1 hf0 hf1
 go_enter Try.func28,Try.ntmps28
 refine wp_seq_k (fun K0 hK0=>?_)
 have HK0:=Lib.hid hK0
 clear hK0
 go_wp2_with fail
 refine HK0.out _ _ ?_
 show ratT1.wp _ _ _ _
 obtain ⟨V,hV⟩:∃ V_,V_=(w.alloc (.cells #[.int .i64 n,.int .i64 d,.bool b] 50)).alloc (.cells #[.int .i64 m,.int .i64 f,.bool z] 50):=⟨_,rfl⟩
 rw [← hV]
 have gr:V.heap[w.heap.size]?=some (.cells #[.int .i64 n,.int .i64 d,.bool b] 50 (0,0)):=by rw [hV];simp (disch:=try exact Hand.z) only [Hand.q4,Hand.q3]
 have gq:V.heap[w.heap.size+1]?=some (.cells #[.int .i64 m,.int .i64 f,.bool z] 50 (0,0)):=by rw [hV];simp (disch:=try exact Hand.z) only [Hand.q4,Hand.q3]
 have hBV:Below w.heap.size w V:=by rw [hV];exact ((Below.refl _ _).alloc (Nat.le_refl _) _).alloc (by simp only [World.size_alloc];omega) _
 have hsV:=hBV.size
 clear hV
 obtain ⟨r0,fr0,r1,fr1,r2,fr2⟩:=Hand.hc3 gr
 obtain ⟨q0,fq0,q1,fq1,q2,fq2⟩:=Hand.hc3 gq
 rw [ratE1]
 refine wp_seq_k (fun K1 hK1=>?_)
 have HK1:=Lib.hid hK1
 clear hK1
 conv=>arg 2;whnf
 go_wp2_with fail
 obtain ⟨U,hU⟩:∃ U_,U_=V.alloc (.cells #[.int .i64 n,.int .i64 d,.bool b,.int .i64 m,.int .i64 f,.bool z] 50):=⟨_,rfl⟩
 rw [← hU]
 have gs:U.heap[V.heap.size]?=some (.cells #[.int .i64 n,.int .i64 d,.bool b,.int .i64 m,.int .i64 f,.bool z] 50 (0,0)):=by rw [hU];exact Hand.q3 _ _ _ rfl
 have gr2:U.heap[w.heap.size]?=some (.cells #[.int .i64 n,.int .i64 d,.bool b] 50 (0,0)):=by rw [hU];exact Hand.ka gr
 have gq2:U.heap[w.heap.size+1]?=some (.cells #[.int .i64 m,.int .i64 f,.bool z] 50 (0,0)):=by rw [hU];exact Hand.ka gq
 have hBU:Below w.heap.size w U:=by rw [hU];exact hBV.alloc hsV _
 have zU:=(Hand.hz gs).1
 have zr:=(Hand.hz gr2).1
 have zq:=(Hand.hz gq2).1
 clear hU hBV gr gq r0 fr0 r1 fr1 r2 fr2 q0 fq0 q1 fq1 q2 fq2
 have hsU:=hBU.size
 have HCS:=Lib.hid (fun (u:World) (i:Nat) (v:Value) (h:Below U.heap.size U u) (e:(#[.int .i64 n,.int .i64 d,.bool b,.int .i64 m,.int .i64 f,.bool z]:Array Value)[i]?=some v)=>(Hand.cell_of (Hand.kb h gs) i v e:u.cell? ⟨V.heap.size,i,none⟩=some v))
 have HGR:=Lib.hid (And.intro gr2 gq2)
 have HBU:=Lib.hid hBU
 clear gs gr2 gq2 hBU
 go_loopw [17] (fun i wr=>∃ j:Nat,j≤2∧i = .int .i64 (j:Int)∧(0<j → e1=0)∧(1<j → e2=0)∧Below U.heap.size U wr) (fun i _=>2 - (intOf i).toNat)
 case atStart=>exact ⟨0,Nat.zero_le _,rfl,fun h=>absurd h (by omega),fun h=>absurd h (by omega),Below.refl _ _⟩
 case round =>
  obtain ⟨j,hj,rfl,he1,he2,hB⟩:=hrel
  have zz:=hB.size
  have HE:=Lib.hid (And.intro he1 he2)
  clear he1 he2
  rcases (show j=0 ∨ j=1 ∨ j=2 by omega) with hj0|hj1|hj2
  ·subst hj0
   have c0:=HCS.out wr 0 _ hB rfl
   have c1:=HCS.out wr 1 _ hB rfl
   have c2:=HCS.out wr 2 _ hB rfl
   go_wp2_with fail
   with_reducible refine (MC1.out _).mono ?_
   rintro e w3 ⟨rfl,hb3⟩
   have hB3:Below U.heap.size U w3:=Hand.stepB hb3 (hB.alloc zz _) (Nat.le_refl _)
   clear hb3 c0 c1 c2 hB
   by_cases he:e1=0
   ·have j1:(e1 != 0)=false:=by simpa using he
    have he_:=he
    have HEE:=Lib.hid he
    clear he he_
    go_wp2
    go_roundw
    case rel=>exact ⟨1,by omega,rfl,fun _=>HEE.out,fun h=>absurd h (by omega),hB3⟩
    case measure=>simp [intOf]
   ·have j1:(e1 != 0)=true:=by simpa using he
    go_wp2
    go_ret2
    rw [← HRR.out,if_pos he]
    exact ⟨_,rfl,rfl,Hand.stepB hB3 HBU.out (Nat.le_refl _)⟩
  ·subst hj1
   have c0:=HCS.out wr 3 _ hB rfl
   have c1:=HCS.out wr 4 _ hB rfl
   have c2:=HCS.out wr 5 _ hB rfl
   go_wp2_with fail
   with_reducible refine (MC2.out _).mono ?_
   rintro e w3 ⟨rfl,hb3⟩
   have hB3:Below U.heap.size U w3:=Hand.stepB hb3 (hB.alloc zz _) (Nat.le_refl _)
   clear hb3 c0 c1 c2 hB
   by_cases he:e2=0
   ·have j1:(e2 != 0)=false:=by simpa using he
    have he_:=he
    have HEE:=Lib.hid he
    clear he he_
    go_wp2
    go_roundw
    case rel=>exact ⟨2,by omega,rfl,fun _=>HE.out.1 (by omega),fun _=>HEE.out,hB3⟩
    case measure=>simp [intOf]
   ·have j1:(e2 != 0)=true:=by simpa using he
    go_wp2
    go_ret2
    rw [← HRR.out,if_neg (by rw [HE.out.1 (by omega)];decide),if_pos he]
    exact ⟨_,rfl,rfl,Hand.stepB hB3 HBU.out (Nat.le_refl _)⟩
  ·subst hj2
   have HB:=Lib.hid (Hand.stepB hB HBU.out (Nat.le_refl _))
   have g1:=Hand.kb hB HGR.out.1
   have g2:=Hand.kb hB HGR.out.2
   have HG:=Lib.hid (And.intro g1 g2)
   clear g1 g2 hB
   go_wp2_with fail
   refine HK1.out _ _ ?_
   rw [← HRR.out,if_neg (by rw [HE.out.1 (by omega)];decide),if_neg (by rw [HE.out.2 (by omega)];decide)]
   obtain ⟨⟨x0,x1⟩,⟨x2,x3⟩,⟨x4,x5⟩,x6,x7⟩:=HN.out
   exact rat_2 w wr n d m f HG.out.1 HG.out.2 x0 x1 x2 x3 x4 x5 x6 x7 HB.out (by omega)
end Go.Proofs.Ythlpaglldhgmfaa.PA
