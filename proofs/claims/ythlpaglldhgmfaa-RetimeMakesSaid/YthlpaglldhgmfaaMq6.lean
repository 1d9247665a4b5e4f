/- Chapter 6: Shift, Scale of the reference. -/
import Derived.Test.YthlpaglldhgmfaaMk6
import Derived.Test.YthlpaglldhgmfaaN7
import Derived.Deep.RegionHeld3
set_option maxHeartbeats 4000000
set_option maxRecDepth 100000
namespace Go.Proofs.Ythlpaglldhgmfaa.PA
open Go Go.RowKit Go.Proofs.YthlpaglldhgmfaaW.PrintWords Go.Proofs.YthlpaglldhgmfaaW.PrintLast Go.Proofs.YthlpaglldhgmfaaW.PrintMore
attribute [local go_sem high] eqA31 eqA35
set_option linter.unusedSimpArgs false
set_option linter.unusedVariables false
theorem noB_scl {a1 a2 b1 b2:Int}:noB (if (doS rAdd (rAdd (a1,a2) (1,1)).2 (a1,a2) (b1,b2)).2≠0 then (none,(doS rAdd (rAdd (a1,a2) (1,1)).2 (a1,a2) (b1,b2)).2) else newK [((a1,a2),(a1,a2)),((rAdd (a1,a2) (1,1)).1,(doS rAdd (rAdd (a1,a2) (1,1)).2 (a1,a2) (b1,b2)).1)])
  = if (rAdd (a1,a2) (1,1)).2≠0 then (none,(rAdd (a1,a2) (1,1)).2) else if (rAdd (a1,a2) (b1,b2)).2≠0 then (none,(rAdd (a1,a2) (b1,b2)).2) else noB (newK [((a1,a2),(a1,a2)),((rAdd (a1,a2) (1,1)).1,(rAdd (a1,a2) (b1,b2)).1)]):=by
 obtain ⟨⟨x,e⟩,hX⟩:∃ X,rAdd (a1,a2) (1,1)=X:=⟨_,rfl⟩
 obtain ⟨⟨y,f⟩,hY⟩:∃ X,rAdd (a1,a2) (b1,b2)=X:=⟨_,rfl⟩
 rw [hX,hY]
 dsimp only
 by_cases he:e=0
 ·subst he
  have h:doS rAdd 0 (a1,a2) (b1,b2)=(y,f):=by rw [doS_0,hY]
  rw [h]
  dsimp only
  rw [if_neg (show ¬ (0:Int)≠0 by simp)]
  by_cases hf:f=0
  ·subst hf
   rw [if_neg (show ¬ (0:Int)≠0 by simp),if_neg (show ¬ (0:Int)≠0 by simp)]
  ·rw [if_pos hf,if_pos hf]
   rfl
 ·have h:(doS rAdd e (a1,a2) (b1,b2)).2=e:=by unfold doS;rw [if_neg he]
  rw [h,if_pos he,if_pos he]
  rfl
theorem qshift_any (x y:Int) (hR:R64 (x,y)) (w:World) :
  Calls Try.prog 25 #[.agg #[.int .i64 x,.int .i64 y]] w (NewSQ w (noB (shiftS (x,y)))):=by
 have M0:=Lib.hid (fun u=>qnought_any u)
 try dsimp only [rv] at M0
 have MN:=Lib.hid (fun (u:World) (g c:Nat) (h:KnA u ⟨g,0,none⟩ [((0,1),(x,y))])=>(by exact qnew_any (some ⟨g,0,none⟩) [((0,1),(x,y))] c u (.inr ⟨_,rfl,h⟩) (fun k hk=>(by rw [List.mem_singleton.1 hk];exact ⟨R64_w 0 (by decide) (by decide),hR⟩)):Calls Try.prog 20 #[.slice (some ⟨g,0,none⟩) 1 c] u (NewSQ u (noB (newK [((0,1),(x,y))])))))
 clear hR
 go_enter Try.func25,Try.ntmps25
 go_wp2_with fail
 obtain ⟨V,hV⟩:∃ V_,V_=w.alloc (.cells #[.int .i64 x,.int .i64 y] 31):=⟨_,rfl⟩
 rw [← hV]
 have hBV:Below w.heap.size w V:=by rw [hV];exact (Below.refl _ _).alloc (Nat.le_refl _) _
 have gX:V.heap[w.heap.size]?=some (.cells #[.int .i64 x,.int .i64 y] 31 (0,0)):=by rw [hV];exact Hand.q3 _ _ _ rfl
 obtain ⟨c0,f0,c1,f1⟩:=Hand.hc2 gX
 have gz:=(Hand.hz gX).1
 have HC:=Lib.hid (fun (w_:World) (h:Below V.heap.size V w_)=>(⟨h,(h.cell Hand.d).trans c0,(h.cell Hand.d).trans c1⟩:Below V.heap.size V w_∧w_.cell? ⟨w.heap.size,0,none⟩=some (.int .i64 x)∧w_.cell? ⟨w.heap.size,1,none⟩=some (.int .i64 y)))
 have BR:Below V.heap.size V V:=Below.refl _ _
 have HBV:=Lib.hid hBV
 clear hV hBV gX c0 f0 c1 f1
 go_region_held3 (fun w_=>Below V.heap.size V w_∧w_.cell? ⟨w.heap.size,0,none⟩=some (.int .i64 x)∧w_.cell? ⟨w.heap.size,1,none⟩=some (.int .i64 y)) (first|(refine HC.out _ ?_;repeat (with_reducible first|assumption|apply Below.drew|refine Below.alloc ?_ Hand.z _))) (first|(go_at_call 57;((with_reducible refine (M0.out _).mono ?_);rintro e_ w4 ⟨rfl,hb4⟩;have BB:Below V.heap.size V w4:=Hand.stepB hb4 (by repeat (with_reducible first|assumption|apply Below.drew|refine Below.alloc ?_ Hand.z _)) (Nat.le_refl _);have zB4:=BB.size))|(go_at_call 20;((with_reducible refine (MN.out _ _ _ (kna_1 (by first|exact Hand.q3 _ _ _ rfl|(rw [Hand.q5];exact Hand.q3 _ _ _ rfl)))).mono ?_);rintro e_ w5 ⟨v,rfl,hnr,hb5⟩;have BB:Below V.heap.size V w5:=Hand.stepB hb5 (by repeat (with_reducible first|assumption|apply Below.drew|refine Below.alloc ?_ Hand.z _)) (Nat.le_refl _))))
 all_goals go_wp2
 all_goals go_ret2
 all_goals (have hsz:=HBV.out.size)
 all_goals (exact ⟨_,rfl,hnr,Hand.stepB BB HBV.out (Nat.le_refl _)⟩)
noncomputable def qslT1:Code:=sndC (Try.f27.body.getD .skip)
noncomputable def qslT2:Code:=sndC qslT1
noncomputable def qslT3:Code:=sndC qslT2
noncomputable def qslT4:Code:=sndC qslT3
noncomputable def qslT5:Code:=sndC qslT4
noncomputable def qslT6:Code:=sndC qslT5
noncomputable def qslT7:Code:=sndC qslT6
theorem qslE1:qslT1 = .seq (fstC qslT1) qslT2:=by kernel_rfl
theorem qslE2:qslT2 = .seq (fstC qslT2) qslT3:=by kernel_rfl
theorem qslE3:qslT3 = .seq (fstC qslT3) qslT4:=by kernel_rfl
theorem qslE4:qslT4 = .seq (fstC qslT4) qslT5:=by kernel_rfl
theorem qslE5:qslT5 = .seq (fstC qslT5) qslT6:=by kernel_rfl
theorem qslE6:qslT6 = .seq (fstC qslT6) qslT7:=by kernel_rfl
theorem qsl_7 (w V:World) (a1 a2 x1 x2 y1 y2:Int) {z0 z1 z4 z5 z7 z9 z10 z11 z12 z13 z14 z15 z16 z17 z18 z19 z20 z21 z22 z23 z24 z25 z26 z27 z28 z29 z30 z31 z32 z33 z34 z35 z36 z37 z38 z39 z40 z41 z42 z43 z44 z45 z46 z47:Value} {ib ia gx gy:Nat} (ga:V.heap[ia]?=some (.cells #[.int .i64 a1,.int .i64 a2] 31 (0,0))) (hx:V.heap[gx]?=some (.cells #[.int .i64 x1,.int .i64 x2] 31 (0,0))) (hy:V.heap[gy]?=some (.cells #[.int .i64 y1,.int .i64 y2] 31 (0,0))) (ra:R64 (a1,a2)) (rx:R64 (x1,x2)) (ry:R64 (y1,y2)) (hB:Below w.heap.size w V) :
  qslT7.wp Try.prog (bodyPost Try.prog Try.f27 (NewSQ w (noB (newK [((a1,a2),(a1,a2)),((x1,x2),(y1,y2))])))) ⟨#[z0,z1,.pointer (some ⟨ib,0,none⟩),.pointer (some ⟨ia,0,none⟩),z4,z5,.pointer (some ⟨gx,0,none⟩),z7,.pointer (some ⟨gy,0,none⟩),z9,z10,z11,z12,z13,z14,z15,z16,z17,z18,z19,z20,z21,z22,z23,z24,z25,z26,z27,z28,z29,z30,z31,z32,z33,z34,z35,z36,z37,z38,z39,z40,z41,z42,z43,z44,z45,z46,z47],[]⟩ V:=by
 obtain ⟨c0,f0,c1,f1⟩:=Hand.hc2 ga
 obtain ⟨x0_,fx0,x1_,fx1⟩:=Hand.hc2 hx
 obtain ⟨y0_,fy0,y1_,fy1⟩:=Hand.hc2 hy
 have za:=(Hand.hz ga).1
 have zx:=(Hand.hz hx).1
 have zy:=(Hand.hz hy).1
 have HB:=Lib.hid hB
 have hsz:=hB.size
 have MN:=Lib.hid (fun (u:World) (g c:Nat) (h:KnA u ⟨g,0,none⟩ [((a1,a2),(a1,a2)),((x1,x2),(y1,y2))])=>(by exact qnew_any (some ⟨g,0,none⟩) [((a1,a2),(a1,a2)),((x1,x2),(y1,y2))] c u (.inr ⟨_,rfl,h⟩) (fun k hk=>(by rcases List.mem_cons.1 hk with rfl|hk;exact ⟨ra,ra⟩;rw [List.mem_singleton.1 hk];exact ⟨rx,ry⟩)):Calls Try.prog 20 #[.slice (some ⟨g,0,none⟩) 2 c] u (NewSQ u (noB (newK [((a1,a2),(a1,a2)),((x1,x2),(y1,y2))])))))
 clear hB rx ry ra ga hx hy
 conv=>arg 2;whnf
 go_wp2_with fail
 with_reducible refine (MN.out _ _ _ (kna_2 (Hand.q3 _ _ _ rfl))).mono ?_
 rintro e_ w5 ⟨v,rfl,hnr,hb5⟩
 go_wp2
 go_ret2
 exact ⟨_,rfl,hnr,Hand.stepB hb5 (HB.out.alloc hsz _) (Nat.le_refl _)⟩
theorem qsl_5 (w V:World) (b1 b2 a1 a2 x1 x2:Int) {z0 z1 z4 z5 z7 z8 z9 z10 z11 z12 z13 z14 z15 z16 z17 z18 z19 z20 z21 z22 z23 z24 z25 z26 z27 z28 z29 z30 z31 z32 z33 z34 z35 z36 z37 z38 z39 z40 z41 z42 z43 z44 z45 z46 z47:Value} {ib ia gx:Nat} (gb:V.heap[ib]?=some (.cells #[.int .i64 b1,.int .i64 b2] 31 (0,0))) (ga:V.heap[ia]?=some (.cells #[.int .i64 a1,.int .i64 a2] 31 (0,0))) (hx:V.heap[gx]?=some (.cells #[.int .i64 x1,.int .i64 x2] 31 (0,0))) (ra:R64 (a1,a2)) (rx:R64 (x1,x2)) (hB:Below w.heap.size w V) :
  qslT5.wp Try.prog (bodyPost Try.prog Try.f27 (NewSQ w (if (rAdd (a1,a2) (b1,b2)).2≠0 then (none,(rAdd (a1,a2) (b1,b2)).2) else noB (newK [((a1,a2),(a1,a2)),((x1,x2),(rAdd (a1,a2) (b1,b2)).1)])))) ⟨#[z0,z1,.pointer (some ⟨ib,0,none⟩),.pointer (some ⟨ia,0,none⟩),z4,z5,.pointer (some ⟨gx,0,none⟩),z7,z8,z9,z10,z11,z12,z13,z14,z15,z16,z17,z18,z19,z20,z21,z22,z23,z24,z25,z26,z27,z28,z29,z30,z31,z32,z33,z34,z35,z36,z37,z38,z39,z40,z41,z42,z43,z44,z45,z46,z47],[]⟩ V:=by
 have M:=Lib.hid (fun u=>qadd_any (a1,a2) (b1,b2) u)
 have hR:=add_R (a1,a2) (b1,b2)
 obtain ⟨⟨⟨y1,y2⟩,e1⟩,hX⟩:∃ X,(rAdd (a1,a2) (b1,b2))=X:=⟨_,rfl⟩
 rw [hX] at M hR
 obtain ⟨R,hRR⟩:∃ R,(if (rAdd (a1,a2) (b1,b2)).2≠0 then (none,(rAdd (a1,a2) (b1,b2)).2) else noB (newK [((a1,a2),(a1,a2)),((x1,x2),(rAdd (a1,a2) (b1,b2)).1)]))=R:=⟨_,rfl⟩
 rw [hRR]
 rw [hX] at hRR
 dsimp only [rv] at M hRR
 have HRR:=Lib.hid hRR
 have HR:=Lib.hid hR
 clear hRR hR hX
 obtain ⟨a0_,fa0,a1_,fa1⟩:=Hand.hc2 ga
 obtain ⟨b0_,fb0,b1_,fb1⟩:=Hand.hc2 gb
 rw [qslE5]
 refine wp_seq_k (fun K5 hK5=>?_)
 have HK5:=Lib.hid hK5
 clear hK5
 conv=>arg 2;whnf
 go_wp2_with fail
 with_reducible refine (M.out _).mono ?_
 rintro e_ w1 ⟨rfl,hb1⟩
 have hsz:=hB.size
 have hB1:=Hand.stepB hb1 hB (Nat.le_refl _)
 have hs1:=hB1.size
 have ga1:=Hand.kb hb1 ga
 have hx1:=Hand.kb hb1 hx
 clear hb1 hB a0_ fa0 a1_ fa1 b0_ fb0 b1_ fb1 ga gb hx
 go_wp2
 refine HK5.out _ _ ?_
 obtain ⟨W,hW⟩:∃ W_,W_=w1.alloc (.cells #[.int .i64 y1,.int .i64 y2] 31):=⟨_,rfl⟩
 rw [← hW]
 have gy:W.heap[w1.heap.size]?=some (.cells #[.int .i64 y1,.int .i64 y2] 31 (0,0)):=by rw [hW];exact Hand.q3 _ _ _ rfl
 have ga2:W.heap[ia]?=some (.cells #[.int .i64 a1,.int .i64 a2] 31 (0,0)):=by rw [hW];exact Hand.ka ga1
 have hx2:W.heap[gx]?=some (.cells #[.int .i64 x1,.int .i64 x2] 31 (0,0)):=by rw [hW];exact Hand.ka hx1
 have hBW:Below w.heap.size w W:=by rw [hW];exact hB1.alloc hs1 _
 clear hW hB1 ga1 hx1
 rw [qslE6]
 refine wp_seq_k (fun K6 hK6=>?_)
 have HK6:=Lib.hid hK6
 clear hK6
 conv=>arg 2;whnf
 by_cases he:e1=0
 ·have j1:(e1 != 0)=false:=by simpa using he
  have hQ:noB (newK [((a1,a2),(a1,a2)),((x1,x2),(y1,y2))])=R:=by have:=HRR.out;rwa [if_neg (by simpa using he)] at this
  clear he
  go_wp2
  refine HK6.out _ _ ?_
  rw [← hQ]
  exact qsl_7 w W a1 a2 x1 x2 y1 y2 ga2 hx2 gy ra rx HR.out hBW
 ·have j1:(e1 != 0)=true:=by simpa using he
  go_wp2
  go_ret2
  rw [← HRR.out,if_pos he]
  exact ⟨_,rfl,rfl,hBW⟩
theorem qsl_3 (w V:World) (b1 b2 a1 a2:Int) {z0 z1 z4 z5 z6 z7 z8 z9 z10 z11 z12 z13 z14 z15 z16 z17 z18 z19 z20 z21 z22 z23 z24 z25 z26 z27 z28 z29 z30 z31 z32 z33 z34 z35 z36 z37 z38 z39 z40 z41 z42 z43 z44 z45 z46 z47:Value} {ib ia:Nat} (gb:V.heap[ib]?=some (.cells #[.int .i64 b1,.int .i64 b2] 31 (0,0))) (ga:V.heap[ia]?=some (.cells #[.int .i64 a1,.int .i64 a2] 31 (0,0))) (ra:R64 (a1,a2)) (hB:Below w.heap.size w V) :
  qslT3.wp Try.prog (bodyPost Try.prog Try.f27 (NewSQ w (if (rAdd (a1,a2) (1,1)).2≠0 then (none,(rAdd (a1,a2) (1,1)).2) else (if (rAdd (a1,a2) (b1,b2)).2≠0 then (none,(rAdd (a1,a2) (b1,b2)).2) else noB (newK [((a1,a2),(a1,a2)),((rAdd (a1,a2) (1,1)).1,(rAdd (a1,a2) (b1,b2)).1)]))))) ⟨#[z0,z1,.pointer (some ⟨ib,0,none⟩),.pointer (some ⟨ia,0,none⟩),z4,z5,z6,z7,z8,z9,z10,z11,z12,z13,z14,z15,z16,z17,z18,z19,z20,z21,z22,z23,z24,z25,z26,z27,z28,z29,z30,z31,z32,z33,z34,z35,z36,z37,z38,z39,z40,z41,z42,z43,z44,z45,z46,z47],[]⟩ V:=by
 have M0:=Lib.hid (fun u=>qone_any u)
 have M1:=Lib.hid (fun u=>qadd_any (a1,a2) (1,1) u)
 have hR:=add_R (a1,a2) (1,1)
 obtain ⟨⟨⟨x1,x2⟩,e1⟩,hX⟩:∃ X,(rAdd (a1,a2) (1,1))=X:=⟨_,rfl⟩
 rw [hX] at M1 hR
 obtain ⟨R,hRR⟩:∃ R,(if (rAdd (a1,a2) (1,1)).2≠0 then (none,(rAdd (a1,a2) (1,1)).2) else (if (rAdd (a1,a2) (b1,b2)).2≠0 then (none,(rAdd (a1,a2) (b1,b2)).2) else noB (newK [((a1,a2),(a1,a2)),((rAdd (a1,a2) (1,1)).1,(rAdd (a1,a2) (b1,b2)).1)])))=R:=⟨_,rfl⟩
 rw [hRR]
 rw [hX] at hRR
 dsimp only [rv] at M1 hRR hR
 have HRR:=Lib.hid hRR
 have HR:=Lib.hid hR
 have HRA:=Lib.hid ra
 clear hRR hR hX ra
 obtain ⟨c0,f0,c1,f1⟩:=Hand.hc2 ga
 have gz:=(Hand.hz ga).1
 have HC:=Lib.hid (fun (w_:World) (h:Below V.heap.size V w_)=>(⟨h,(h.cell Hand.d).trans c0,(h.cell Hand.d).trans c1⟩:Below V.heap.size V w_∧w_.cell? ⟨ia,0,none⟩=some (.int .i64 a1)∧w_.cell? ⟨ia,1,none⟩=some (.int .i64 a2)))
 have BR:Below V.heap.size V V:=Below.refl _ _
 have HB:=Lib.hid hB
 have HG:=Lib.hid (And.intro gb ga)
 clear hB gb ga c0 f0 c1 f1
 rw [qslE3]
 refine wp_seq_k (fun K3 hK3=>?_)
 have HK3:=Lib.hid hK3
 clear hK3
 conv=>arg 2;whnf
 go_wp2_with fail
 go_region_held3 (fun w_=>Below V.heap.size V w_∧w_.cell? ⟨ia,0,none⟩=some (.int .i64 a1)∧w_.cell? ⟨ia,1,none⟩=some (.int .i64 a2)) (first|(refine HC.out _ ?_;repeat (with_reducible first|assumption|apply Below.drew|refine Below.setCell ?_ Hand.d _|refine Below.alloc ?_ Hand.z _))) (first|(go_at_call 55;((with_reducible refine (M0.out _).mono ?_);rintro e_ w4 ⟨rfl,hb_w4⟩;have BB:Below V.heap.size V w4:=Hand.stepB hb_w4 Hand.b (Nat.le_refl _);have zB_w4:=BB.size;(try (have nx:=Hand.kb (i:=V.heap.size) (x:=.cells #[.int .i64 0,.int .i64 0] 31 (0,0)) hb_w4 Hand.q;obtain ⟨nc0,nf0,nc1,nf1⟩:=Hand.hc2 nx;obtain ⟨nz0,nz1,nz2,ny0,ny1⟩:=Hand.hz nx))))|(go_at_call 60;((with_reducible refine (M1.out _).mono ?_);rintro e_ w5 ⟨rfl,hb_w5⟩;have BB:Below V.heap.size V w5:=Hand.stepB hb_w5 Hand.b (Nat.le_refl _);have zB_w5:=BB.size;(try (have nx:=Hand.kb (i:=V.heap.size) (x:=.cells #[.int .i64 0,.int .i64 0] 31 (0,0)) hb_w5 Hand.q;obtain ⟨nc0,nf0,nc1,nf1⟩:=Hand.hc2 nx;obtain ⟨nz0,nz1,nz2,ny0,ny1⟩:=Hand.hz nx));(try (have nx:=Hand.kb (i:=w4.heap.size) (x:=.cells #[.int .i64 0,.int .i64 0] 31 (0,0)) hb_w5 Hand.q;obtain ⟨nc0,nf0,nc1,nf1⟩:=Hand.hc2 nx;obtain ⟨nz0,nz1,nz2,ny0,ny1⟩:=Hand.hz nx)))))
 ·have zvk:V.heap.size≤w5.heap.size:=by omega
  obtain ⟨W,hW⟩:∃ V_,V_=w5.alloc (.cells #[.int .i64 x1,.int .i64 x2] 31):=⟨_,rfl⟩
  rw [← hW]
  have gx:W.heap[w5.heap.size]?=some (.cells #[.int .i64 x1,.int .i64 x2] 31 (0,0)):=by rw [hW];exact Hand.q3 _ _ _ rfl
  have hBV:Below V.heap.size V W:=by rw [hW];repeat (with_reducible first|exact BB|refine Below.setCell ?_ zvk _|refine Below.alloc ?_ zvk _)
  have gb:=Hand.kb hBV HG.out.1
  have ga:=Hand.kb hBV HG.out.2
  have hBW:=Hand.stepB hBV HB.out (Nat.le_refl _)
  clear hW hBV BB
  refine HK3.out _ _ ?_
  rw [qslE4]
  refine wp_seq_k (fun K4 hK4=>?_)
  have HK4:=Lib.hid hK4
  clear hK4
  conv=>arg 2;whnf
  by_cases he:e1=0
  ·have j1:(e1 != 0)=false:=by simpa using he
   have hQ:(if (rAdd (a1,a2) (b1,b2)).2≠0 then (none,(rAdd (a1,a2) (b1,b2)).2) else noB (newK [((a1,a2),(a1,a2)),((x1,x2),(rAdd (a1,a2) (b1,b2)).1)]))=R:=by have:=HRR.out;rwa [if_neg (by simpa using he)] at this
   clear he
   go_wp2
   refine HK4.out _ _ ?_
   rw [← hQ]
   exact qsl_5 w W b1 b2 a1 a2 x1 x2 gb ga gx HRA.out HR.out hBW
  ·have j1:(e1 != 0)=true:=by simpa using he
   go_wp2
   go_ret2
   rw [← HRR.out,if_pos he]
   exact ⟨_,rfl,rfl,hBW⟩
 ·have zvk:V.heap.size≤w4.heap.size:=by omega
  obtain ⟨W,hW⟩:∃ V_,V_=(w5.setCell ⟨w4.heap.size,0,none⟩ (.int .i64 x1)).setCell ⟨w4.heap.size,1,none⟩ (.int .i64 x2):=⟨_,rfl⟩
  rw [← hW]
  have gx:W.heap[w4.heap.size]?=some (.cells #[.int .i64 x1,.int .i64 x2] 31 (0,0)):=by rw [hW];simp (disch:=try exact Hand.z) only [Hand.q1,nx];rfl
  have hBV:Below V.heap.size V W:=by rw [hW];repeat (with_reducible first|exact BB|refine Below.setCell ?_ zvk _|refine Below.alloc ?_ zvk _)
  have gb:=Hand.kb hBV HG.out.1
  have ga:=Hand.kb hBV HG.out.2
  have hBW:=Hand.stepB hBV HB.out (Nat.le_refl _)
  clear hW hBV BB
  refine HK3.out _ _ ?_
  rw [qslE4]
  refine wp_seq_k (fun K4 hK4=>?_)
  have HK4:=Lib.hid hK4
  clear hK4
  conv=>arg 2;whnf
  by_cases he:e1=0
  ·have j1:(e1 != 0)=false:=by simpa using he
   have hQ:(if (rAdd (a1,a2) (b1,b2)).2≠0 then (none,(rAdd (a1,a2) (b1,b2)).2) else noB (newK [((a1,a2),(a1,a2)),((x1,x2),(rAdd (a1,a2) (b1,b2)).1)]))=R:=by have:=HRR.out;rwa [if_neg (by simpa using he)] at this
   clear he
   go_wp2
   refine HK4.out _ _ ?_
   rw [← hQ]
   exact qsl_5 w W b1 b2 a1 a2 x1 x2 gb ga gx HRA.out HR.out hBW
  ·have j1:(e1 != 0)=true:=by simpa using he
   go_wp2
   go_ret2
   rw [← HRR.out,if_pos he]
   exact ⟨_,rfl,rfl,hBW⟩
 ·have zvk:V.heap.size≤V.heap.size:=by omega
  obtain ⟨W,hW⟩:∃ V_,V_=(w5.setCell ⟨V.heap.size,0,none⟩ (.int .i64 x1)).setCell ⟨V.heap.size,1,none⟩ (.int .i64 x2):=⟨_,rfl⟩
  rw [← hW]
  have gx:W.heap[V.heap.size]?=some (.cells #[.int .i64 x1,.int .i64 x2] 31 (0,0)):=by rw [hW];simp (disch:=try exact Hand.z) only [Hand.q1,nx];rfl
  have hBV:Below V.heap.size V W:=by rw [hW];repeat (with_reducible first|exact BB|refine Below.setCell ?_ zvk _|refine Below.alloc ?_ zvk _)
  have gb:=Hand.kb hBV HG.out.1
  have ga:=Hand.kb hBV HG.out.2
  have hBW:=Hand.stepB hBV HB.out (Nat.le_refl _)
  clear hW hBV BB
  refine HK3.out _ _ ?_
  rw [qslE4]
  refine wp_seq_k (fun K4 hK4=>?_)
  have HK4:=Lib.hid hK4
  clear hK4
  conv=>arg 2;whnf
  by_cases he:e1=0
  ·have j1:(e1 != 0)=false:=by simpa using he
   have hQ:(if (rAdd (a1,a2) (b1,b2)).2≠0 then (none,(rAdd (a1,a2) (b1,b2)).2) else noB (newK [((a1,a2),(a1,a2)),((x1,x2),(rAdd (a1,a2) (b1,b2)).1)]))=R:=by have:=HRR.out;rwa [if_neg (by simpa using he)] at this
   clear he
   go_wp2
   refine HK4.out _ _ ?_
   rw [← hQ]
   exact qsl_5 w W b1 b2 a1 a2 x1 x2 gb ga gx HRA.out HR.out hBW
  ·have j1:(e1 != 0)=true:=by simpa using he
   go_wp2
   go_ret2
   rw [← HRR.out,if_pos he]
   exact ⟨_,rfl,rfl,hBW⟩
theorem qscale_any (b1 b2 a1 a2:Int) (rb:R64 (b1,b2)) (ra:R64 (a1,a2)) (w:World) :
  Calls Try.prog 27 #[.agg #[.int .i64 b1,.int .i64 b2],.agg #[.int .i64 a1,.int .i64 a2]] w (NewSQ w (noB (scaleS (b1,b2) (a1,a2)))):=by
 have HRA:=Lib.hid ra
 have M1:=Lib.hid (fun u=>qright_any (b1,b2) u)
 have M2:=Lib.hid (fun u=>qright_any (a1,a2) u)
 dsimp only [rv] at M1 M2
 obtain ⟨R,hRR⟩:∃ R,noB (scaleS (b1,b2) (a1,a2))=R:=⟨_,rfl⟩
 rw [hRR]
 unfold scaleS at hRR
 obtain ⟨p,hp⟩:∃ p,rRight (b1,b2)=p:=⟨_,rfl⟩
 obtain ⟨r,hr⟩:∃ p,rRight (a1,a2)=p:=⟨_,rfl⟩
 rw [hp,hr] at hRR
 have HRR:=Lib.hid hRR
 clear hRR
 rw [hp] at M1
 rw [hr] at M2
 clear hp hr ra rb
 go_enter Try.func27,Try.ntmps27
 refine wp_seq_k (fun K0 hK0=>?_)
 have HK0:=Lib.hid hK0
 clear hK0
 go_wp2_with fail
 refine HK0.out _ _ ?_
 show qslT1.wp _ _ _ _
 obtain ⟨V,hV⟩:∃ V_,V_=(w.alloc (.cells #[.int .i64 b1,.int .i64 b2] 31)).alloc (.cells #[.int .i64 a1,.int .i64 a2] 31):=⟨_,rfl⟩
 rw [← hV]
 have gb:V.heap[w.heap.size]?=some (.cells #[.int .i64 b1,.int .i64 b2] 31 (0,0)):=by rw [hV];simp (disch:=try exact Hand.z) only [Hand.q4,Hand.q3]
 have ga:V.heap[w.heap.size+1]?=some (.cells #[.int .i64 a1,.int .i64 a2] 31 (0,0)):=by rw [hV];simp (disch:=try exact Hand.z) only [Hand.q4,Hand.q3]
 have hBV:Below w.heap.size w V:=by rw [hV];exact ((Below.refl _ _).alloc (Nat.le_refl _) _).alloc (by simp only [World.size_alloc];omega) _
 clear hV
 obtain ⟨b0_,fb0,b1_,fb1⟩:=Hand.hc2 gb
 rw [qslE1]
 refine wp_seq_k (fun K1 hK1=>?_)
 have HK1:=Lib.hid hK1
 clear hK1
 conv=>arg 2;whnf
 go_wp2_with fail
 with_reducible refine (M1.out _).mono ?_
 rintro e_ w1 ⟨rfl,hb1⟩
 have gb1:=Hand.kb hb1 gb
 have ga1:=Hand.kb hb1 ga
 have hB1:=Hand.stepB hb1 hBV (Nat.le_refl _)
 clear hb1 hBV gb ga b0_ fb0 b1_ fb1
 obtain ⟨a0_,fa0,a1_,fa1⟩:=Hand.hc2 ga1
 cases p
 ·go_wp2
  go_ret2
  rw [← HRR.out,if_pos (by simp)]
  exact ⟨_,rfl,rfl,hB1⟩
 ·go_wp2_with fail
  with_reducible refine (M2.out _).mono ?_
  rintro e_ w2 ⟨rfl,hb2⟩
  have gb2:=Hand.kb hb2 gb1
  have ga2:=Hand.kb hb2 ga1
  have hB2:=Hand.stepB hb2 hB1 (Nat.le_refl _)
  clear hb2 hB1 gb1 ga1 a0_ fa0 a1_ fa1
  obtain ⟨b0_,fb0,b1_,fb1⟩:=Hand.hc2 gb2
  have zb:=(Hand.hz gb2).1
  have za:=(Hand.hz ga2).1
  cases r
  ·go_wp2
   go_ret2
   rw [← HRR.out,if_pos (by simp)]
   exact ⟨_,rfl,rfl,hB2⟩
  ·go_wp2
   refine HK1.out _ _ ?_
   rw [qslE2]
   refine wp_seq_k (fun K2 hK2=>?_)
   have HK2:=Lib.hid hK2
   clear hK2
   conv=>arg 2;whnf
   by_cases hn:b1≤0
   ·have j1:decide (b1≤0)=true:=decide_eq_true hn
    go_wp2
    go_ret2
    rw [← HRR.out,if_neg (by simp),if_pos hn]
    exact ⟨_,rfl,rfl,hB2⟩
   ·have j1:decide (b1≤0)=false:=decide_eq_false hn
    have HNN:=Lib.hid hn
    clear hn
    go_wp2
    refine HK2.out _ _ ?_
    have hQ:=HRR.out
    rw [if_neg (by simp),if_neg (by have:=HNN.out;omega),noB_scl] at hQ
    rw [← hQ]
    exact qsl_3 w _ b1 b2 a1 a2 gb2 ga2 HRA.out hB2
end Go.Proofs.Ythlpaglldhgmfaa.PA
