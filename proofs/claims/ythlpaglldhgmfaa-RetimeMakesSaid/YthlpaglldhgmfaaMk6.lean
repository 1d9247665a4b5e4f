/- Chapter 6: Shift, Scale, Rates. -/
import Derived.Test.YthlpaglldhgmfaaCk6
import Derived.Test.YthlpaglldhgmfaaMB
import Derived.Test.YthlpaglldhgmfaaM6
import Derived.Deep.RegionHeld3
set_option maxHeartbeats 4000000
set_option maxRecDepth 100000
namespace Go.Proofs.Ythlpaglldhgmfaa.PA
open Go Go.RowKit Go.Proofs.YthlpaglldhgmfaaW.PrintWords Go.Proofs.YthlpaglldhgmfaaW.PrintLast Go.Proofs.YthlpaglldhgmfaaW.PrintMore
attribute [local go_sem high] eqA31 eqA35
set_option linter.unusedSimpArgs false
set_option linter.unusedVariables false
def scaleS (by_ about:Rt):Option MapV × Int :=
 if rRight by_=false ∨ rRight about=false then (none,12) else if by_.1≤0 then (none,32) else
 if (doS rAdd (rAdd about (1,1)).2 about by_).2≠0 then (none,(doS rAdd (rAdd about (1,1)).2 about by_).2) else newK [(about,about),((rAdd about (1,1)).1,(doS rAdd (rAdd about (1,1)).2 about by_).1)]
def shiftS (by_:Rt):Option MapV × Int:=newK [((0,1),by_)]
theorem kna_1 {w:World} {g:Nat} {a b c d:Int} (h:w.heap[g]?=some (.cells #[.int .i64 a,.int .i64 b,.int .i64 c,.int .i64 d] 35 (0,0))):KnA w ⟨g,0,none⟩ [((a,b),(c,d))]:=by
 obtain ⟨c0,_,c1,_,c2,_,c3,_⟩:=Hand.hc4 h
 intro j hj
 rw [add0]
 match j,hj with
 | 0,_=>exact ⟨c0,c1,c2,c3⟩
theorem kna_2 {w:World} {g:Nat} {a b c d e f i k:Int} (h:w.heap[g]?=some (.cells #[.int .i64 a,.int .i64 b,.int .i64 c,.int .i64 d,.int .i64 e,.int .i64 f,.int .i64 i,.int .i64 k] 35 (0,0))):KnA w ⟨g,0,none⟩ [((a,b),(c,d)),((e,f),(i,k))]:=by
 have c:∀ n v,(#[.int .i64 a,.int .i64 b,.int .i64 c,.int .i64 d,.int .i64 e,.int .i64 f,.int .i64 i,.int .i64 k]:Array Value)[n]?=some v → w.cell? ⟨g,n,none⟩=some v:=fun n v e=>Hand.cell_of h n v e
 intro j hj
 rw [add0]
 match j,hj with
 | 0,_=>exact ⟨c _ _ rfl,c _ _ rfl,c _ _ rfl,c _ _ rfl⟩
 | 1,_=>exact ⟨c _ _ rfl,c _ _ rfl,c _ _ rfl,c _ _ rfl⟩
theorem shift_any (x y:Int) (hR:R64 (x,y)) (w:World) :
  Calls Try.prog 24 #[.agg #[.int .i64 x,.int .i64 y]] w (NewQ w (shiftS (x,y))):=by
 have M0:=Lib.hid (fun u=>whole_any 0 u)
 try dsimp only [rv] at M0
 have MN:=Lib.hid (fun (u:World) (g c:Nat) (h:KnA u ⟨g,0,none⟩ [((0,1),(x,y))])=>(by exact newm_any u [((0,1),(x,y))] (some ⟨g,0,none⟩) c (.inr ⟨_,rfl,h⟩) (fun k hk=>(by rw [List.mem_singleton.1 hk];exact ⟨R64_w 0 (by decide) (by decide),hR⟩)):Calls Try.prog 13 #[.slice (some ⟨g,0,none⟩) 1 c] u (NewQ u (newK [((0,1),(x,y))]))))
 clear hR
 go_enter Try.func24,Try.ntmps24
 go_wp2_with fail
 obtain ⟨V,hV⟩:∃ V_,V_=w.alloc (.cells #[.int .i64 x,.int .i64 y] 31):=⟨_,rfl⟩
 rw [← hV]
 have hBV:Below w.heap.size w V:=by rw [hV];exact (Below.refl _ _).alloc (Nat.le_refl _) _
 have gX:V.heap[w.heap.size]?=some (.cells #[.int .i64 x,.int .i64 y] 31 (0,0)):=by rw [hV];exact Hand.q3 _ _ _ rfl
 obtain ⟨c0,f0,c1,f1⟩:=Hand.hc2 gX
 have gz:=(Hand.hz gX).1
 have HC:=Lib.hid (fun (w_:World) (h:Below V.heap.size V w_)=>(⟨h,(h.cell Hand.d).trans c0,(h.cell Hand.d).trans c1⟩:Below V.heap.size V w_∧w_.cell? ⟨w.heap.size,0,none⟩=some (.int .i64 x)∧w_.cell? ⟨w.heap.size,1,none⟩=some (.int .i64 y)))
 have BR:Below V.heap.size V V:=Below.refl _ _
 have HBV:=Lib.hid hBV
 clear hV hBV gX c0 f0 c1 f1
 go_region_held3 (fun w_=>Below V.heap.size V w_∧w_.cell? ⟨w.heap.size,0,none⟩=some (.int .i64 x)∧w_.cell? ⟨w.heap.size,1,none⟩=some (.int .i64 y)) (first|(refine HC.out _ ?_;repeat (with_reducible first|assumption|apply Below.drew|refine Below.alloc ?_ Hand.z _))) (first|(go_at_call 41;((with_reducible refine (M0.out _).mono ?_);rintro e_ w4 ⟨rfl,hb4⟩;have BB:Below V.heap.size V w4:=Hand.stepB hb4 (by repeat (with_reducible first|assumption|apply Below.drew|refine Below.alloc ?_ Hand.z _)) (Nat.le_refl _);have zB4:=BB.size))|(go_at_call 13;((with_reducible refine (MN.out _ _ _ (kna_1 (by first|exact Hand.q3 _ _ _ rfl|(rw [Hand.q5];exact Hand.q3 _ _ _ rfl)))).mono ?_);rintro e_ w5 ⟨v,rfl,hnr,hb5⟩;have BB:Below V.heap.size V w5:=Hand.stepB hb5 (by repeat (with_reducible first|assumption|apply Below.drew|refine Below.alloc ?_ Hand.z _)) (Nat.le_refl _))))
 all_goals go_wp2
 all_goals go_ret2
 all_goals (have hsz:=HBV.out.size)
 all_goals (exact ⟨_,rfl,hnr.mono (by simp only [World.size_alloc,World.size_drew];omega),Hand.stepB BB HBV.out (Nat.le_refl _)⟩)
noncomputable def sclT1:Code:=sndC (Try.f26.body.getD .skip)
noncomputable def sclT2:Code:=sndC sclT1
noncomputable def sclT3:Code:=sndC sclT2
noncomputable def sclT4:Code:=sndC sclT3
noncomputable def sclT5:Code:=sndC sclT4
theorem sclE1:sclT1 = .seq (fstC sclT1) sclT2:=by kernel_rfl
theorem sclE2:sclT2 = .seq (fstC sclT2) sclT3:=by kernel_rfl
theorem sclE3:sclT3 = .seq (fstC sclT3) sclT4:=by kernel_rfl
theorem sclE4:sclT4 = .seq (fstC sclT4) sclT5:=by kernel_rfl
theorem scl_4 (w V:World) (b1 b2 a1 a2 x1 x2 y1 y2 e:Int) {z0 z1 z4 z5 z8 z9 z10 z11 z12 z13 z14 z15 z16 z17 z18 z19 z20 z21 z22 z23 z24 z25 z26 z27 z28 z29 z30 z31 z32 z33 z34 z35 z36 z37 z38 z39 z40:Value} {ib ia gs gk:Nat} (gb:V.heap[ib]?=some (.cells #[.int .i64 b1,.int .i64 b2] 31 (0,0))) (ga:V.heap[ia]?=some (.cells #[.int .i64 a1,.int .i64 a2] 31 (0,0))) (gs_:V.heap[gs]?=some (stp e)) (gk_:V.heap[gk]?=some (.cells #[.int .i64 x1,.int .i64 x2,.int .i64 y1,.int .i64 y2] 35 (0,0))) (rx:R64 (x1,x2)) (ry:R64 (y1,y2)) (ra:R64 (a1,a2)) (hB:Below w.heap.size w V) {R:Option MapV × Int} (hRR:(if e≠0 then (none,e) else newK [((a1,a2),(a1,a2)),((x1,x2),(y1,y2))])=R) :
  sclT4.wp Try.prog (bodyPost Try.prog Try.f26 (NewQ w R)) ⟨#[z0,z1,.pointer (some ⟨ib,0,none⟩),.pointer (some ⟨ia,0,none⟩),z4,z5,.pointer (some ⟨gs,0,none⟩),.pointer (some ⟨gk,0,none⟩),z8,z9,z10,z11,z12,z13,z14,z15,z16,z17,z18,z19,z20,z21,z22,z23,z24,z25,z26,z27,z28,z29,z30,z31,z32,z33,z34,z35,z36,z37,z38,z39,z40],[]⟩ V:=by
 obtain ⟨s0,fs0⟩:=Hand.hc1 gs_
 obtain ⟨c0,f0,c1,f1⟩:=Hand.hc2 ga
 obtain ⟨k0,fk0,k1,fk1,k2,fk2,k3,fk3⟩:=Hand.hc4 gk_
 have za:=(Hand.hz ga).1
 have zk:=(Hand.hz gk_).1
 have zs:=(Hand.hz gs_).1
 have HB:=Lib.hid hB
 have hsz:=hB.size
 have MN:=Lib.hid (fun (u:World) (g c:Nat) (h:KnA u ⟨g,0,none⟩ [((a1,a2),(a1,a2)),((x1,x2),(y1,y2))])=>(by exact newm_any u [((a1,a2),(a1,a2)),((x1,x2),(y1,y2))] (some ⟨g,0,none⟩) c (.inr ⟨_,rfl,h⟩) (fun k hk=>(by rcases List.mem_cons.1 hk with rfl|hk;exact ⟨ra,ra⟩;rw [List.mem_singleton.1 hk];exact ⟨rx,ry⟩)):Calls Try.prog 13 #[.slice (some ⟨g,0,none⟩) 2 c] u (NewQ u (newK [((a1,a2),(a1,a2)),((x1,x2),(y1,y2))]))))
 obtain ⟨R0,hR⟩:∃ R,newK [((a1,a2),(a1,a2)),((x1,x2),(y1,y2))]=R:=⟨_,rfl⟩
 rw [hR] at MN hRR
 have HRR:=Lib.hid hRR
 clear hR hRR hB rx ry ra gb ga gs_ gk_
 rw [sclE4]
 refine wp_seq_k (fun K4 hK4=>?_)
 have HK4:=Lib.hid hK4
 clear hK4
 conv=>arg 2;whnf
 by_cases he:e=0
 ·have j1:(e != 0)=false:=by simpa using he
  have HE:=Lib.hid he
  clear he
  go_wp2
  refine HK4.out _ _ ?_
  conv=>arg 2;whnf
  go_wp2_with fail
  with_reducible refine (MN.out _ _ _ (kna_2 (Hand.q3 _ _ _ rfl))).mono ?_
  rintro e_ w5 ⟨v,rfl,hnr,hb5⟩
  go_wp2
  go_ret2
  rw [← HRR.out,if_neg (by simp [HE.out])]
  exact ⟨_,rfl,hnr.mono (by simp only [World.size_alloc];omega),Hand.stepB hb5 (HB.out.alloc hsz _) (Nat.le_refl _)⟩
 ·have j1:(e != 0)=true:=by simpa using he
  go_wp2_with fail
  go_quiet (fail)
  go_wp2
  go_ret2
  rw [← HRR.out,if_pos he]
  exact ⟨_,rfl,rfl,by apply pw_below_drewN;exact HB.out⟩
theorem scl_3 (w V:World) (b1 b2 a1 a2:Int) {z0 z1 z4 z5 z7 z8 z9 z10 z11 z12 z13 z14 z15 z16 z17 z18 z19 z20 z21 z22 z23 z24 z25 z26 z27 z28 z29 z30 z31 z32 z33 z34 z35 z36 z37 z38 z39 z40:Value} {ib ia gs:Nat} (gb:V.heap[ib]?=some (.cells #[.int .i64 b1,.int .i64 b2] 31 (0,0))) (ga:V.heap[ia]?=some (.cells #[.int .i64 a1,.int .i64 a2] 31 (0,0))) (hs:V.heap[gs]?=some (stp 0)) (n1:ib≠gs) (n2:ia≠gs) (rb:R64 (b1,b2)) (ra:R64 (a1,a2)) (hB:Below w.heap.size w V) (hgs:w.heap.size≤gs) {R:Option MapV × Int} (hRR:(if (doS rAdd (rAdd (a1,a2) (1,1)).2 (a1,a2) (b1,b2)).2≠0 then (none,(doS rAdd (rAdd (a1,a2) (1,1)).2 (a1,a2) (b1,b2)).2) else newK [((a1,a2),(a1,a2)),((rAdd (a1,a2) (1,1)).1,(doS rAdd (rAdd (a1,a2) (1,1)).2 (a1,a2) (b1,b2)).1)])=R) :
  sclT3.wp Try.prog (bodyPost Try.prog Try.f26 (NewQ w R)) ⟨#[z0,z1,.pointer (some ⟨ib,0,none⟩),.pointer (some ⟨ia,0,none⟩),z4,z5,.pointer (some ⟨gs,0,none⟩),z7,z8,z9,z10,z11,z12,z13,z14,z15,z16,z17,z18,z19,z20,z21,z22,z23,z24,z25,z26,z27,z28,z29,z30,z31,z32,z33,z34,z35,z36,z37,z38,z39,z40],[]⟩ V:=by
 have hX0:doS rAdd 0 (a1,a2) (1,1)=rAdd (a1,a2) (1,1):=doS_0 _ _ _
 obtain ⟨⟨⟨x1,x2⟩,e1⟩,hX⟩:∃ X,rAdd (a1,a2) (1,1)=X:=⟨_,rfl⟩
 rw [hX] at hX0 hRR
 obtain ⟨⟨⟨y1,y2⟩,e2⟩,hY⟩:∃ X,doS rAdd e1 (a1,a2) (b1,b2)=X:=⟨_,rfl⟩
 dsimp only at hRR
 rw [hY] at hRR
 dsimp only at hRR
 have HRR:=Lib.hid hRR
 clear hRR
 have rx:R64 (x1,x2):=by have:=add_R (a1,a2) (1,1);rw [hX] at this;exact this
 have ry:R64 (y1,y2):=by have:=do_R add_R e1 (a1,a2) (b1,b2);rw [hY] at this;exact this
 have M0:=Lib.hid (fun u=>whole_any 1 u)
 dsimp only [rv] at M0
 have M1:=Lib.hid (fun (u:World) (q:u.heap[gs]?=some (stp 0))=>(by have:=do_any gs 44 rAdd 0 (a1,a2) (1,1) u q ent_add (fun _=>f_add ra (R64_w 1 (by decide) (by decide)));rw [hX0] at this;exact this:Calls Try.prog 42 #[.pointer (some ⟨gs,0,none⟩),fnv 44,.agg #[.int .i64 a1,.int .i64 a2],.agg #[.int .i64 1,.int .i64 1]] u fun e_ w'=>e_ = .returned (.agg #[.int .i64 x1,.int .i64 x2])∧w'.heap[gs]?=some (stp e1)∧Fx gs u w'))
 have M2:=Lib.hid (fun (u:World) (q:u.heap[gs]?=some (stp e1))=>(by have:=do_any gs 44 rAdd e1 (a1,a2) (b1,b2) u q ent_add (fun _=>f_add ra rb);rw [hY] at this;exact this:Calls Try.prog 42 #[.pointer (some ⟨gs,0,none⟩),fnv 44,.agg #[.int .i64 a1,.int .i64 a2],.agg #[.int .i64 b1,.int .i64 b2]] u fun e_ w'=>e_ = .returned (.agg #[.int .i64 y1,.int .i64 y2])∧w'.heap[gs]?=some (stp e2)∧Fx gs u w'))
 obtain ⟨b0_,fb0,b1_,fb1⟩:=Hand.hc2 gb
 obtain ⟨a0_,fa0,a1_,fa1⟩:=Hand.hc2 ga
 have zb:=(Hand.hz gb).1
 have za:=(Hand.hz ga).1
 have gsz:=(Hand.hz hs).1
 have HC:=Lib.hid (fun (w_:World) (hF:Fx gs V w_)=>(⟨hF,(hF.cell _ zb Hand.d).trans b0_,(hF.cell _ zb Hand.d).trans b1_,(hF.cell _ za Hand.d).trans a0_,(hF.cell _ za Hand.d).trans a1_⟩:Fx gs V w_∧w_.cell? ⟨ib,0,none⟩=some (.int .i64 b1)∧w_.cell? ⟨ib,1,none⟩=some (.int .i64 b2)∧w_.cell? ⟨ia,0,none⟩=some (.int .i64 a1)∧w_.cell? ⟨ia,1,none⟩=some (.int .i64 a2)))
 have HB:=Lib.hid hB
 have GB:=Lib.hid gb
 have GA:=Lib.hid ga
 have gS:=hs
 have HS:=Lib.hid hs
 have BR:Fx gs V V:=Fx.refl _ _
 have HRX:=Lib.hid rx
 have HRY:=Lib.hid ry
 have HRA:=Lib.hid ra
 clear hX0 hX hY hB gb ga hs rx ry ra rb b0_ fb0 b1_ fb1 a0_ fa0 a1_ fa1
 rw [sclE3]
 refine wp_seq_k (fun K3 hK3=>?_)
 have HK3:=Lib.hid hK3
 clear hK3
 conv=>arg 2;whnf
 go_wp2_with fail
 go_region_held3 (fun w_=>Fx gs V w_∧w_.cell? ⟨ib,0,none⟩=some (.int .i64 b1)∧w_.cell? ⟨ib,1,none⟩=some (.int .i64 b2)∧w_.cell? ⟨ia,0,none⟩=some (.int .i64 a1)∧w_.cell? ⟨ia,1,none⟩=some (.int .i64 a2)) (first|(refine HC.out _ ?_;repeat (with_reducible first|assumption|apply Fx.drew|apply Fx.alloc|refine Fx.setNew ?_ Hand.z _ _))) (first|(go_at_call 41;((with_reducible refine (M0.out _).mono ?_);rintro e w4 ⟨rfl,hb_w4⟩;have BB:Fx gs V w4:=Fx.trans (by repeat (with_reducible first|assumption|apply Fx.drew|apply Fx.alloc|refine Fx.setNew ?_ Hand.z _ _)) (Fx.of_below hb_w4);have zB_w4:=BB.size;have hx_w4:w4.heap[gs]?=some (stp 0):=Hand.kb hb_w4 (by first|exact gS|assumption|(simp (disch:=try exact Hand.z) only [Hand.q5,Hand.q4];assumption));obtain ⟨cs_,fs_⟩:=Hand.hc1 hx_w4;obtain ⟨sz0,sz1,sz2,sy0,sy1⟩:=Hand.hz hx_w4;(try (have nx:=Hand.kb (i:=V.heap.size) (x:=.cells #[.int .i64 0,.int .i64 0,.int .i64 0,.int .i64 0] 35 (0,0)) hb_w4 Hand.q ; obtain ⟨nc0,nf0,nc1,nf1,nc2,nf2,nc3,nf3⟩:=Hand.hc4 nx;obtain ⟨nz0,nz1,nz2,ny0,ny1⟩:=Hand.hz nx;have ne1:(V.heap.size=gs)=False:=eq_false (by omega);have ne2:(gs=V.heap.size)=False:=eq_false (by omega)))))|(go_at_call 42;((with_reducible refine (M1.out _ (by first|exact gS|assumption|(simp (disch:=try exact Hand.z) only [Hand.q5,Hand.q4];assumption))).mono ?_);rintro e w5 ⟨rfl,hx_w5,hF_w5⟩;have BB:Fx gs V w5:=Fx.trans (by repeat (with_reducible first|assumption|apply Fx.drew|apply Fx.alloc|refine Fx.setNew ?_ Hand.z _ _)) hF_w5;have zB_w5:=BB.size;obtain ⟨cs_,fs_⟩:=Hand.hc1 hx_w5;obtain ⟨sz0,sz1,sz2,sy0,sy1⟩:=Hand.hz hx_w5;(try (have nx:=hF_w5.kb (k:=V.heap.size) (o:=.cells #[.int .i64 0,.int .i64 0,.int .i64 0,.int .i64 0] 35 (0,0)) Hand.q (by omega);obtain ⟨nc0,nf0,nc1,nf1,nc2,nf2,nc3,nf3⟩:=Hand.hc4 nx;obtain ⟨nz0,nz1,nz2,ny0,ny1⟩:=Hand.hz nx;have ne1:(V.heap.size=gs)=False:=eq_false (by omega);have ne2:(gs=V.heap.size)=False:=eq_false (by omega)));(try (have nx:=hF_w5.kb (k:=w4.heap.size) (o:=.cells #[.int .i64 0,.int .i64 0,.int .i64 0,.int .i64 0] 35 (0,0)) Hand.q (by omega);obtain ⟨nc0,nf0,nc1,nf1,nc2,nf2,nc3,nf3⟩:=Hand.hc4 nx;obtain ⟨nz0,nz1,nz2,ny0,ny1⟩:=Hand.hz nx;have ne1:(w4.heap.size=gs)=False:=eq_false (by omega);have ne2:(gs=w4.heap.size)=False:=eq_false (by omega)))))|(go_at_call 42;((with_reducible refine (M2.out _ (by first|exact gS|assumption|(simp (disch:=try exact Hand.z) only [Hand.q5,Hand.q4];assumption))).mono ?_);rintro e w6 ⟨rfl,hx_w6,hF_w6⟩;have BB:Fx gs V w6:=Fx.trans (by repeat (with_reducible first|assumption|apply Fx.drew|apply Fx.alloc|refine Fx.setNew ?_ Hand.z _ _)) hF_w6;have zB_w6:=BB.size;obtain ⟨cs_,fs_⟩:=Hand.hc1 hx_w6;obtain ⟨sz0,sz1,sz2,sy0,sy1⟩:=Hand.hz hx_w6;(try (have nx:=hF_w6.kb (k:=V.heap.size) (o:=.cells #[.int .i64 0,.int .i64 0,.int .i64 0,.int .i64 0] 35 (0,0)) Hand.q (by omega);obtain ⟨nc0,nf0,nc1,nf1,nc2,nf2,nc3,nf3⟩:=Hand.hc4 nx;obtain ⟨nz0,nz1,nz2,ny0,ny1⟩:=Hand.hz nx;have ne1:(V.heap.size=gs)=False:=eq_false (by omega);have ne2:(gs=V.heap.size)=False:=eq_false (by omega)));(try (have nx:=hF_w6.kb (k:=w4.heap.size) (o:=.cells #[.int .i64 0,.int .i64 0,.int .i64 0,.int .i64 0] 35 (0,0)) Hand.q (by omega);obtain ⟨nc0,nf0,nc1,nf1,nc2,nf2,nc3,nf3⟩:=Hand.hc4 nx;obtain ⟨nz0,nz1,nz2,ny0,ny1⟩:=Hand.hz nx;have ne1:(w4.heap.size=gs)=False:=eq_false (by omega);have ne2:(gs=w4.heap.size)=False:=eq_false (by omega)));(try (have nx:=hF_w6.kb (k:=w5.heap.size) (o:=.cells #[.int .i64 0,.int .i64 0,.int .i64 0,.int .i64 0] 35 (0,0)) Hand.q (by omega);obtain ⟨nc0,nf0,nc1,nf1,nc2,nf2,nc3,nf3⟩:=Hand.hc4 nx;obtain ⟨nz0,nz1,nz2,ny0,ny1⟩:=Hand.hz nx;have ne1:(w5.heap.size=gs)=False:=eq_false (by omega);have ne2:(gs=w5.heap.size)=False:=eq_false (by omega))))))
 ·have zvk:V.heap.size≤w6.heap.size:=by omega
  have zg6:=(Hand.hz hx_w6).1
  obtain ⟨Vn,hVn⟩:∃ V_,V_=w6.alloc (.cells #[.int .i64 x1,.int .i64 x2,.int .i64 y1,.int .i64 y2] 35):=⟨_,rfl⟩
  rw [← hVn]
  have vX:Vn.heap[w6.heap.size]?=some (.cells #[.int .i64 x1,.int .i64 x2,.int .i64 y1,.int .i64 y2] 35 (0,0)):=by rw [hVn];exact Hand.q3 _ _ _ rfl
  have vS:Vn.heap[gs]?=some (stp e2):=by rw [hVn];simp (disch:=try exact Hand.z) only [Hand.q2,Hand.q4,hx_w6]
  have vF:Fx gs V Vn:=by rw [hVn];repeat (with_reducible first|exact BB|refine Fx.setNew ?_ zvk _ _|apply Fx.alloc)
  refine HK3.out _ _ ?_
  exact scl_4 w Vn b1 b2 a1 a2 x1 x2 y1 y2 e2 (vF.kb GB.out n1) (vF.kb GA.out n2) vS vX HRX.out HRY.out HRA.out (vF.below HB.out hgs HB.out.size) HRR.out
 ·have zvk:V.heap.size≤w5.heap.size:=by omega
  have zg6:=(Hand.hz hx_w6).1
  obtain ⟨Vn,hVn⟩:∃ V_,V_=(((w6.setCell ⟨w5.heap.size,0,none⟩ (.int .i64 x1)).setCell ⟨w5.heap.size,1,none⟩ (.int .i64 x2)).setCell ⟨w5.heap.size,2,none⟩ (.int .i64 y1)).setCell ⟨w5.heap.size,3,none⟩ (.int .i64 y2):=⟨_,rfl⟩
  rw [← hVn]
  have vX:Vn.heap[w5.heap.size]?=some (.cells #[.int .i64 x1,.int .i64 x2,.int .i64 y1,.int .i64 y2] 35 (0,0)):=by rw [hVn];simp (disch:=try exact Hand.z) only [Hand.q1,nx];rfl
  have vS:Vn.heap[gs]?=some (stp e2):=by rw [hVn];simp (disch:=try exact Hand.z) only [Hand.q2,Hand.q4,hx_w6]
  have vF:Fx gs V Vn:=by rw [hVn];repeat (with_reducible first|exact BB|refine Fx.setNew ?_ zvk _ _|apply Fx.alloc)
  refine HK3.out _ _ ?_
  exact scl_4 w Vn b1 b2 a1 a2 x1 x2 y1 y2 e2 (vF.kb GB.out n1) (vF.kb GA.out n2) vS vX HRX.out HRY.out HRA.out (vF.below HB.out hgs HB.out.size) HRR.out
 ·have zvk:V.heap.size≤w4.heap.size:=by omega
  have zg6:=(Hand.hz hx_w6).1
  obtain ⟨Vn,hVn⟩:∃ V_,V_=(((w6.setCell ⟨w4.heap.size,0,none⟩ (.int .i64 x1)).setCell ⟨w4.heap.size,1,none⟩ (.int .i64 x2)).setCell ⟨w4.heap.size,2,none⟩ (.int .i64 y1)).setCell ⟨w4.heap.size,3,none⟩ (.int .i64 y2):=⟨_,rfl⟩
  rw [← hVn]
  have vX:Vn.heap[w4.heap.size]?=some (.cells #[.int .i64 x1,.int .i64 x2,.int .i64 y1,.int .i64 y2] 35 (0,0)):=by rw [hVn];simp (disch:=try exact Hand.z) only [Hand.q1,nx];rfl
  have vS:Vn.heap[gs]?=some (stp e2):=by rw [hVn];simp (disch:=try exact Hand.z) only [Hand.q2,Hand.q4,hx_w6]
  have vF:Fx gs V Vn:=by rw [hVn];repeat (with_reducible first|exact BB|refine Fx.setNew ?_ zvk _ _|apply Fx.alloc)
  refine HK3.out _ _ ?_
  exact scl_4 w Vn b1 b2 a1 a2 x1 x2 y1 y2 e2 (vF.kb GB.out n1) (vF.kb GA.out n2) vS vX HRX.out HRY.out HRA.out (vF.below HB.out hgs HB.out.size) HRR.out
 ·have zvk:V.heap.size≤V.heap.size:=by omega
  have zg6:=(Hand.hz hx_w6).1
  obtain ⟨Vn,hVn⟩:∃ V_,V_=(((w6.setCell ⟨V.heap.size,0,none⟩ (.int .i64 x1)).setCell ⟨V.heap.size,1,none⟩ (.int .i64 x2)).setCell ⟨V.heap.size,2,none⟩ (.int .i64 y1)).setCell ⟨V.heap.size,3,none⟩ (.int .i64 y2):=⟨_,rfl⟩
  rw [← hVn]
  have vX:Vn.heap[V.heap.size]?=some (.cells #[.int .i64 x1,.int .i64 x2,.int .i64 y1,.int .i64 y2] 35 (0,0)):=by rw [hVn];simp (disch:=try exact Hand.z) only [Hand.q1,nx];rfl
  have vS:Vn.heap[gs]?=some (stp e2):=by rw [hVn];simp (disch:=try exact Hand.z) only [Hand.q2,Hand.q4,hx_w6]
  have vF:Fx gs V Vn:=by rw [hVn];repeat (with_reducible first|exact BB|refine Fx.setNew ?_ zvk _ _|apply Fx.alloc)
  refine HK3.out _ _ ?_
  exact scl_4 w Vn b1 b2 a1 a2 x1 x2 y1 y2 e2 (vF.kb GB.out n1) (vF.kb GA.out n2) vS vX HRX.out HRY.out HRA.out (vF.below HB.out hgs HB.out.size) HRR.out
theorem scale_any (b1 b2 a1 a2:Int) (rb:R64 (b1,b2)) (ra:R64 (a1,a2)) (w:World) :
  Calls Try.prog 26 #[.agg #[.int .i64 b1,.int .i64 b2],.agg #[.int .i64 a1,.int .i64 a2]] w (NewQ w (scaleS (b1,b2) (a1,a2))):=by
 have HRA:=Lib.hid ra
 have HRB:=Lib.hid rb
 have M1:=Lib.hid (fun u=>right_k (b1,b2) u rb)
 have M2:=Lib.hid (fun u=>right_k (a1,a2) u ra)
 dsimp only [rv] at M1 M2
 obtain ⟨R,hRR⟩:∃ R,scaleS (b1,b2) (a1,a2)=R:=⟨_,rfl⟩
 rw [hRR]
 unfold scaleS at hRR
 obtain ⟨p,hp⟩:∃ p,rRight (b1,b2)=p:=⟨_,rfl⟩
 obtain ⟨r,hr⟩:∃ p,rRight (a1,a2)=p:=⟨_,rfl⟩
 rw [hp,hr] at hRR
 have HRR:=Lib.hid hRR
 clear hRR
 rw [hp] at M1
 rw [hr] at M2
 clear hp hr ra rb
 go_enter Try.func26,Try.ntmps26
 refine wp_seq_k (fun K0 hK0=>?_)
 have HK0:=Lib.hid hK0
 clear hK0
 go_wp2_with fail
 refine HK0.out _ _ ?_
 show sclT1.wp _ _ _ _
 obtain ⟨V,hV⟩:∃ V_,V_=(w.alloc (.cells #[.int .i64 b1,.int .i64 b2] 31)).alloc (.cells #[.int .i64 a1,.int .i64 a2] 31):=⟨_,rfl⟩
 rw [← hV]
 have gb:V.heap[w.heap.size]?=some (.cells #[.int .i64 b1,.int .i64 b2] 31 (0,0)):=by rw [hV];simp (disch:=try exact Hand.z) only [Hand.q4,Hand.q3]
 have ga:V.heap[w.heap.size+1]?=some (.cells #[.int .i64 a1,.int .i64 a2] 31 (0,0)):=by rw [hV];simp (disch:=try exact Hand.z) only [Hand.q4,Hand.q3]
 have hBV:Below w.heap.size w V:=by rw [hV];exact ((Below.refl _ _).alloc (Nat.le_refl _) _).alloc (by simp only [World.size_alloc];omega) _
 clear hV
 obtain ⟨b0_,fb0,b1_,fb1⟩:=Hand.hc2 gb
 rw [sclE1]
 refine wp_seq_k (fun K1 hK1=>?_)
 have HK1:=Lib.hid hK1
 clear hK1
 conv=>arg 2;whnf
 go_wp2_with fail
 with_reducible refine (M1.out _).mono ?_
 rintro e_ w1 ⟨rfl,hb1⟩
 have gb1:=Hand.kb hb1 gb
 have ga1:=Hand.kb hb1 ga
 have hB1:=Hand.stepB hb1 hBV (Nat.le_refl _)
 clear hb1 hBV gb ga b0_ fb0 b1_ fb1
 obtain ⟨a0_,fa0,a1_,fa1⟩:=Hand.hc2 ga1
 cases p
 ·go_wp2
  go_ret2
  rw [← HRR.out,if_pos (by simp)]
  exact ⟨_,rfl,rfl,hB1⟩
 ·go_wp2_with fail
  with_reducible refine (M2.out _).mono ?_
  rintro e_ w2 ⟨rfl,hb2⟩
  have gb2:=Hand.kb hb2 gb1
  have ga2:=Hand.kb hb2 ga1
  have hB2:=Hand.stepB hb2 hB1 (Nat.le_refl _)
  clear hb2 hB1 gb1 ga1 a0_ fa0 a1_ fa1
  obtain ⟨b0_,fb0,b1_,fb1⟩:=Hand.hc2 gb2
  have zb:=(Hand.hz gb2).1
  have za:=(Hand.hz ga2).1
  cases r
  ·go_wp2
   go_ret2
   rw [← HRR.out,if_pos (by simp)]
   exact ⟨_,rfl,rfl,hB2⟩
  ·by_cases hn:b1≤0
   ·have j1:decide (b1≤0)=true:=decide_eq_true hn
    go_wp2
    go_ret2
    rw [← HRR.out,if_neg (by simp),if_pos hn]
    exact ⟨_,rfl,rfl,hB2⟩
   ·have j1:decide (b1≤0)=false:=decide_eq_false hn
    have HNN:=Lib.hid hn
    clear hn
    go_wp2
    refine HK1.out _ _ ?_
    rw [sclE2]
    refine wp_seq_k (fun K2 hK2=>?_)
    have HK2:=Lib.hid hK2
    clear hK2
    conv=>arg 2;whnf
    go_wp2
    refine HK2.out _ _ ?_
    have hbn:Below w2.heap.size w2 (w2.alloc (.cells #[.int .i64 0] 72)):=(Below.refl _ _).alloc (Nat.le_refl _) _
    exact scl_3 w _ b1 b2 a1 a2 (Hand.kb hbn gb2) (Hand.kb hbn ga2) (Hand.q3 _ _ _ rfl) (by omega) (by omega) HRB.out HRA.out (hB2.trans (Below.mono hbn hB2.size)) hB2.size (by have h:=HRR.out;rw [if_neg (by simp),if_neg (by have:=HNN.out;omega)] at h;exact h)
end Go.Proofs.Ythlpaglldhgmfaa.PA
