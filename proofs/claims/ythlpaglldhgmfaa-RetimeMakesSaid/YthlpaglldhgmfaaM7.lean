/- Chapter 6: New, walked in parts. Chapter 6: New, walked in parts. Chapter 6: New, walked in parts. Chapter 6: New, walked in parts. -/
import Derived.Test.YthlpaglldhgmfaaM6
import Derived.Deep.RegionHeld3
set_option maxHeartbeats 4000000
set_option maxRecDepth 100000
namespace Go.Proofs.Ythlpaglldhgmfaa.PA
open Go Go.RowKit Go.Proofs.YthlpaglldhgmfaaW.PrintWords Go.Proofs.YthlpaglldhgmfaaW.PrintLast Go.Proofs.YthlpaglldhgmfaaW.PrintMore
set_option linter.unusedSimpArgs false
set_option linter.unusedVariables false
theorem new_d2 (w:World) (h kl:Kn) (eh:Int) (sl:Rt) (Bk:List Kn) (Ss:List Rt) {s0 s1 s2 s3 s4 s5 s6 s9 s12 s15 s16 s17 s18 s19 s20 s21 s22 s23 s24 s25 s26 s27 s28 s29 s30 s31 s32 s33 s34 s35 s36 s37 s38 s39 s40 s41 s42 s43 s44 s45 s46 s47 s48 s49 s50 s51 s52 s53 s54 s55 s56 s57 s58 s59 s60 s61 s62 s63 s64 s65 s66 s67 s68 s69 s70 s71 s72 s73 s74 s75 s76 s77 s78 s79 s80 s81 s82 s83 s84 s85 s86 s87 s88 s89 s90 s91 s92 s93 s94 s95 s96 s97 s98 s99 s100 s101 s102 s103 s104 s105 s106 s107 s108 s109 s110 s111 s112 s113 s114 s115 s116 s117 s118 s119 s120 s121 s122 s123 s124 s125 s126 s127 s128 s129 s130 s131 s132 s133 s134 s135 s136 s137 s138 s139 s140 s141 s142 s143 s144 s145 s146 s147 s148 s149 s150 s151 s152 s153 s154 s155 s156 s157 s158 s159 s160 s161 s162 s163 s164 s165 s166 s167 s168 s169:Value} {gm gs gb gl gh:Nat} {as_:Addr} {nb cb cs:Nat} {K:Act → World → Prop} {Qx:Exit → Act → World → Prop} {V:World} (hK:∀ a w',newT11.wp Try.prog (bodyPost Try.prog Try.f13 (NewQ w (endK (atS (doS rAdd eh kl.1 (1,1)).2 kl sl (doS rAdd eh kl.1 (1,1)).1).2 ⟨h :: (Bk ++ [(atS (doS rAdd eh kl.1 (1,1)).2 kl sl (doS rAdd eh kl.1 (1,1)).1).1]),Ss,Bk.length⟩))) a w' → K a w') (hm:V.heap[gm]?=some (.cells #[.slice none 0 0,.slice (some as_) (nb+1) cs,.int .i64 nb] 70 (0,0))) (hs:V.heap[gs]?=some (stp eh)) (hl:V.heap[gl]?=some (.cells #[.int .i64 kl.1.1,.int .i64 kl.1.2,.int .i64 kl.2.1,.int .i64 kl.2.2] 35 (0,0))) (hh:V.heap[gh]?=some (.cells #[.int .i64 h.1.1,.int .i64 h.1.2,.int .i64 h.2.1,.int .i64 h.2.2] 35 (0,0))) (hb:KnA V ⟨gb,0,none⟩ Bk) (hS:RtA V as_ Ss) (hB:Below w.heap.size w V) (hgm:w.heap.size≤gm) (has:w.heap.size≤as_.block) (hgs:w.heap.size≤gs) (n1:gm≠gs) (n2:gm≠as_.block) (n3:gs≠as_.block) (n4:gs≠gb) (n5:gs≠gl) (n6:gs≠gh) (e1:nb=Bk.length) (e2:nb+1=Ss.length) (hnb:0<nb) (hnb2:nb≤64) (hR:KnR Bk) (hh1:R64 h.1∧R64 h.2) (rl:R64 kl.1∧R64 kl.2) (hsl:∃ q,Ss[nb]'q=sl) (rs:∀ s ∈ Ss,R64 s) :
  newD2.wp Try.prog (Exit.then K Qx) ⟨#[s0,s1,s2,s3,s4,s5,s6,.pointer (some ⟨gm,0,none⟩),.slice (some ⟨gb,0,none⟩) nb cb,s9,.pointer (some ⟨gs,0,none⟩),.func (.func 39) #[] #[.pointer (some ⟨gs,0,none⟩)],s12,.pointer (some ⟨gl,0,none⟩),.pointer (some ⟨gh,0,none⟩),s15,s16,s17,s18,s19,s20,s21,s22,s23,s24,s25,s26,s27,s28,s29,s30,s31,s32,s33,s34,s35,s36,s37,s38,s39,s40,s41,s42,s43,s44,s45,s46,s47,s48,s49,s50,s51,s52,s53,s54,s55,s56,s57,s58,s59,s60,s61,s62,s63,s64,s65,s66,s67,s68,s69,s70,s71,s72,s73,s74,s75,s76,s77,s78,s79,s80,s81,s82,s83,s84,s85,s86,s87,s88,s89,s90,s91,s92,s93,s94,s95,s96,s97,s98,s99,s100,s101,s102,s103,s104,s105,s106,s107,s108,s109,s110,s111,s112,s113,s114,s115,s116,s117,s118,s119,s120,s121,s122,s123,s124,s125,s126,s127,s128,s129,s130,s131,s132,s133,s134,s135,s136,s137,s138,s139,s140,s141,s142,s143,s144,s145,s146,s147,s148,s149,s150,s151,s152,s153,s154,s155,s156,s157,s158,s159,s160,s161,s162,s163,s164,s165,s166,s167,s168,s169],[]⟩ V:=by
 obtain ⟨⟨⟨y1,y2⟩,ey⟩,hY⟩:∃ X,(doS rAdd eh kl.1 (1,1))=X:=⟨_,rfl⟩
 rw [hY] at hK
 obtain ⟨⟨⟨⟨u1,u2⟩,u3,u4⟩,eu⟩,hX⟩:∃ X,atS ey kl sl (y1,y2)=X:=⟨_,rfl⟩
 dsimp only at hK
 rw [hX] at hK
 dsimp only at hK
 have rsl:R64 sl:=by obtain ⟨q,e⟩:=hsl;rw [← e];exact rs _ (List.getElem_mem q)
 have rY:R64 (y1,y2):=by have:=do_R add_R eh kl.1 (1,1);rw [hY] at this;exact this
 have rX:=atS_R ey kl sl (y1,y2) rY
 rw [hX] at rX
 have M0:=Lib.hid (fun u=>whole_any 1 u)
 have M1:=Lib.hid (fun (u:World) (q:u.heap[gs]?=some (stp eh))=>(by have:=do_any gs 44 rAdd eh kl.1 (1,1) u q ent_add (fun _=>f_add rl.1 (R64_w 1 (by decide) (by decide)));rw [hY] at this;exact this:Calls Try.prog 42 #[.pointer (some ⟨gs,0,none⟩),fnv 44,.agg #[.int .i64 kl.1.1,.int .i64 kl.1.2],.agg #[.int .i64 1,.int .i64 1]] u fun e_ w'=>e_ = .returned (.agg #[.int .i64 y1,.int .i64 y2])∧w'.heap[gs]?=some (stp ey)∧Fx gs u w'))
 have MA:=Lib.hid (fun (u:World) (q:u.heap[gs]?=some (stp ey))=>(by have:=at_any gs kl sl (y1,y2) ey u q rl.1 rl.2 rsl rY;rw [hX] at this;exact this:Calls Try.prog 39 #[.agg #[.int .i64 kl.1.1,.int .i64 kl.1.2,.int .i64 kl.2.1,.int .i64 kl.2.2],.agg #[.int .i64 sl.1,.int .i64 sl.2],.agg #[.int .i64 y1,.int .i64 y2],.pointer (some ⟨gs,0,none⟩)] u fun e_ w'=>e_ = .returned (.agg #[.int .i64 u1,.int .i64 u2,.int .i64 u3,.int .i64 u4])∧w'.heap[gs]?=some (stp eu)∧Fx gs u w'))
 have gmz:=(Hand.hz hm).1
 have gsz:=(Hand.hz hs).1
 have gkz:=(Hand.hz hl).1
 obtain ⟨m0,fm0,m1,fm1,m2,fm2⟩:=Hand.hc3 hm
 obtain ⟨c0,f0,c1,f1,c2,f2,c3,f3⟩:=Hand.hc4 hl
 have HC:=Lib.hid (fun (w_:World) (hF:Fx gs V w_)=>(by have hS2:=hS.f2 (F2.of_fx gs hF) (Ne.symm n3) (Ne.symm n3);obtain ⟨hq,hsl2⟩:=hsl;have q0:=hS2 nb (by omega);rw [hsl2] at q0;exact ⟨hF,(hF.cell _ gkz Hand.d).trans c0,(hF.cell _ gkz Hand.d).trans c1,(hF.cell _ gkz Hand.d).trans c2,(hF.cell _ gkz Hand.d).trans c3,(hF.cell _ gmz Hand.d).trans m1,q0.1,q0.2⟩:Fx gs V w_∧w_.cell? ⟨gl,0,none⟩=some (.int .i64 kl.1.1)∧w_.cell? ⟨gl,1,none⟩=some (.int .i64 kl.1.2)∧w_.cell? ⟨gl,2,none⟩=some (.int .i64 kl.2.1)∧w_.cell? ⟨gl,3,none⟩=some (.int .i64 kl.2.2)∧w_.cell? ⟨gm,1,none⟩=some (.slice (some as_) (nb+1) cs)∧w_.cell? (as_.add (nb*2))=some (.int .i64 sl.1)∧w_.cell? ⟨(as_.add (nb*2)).block,(as_.add (nb*2)).off+1,none⟩=some (.int .i64 sl.2)))
 have HB:=Lib.hid hB
 have HK:=Lib.hid hK
 have HSL:=Lib.hid hS
 have HBK:=Lib.hid hb
 have HM:=Lib.hid hm
 have HS0:=Lib.hid hs
 have HL:=Lib.hid hl
 have HH:=Lib.hid hh
 have gS:=hs
 have BR:Fx gs V V:=Fx.refl _ _
 have HRX:=Lib.hid rX
 have E1:=Lib.hid e1
 have E2:=Lib.hid e2
 have RS:=Lib.hid rs
 have HSX:=Lib.hid hsl
 clear hX hY rX rY rsl hK hS hb hm hs hl hh hB e1 e2 rs hsl
 have w1:IntKind.i64.wrap ((nb:Int)+1 - 1)=(nb:Int):=by rw [IntKind.wrap_i64];omega
 have w2:IntKind.i64.wrap (nb:Int)=(nb:Int):=by rw [IntKind.wrap_i64];omega
 have p5:(0:Int)≤(nb:Int):=by omega
 have p6:((nb:Int)<(nb:Int)+1)=True:=eq_true (by omega)
 have p7:(nb<nb+1)=True:=eq_true (by omega)
 rw [newDE2]
 refine wp_seq_k (fun KD2 hKD2=>?_)
 have HKD2:=Lib.hid hKD2
 clear hKD2
 conv=>arg 2;whnf
 have HEN:=ent_at
 go_wp2_with fail
 go_region_held3 (fun w_=>Fx gs V w_∧w_.cell? ⟨gl,0,none⟩=some (.int .i64 kl.1.1)∧w_.cell? ⟨gl,1,none⟩=some (.int .i64 kl.1.2)∧w_.cell? ⟨gl,2,none⟩=some (.int .i64 kl.2.1)∧w_.cell? ⟨gl,3,none⟩=some (.int .i64 kl.2.2)∧w_.cell? ⟨gm,1,none⟩=some (.slice (some as_) (nb+1) cs)∧w_.cell? (as_.add (nb*2))=some (.int .i64 sl.1)∧w_.cell? ⟨(as_.add (nb*2)).block,(as_.add (nb*2)).off+1,none⟩=some (.int .i64 sl.2)) (first|(refine HC.out _ ?_;repeat (with_reducible first|assumption|apply Fx.drew|apply Fx.alloc|refine Fx.setNew ?_ Hand.z _ _))) (first|(go_at_call 41;((with_reducible refine (M0.out _).mono ?_);rintro e w4 ⟨rfl,hb_w4⟩;have BB:Fx gs V w4:=Fx.trans (by repeat (with_reducible first|assumption|apply Fx.drew|apply Fx.alloc|refine Fx.setNew ?_ Hand.z _ _)) (Fx.of_below hb_w4);have zB_w4:=BB.size;have hx_w4:w4.heap[gs]?=some (stp eh):=Hand.kb hb_w4 (by first|exact gS|assumption|(simp (disch:=try exact Hand.z) only [Hand.q5,Hand.q4];assumption));obtain ⟨cs_,fs_⟩:=Hand.hc1 hx_w4;obtain ⟨sz0,sz1,sz2,sy0,sy1⟩:=Hand.hz hx_w4;(try (have nx:=Hand.kb (i:=V.heap.size) (x:=.cells #[.int .i64 0,.int .i64 0,.int .i64 0,.int .i64 0] 35 (0,0)) hb_w4 Hand.q ; obtain ⟨nc0,nf0,nc1,nf1,nc2,nf2,nc3,nf3⟩:=Hand.hc4 nx;obtain ⟨nz0,nz1,nz2,ny0,ny1⟩:=Hand.hz nx;have ne1:(V.heap.size=gs)=False:=eq_false (by omega);have ne2:(gs=V.heap.size)=False:=eq_false (by omega)))))|(go_at_call 42;((with_reducible refine (M1.out _ Hand.q).mono ?_);rintro e w5 ⟨rfl,hx_w5,hF_w5⟩;have BB:Fx gs V w5:=Fx.trans (by repeat (with_reducible first|assumption|apply Fx.drew|apply Fx.alloc|refine Fx.setNew ?_ Hand.z _ _)) hF_w5;have zB_w5:=BB.size;obtain ⟨cs_,fs_⟩:=Hand.hc1 hx_w5;obtain ⟨sz0,sz1,sz2,sy0,sy1⟩:=Hand.hz hx_w5;(try (have nx:=hF_w5.kb (k:=V.heap.size) (o:=.cells #[.int .i64 0,.int .i64 0,.int .i64 0,.int .i64 0] 35 (0,0)) Hand.q (by omega);obtain ⟨nc0,nf0,nc1,nf1,nc2,nf2,nc3,nf3⟩:=Hand.hc4 nx;obtain ⟨nz0,nz1,nz2,ny0,ny1⟩:=Hand.hz nx;have ne1:(V.heap.size=gs)=False:=eq_false (by omega);have ne2:(gs=V.heap.size)=False:=eq_false (by omega)));(try (have nx:=hF_w5.kb (k:=w4.heap.size) (o:=.cells #[.int .i64 0,.int .i64 0,.int .i64 0,.int .i64 0] 35 (0,0)) Hand.q (by omega);obtain ⟨nc0,nf0,nc1,nf1,nc2,nf2,nc3,nf3⟩:=Hand.hc4 nx;obtain ⟨nz0,nz1,nz2,ny0,ny1⟩:=Hand.hz nx;have ne1:(w4.heap.size=gs)=False:=eq_false (by omega);have ne2:(gs=w4.heap.size)=False:=eq_false (by omega)))))|(go_at_fn 39;((with_reducible refine (MA.out _ Hand.q).mono ?_);rintro e w6 ⟨rfl,hx_w6,hF_w6⟩;have BB:Fx gs V w6:=Fx.trans (by repeat (with_reducible first|assumption|apply Fx.drew|apply Fx.alloc|refine Fx.setNew ?_ Hand.z _ _)) hF_w6;have zB_w6:=BB.size;obtain ⟨cs_,fs_⟩:=Hand.hc1 hx_w6;obtain ⟨sz0,sz1,sz2,sy0,sy1⟩:=Hand.hz hx_w6;(try (have nx:=hF_w6.kb (k:=V.heap.size) (o:=.cells #[.int .i64 0,.int .i64 0,.int .i64 0,.int .i64 0] 35 (0,0)) Hand.q (by omega);obtain ⟨nc0,nf0,nc1,nf1,nc2,nf2,nc3,nf3⟩:=Hand.hc4 nx;obtain ⟨nz0,nz1,nz2,ny0,ny1⟩:=Hand.hz nx;have ne1:(V.heap.size=gs)=False:=eq_false (by omega);have ne2:(gs=V.heap.size)=False:=eq_false (by omega)));(try (have nx:=hF_w6.kb (k:=w4.heap.size) (o:=.cells #[.int .i64 0,.int .i64 0,.int .i64 0,.int .i64 0] 35 (0,0)) Hand.q (by omega);obtain ⟨nc0,nf0,nc1,nf1,nc2,nf2,nc3,nf3⟩:=Hand.hc4 nx;obtain ⟨nz0,nz1,nz2,ny0,ny1⟩:=Hand.hz nx;have ne1:(w4.heap.size=gs)=False:=eq_false (by omega);have ne2:(gs=w4.heap.size)=False:=eq_false (by omega)));(try (have nx:=hF_w6.kb (k:=w5.heap.size) (o:=.cells #[.int .i64 0,.int .i64 0,.int .i64 0,.int .i64 0] 35 (0,0)) Hand.q (by omega);obtain ⟨nc0,nf0,nc1,nf1,nc2,nf2,nc3,nf3⟩:=Hand.hc4 nx;obtain ⟨nz0,nz1,nz2,ny0,ny1⟩:=Hand.hz nx;have ne1:(w5.heap.size=gs)=False:=eq_false (by omega);have ne2:(gs=w5.heap.size)=False:=eq_false (by omega))))))
 ·have zvk:V.heap.size≤w6.heap.size:=by omega
  have zg6:=(Hand.hz hx_w6).1
  obtain ⟨Vn,hVn⟩:∃ V_,V_=w6.alloc (.cells #[.int .i64 u1,.int .i64 u2,.int .i64 u3,.int .i64 u4] 35):=⟨_,rfl⟩
  rw [← hVn]
  have vX:Vn.heap[w6.heap.size]?=some (.cells #[.int .i64 u1,.int .i64 u2,.int .i64 u3,.int .i64 u4] 35 (0,0)):=by rw [hVn];exact Hand.q3 _ _ _ rfl
  have vS:Vn.heap[gs]?=some (stp eu):=by rw [hVn];simp (disch:=try exact Hand.z) only [Hand.q2,Hand.q4,hx_w6]
  have vF:Fx gs V Vn:=by rw [hVn];repeat (with_reducible first|exact BB|refine Fx.setNew ?_ zvk _ _|apply Fx.alloc)
  refine HKD2.out _ _ ?_
  exact new_d3 w h ((u1,u2),(u3,u4)) eu Bk Ss HK.out (vF.kb HM.out n1) vS (vF.kb HH.out (Ne.symm n6)) vX (HBK.out.f2 (F2.of_fx gs vF) (Ne.symm n4) (Ne.symm n4)) (HSL.out.f2 (F2.of_fx gs vF) (Ne.symm n3) (Ne.symm n3)) (vF.below HB.out hgs HB.out.size) hgm has n1 n2 E1.out E2.out hnb hnb2 (by intro x hx;simp only [List.mem_cons,List.mem_append,List.not_mem_nil,or_false] at hx;rcases hx with rfl|hx|rfl;exact hh1;exact hR _ hx;exact HRX.out)
 ·have zvk:V.heap.size≤w5.heap.size:=by omega
  have zg6:=(Hand.hz hx_w6).1
  obtain ⟨Vn,hVn⟩:∃ V_,V_=(((w6.setCell ⟨w5.heap.size,0,none⟩ (.int .i64 u1)).setCell ⟨w5.heap.size,1,none⟩ (.int .i64 u2)).setCell ⟨w5.heap.size,2,none⟩ (.int .i64 u3)).setCell ⟨w5.heap.size,3,none⟩ (.int .i64 u4):=⟨_,rfl⟩
  rw [← hVn]
  have vX:Vn.heap[w5.heap.size]?=some (.cells #[.int .i64 u1,.int .i64 u2,.int .i64 u3,.int .i64 u4] 35 (0,0)):=by rw [hVn];simp (disch:=try exact Hand.z) only [Hand.q1,nx];rfl
  have vS:Vn.heap[gs]?=some (stp eu):=by rw [hVn];simp (disch:=try exact Hand.z) only [Hand.q2,Hand.q4,hx_w6]
  have vF:Fx gs V Vn:=by rw [hVn];repeat (with_reducible first|exact BB|refine Fx.setNew ?_ zvk _ _|apply Fx.alloc)
  refine HKD2.out _ _ ?_
  exact new_d3 w h ((u1,u2),(u3,u4)) eu Bk Ss HK.out (vF.kb HM.out n1) vS (vF.kb HH.out (Ne.symm n6)) vX (HBK.out.f2 (F2.of_fx gs vF) (Ne.symm n4) (Ne.symm n4)) (HSL.out.f2 (F2.of_fx gs vF) (Ne.symm n3) (Ne.symm n3)) (vF.below HB.out hgs HB.out.size) hgm has n1 n2 E1.out E2.out hnb hnb2 (by intro x hx;simp only [List.mem_cons,List.mem_append,List.not_mem_nil,or_false] at hx;rcases hx with rfl|hx|rfl;exact hh1;exact hR _ hx;exact HRX.out)
 ·have zvk:V.heap.size≤w4.heap.size:=by omega
  have zg6:=(Hand.hz hx_w6).1
  obtain ⟨Vn,hVn⟩:∃ V_,V_=(((w6.setCell ⟨w4.heap.size,0,none⟩ (.int .i64 u1)).setCell ⟨w4.heap.size,1,none⟩ (.int .i64 u2)).setCell ⟨w4.heap.size,2,none⟩ (.int .i64 u3)).setCell ⟨w4.heap.size,3,none⟩ (.int .i64 u4):=⟨_,rfl⟩
  rw [← hVn]
  have vX:Vn.heap[w4.heap.size]?=some (.cells #[.int .i64 u1,.int .i64 u2,.int .i64 u3,.int .i64 u4] 35 (0,0)):=by rw [hVn];simp (disch:=try exact Hand.z) only [Hand.q1,nx];rfl
  have vS:Vn.heap[gs]?=some (stp eu):=by rw [hVn];simp (disch:=try exact Hand.z) only [Hand.q2,Hand.q4,hx_w6]
  have vF:Fx gs V Vn:=by rw [hVn];repeat (with_reducible first|exact BB|refine Fx.setNew ?_ zvk _ _|apply Fx.alloc)
  refine HKD2.out _ _ ?_
  exact new_d3 w h ((u1,u2),(u3,u4)) eu Bk Ss HK.out (vF.kb HM.out n1) vS (vF.kb HH.out (Ne.symm n6)) vX (HBK.out.f2 (F2.of_fx gs vF) (Ne.symm n4) (Ne.symm n4)) (HSL.out.f2 (F2.of_fx gs vF) (Ne.symm n3) (Ne.symm n3)) (vF.below HB.out hgs HB.out.size) hgm has n1 n2 E1.out E2.out hnb hnb2 (by intro x hx;simp only [List.mem_cons,List.mem_append,List.not_mem_nil,or_false] at hx;rcases hx with rfl|hx|rfl;exact hh1;exact hR _ hx;exact HRX.out)
 ·have zvk:V.heap.size≤V.heap.size:=by omega
  have zg6:=(Hand.hz hx_w6).1
  obtain ⟨Vn,hVn⟩:∃ V_,V_=(((w6.setCell ⟨V.heap.size,0,none⟩ (.int .i64 u1)).setCell ⟨V.heap.size,1,none⟩ (.int .i64 u2)).setCell ⟨V.heap.size,2,none⟩ (.int .i64 u3)).setCell ⟨V.heap.size,3,none⟩ (.int .i64 u4):=⟨_,rfl⟩
  rw [← hVn]
  have vX:Vn.heap[V.heap.size]?=some (.cells #[.int .i64 u1,.int .i64 u2,.int .i64 u3,.int .i64 u4] 35 (0,0)):=by rw [hVn];simp (disch:=try exact Hand.z) only [Hand.q1,nx];rfl
  have vS:Vn.heap[gs]?=some (stp eu):=by rw [hVn];simp (disch:=try exact Hand.z) only [Hand.q2,Hand.q4,hx_w6]
  have vF:Fx gs V Vn:=by rw [hVn];repeat (with_reducible first|exact BB|refine Fx.setNew ?_ zvk _ _|apply Fx.alloc)
  refine HKD2.out _ _ ?_
  exact new_d3 w h ((u1,u2),(u3,u4)) eu Bk Ss HK.out (vF.kb HM.out n1) vS (vF.kb HH.out (Ne.symm n6)) vX (HBK.out.f2 (F2.of_fx gs vF) (Ne.symm n4) (Ne.symm n4)) (HSL.out.f2 (F2.of_fx gs vF) (Ne.symm n3) (Ne.symm n3)) (vF.below HB.out hgs HB.out.size) hgm has n1 n2 E1.out E2.out hnb hnb2 (by intro x hx;simp only [List.mem_cons,List.mem_append,List.not_mem_nil,or_false] at hx;rcases hx with rfl|hx|rfl;exact hh1;exact hR _ hx;exact HRX.out)
theorem new_d1 (w:World) (kf kl:Kn) (sf:Rt) (sl:Rt) (Bk:List Kn) (Ss:List Rt) {s0 s1 s2 s3 s4 s5 s6 s9 s14 s15 s16 s17 s18 s19 s20 s21 s22 s23 s24 s25 s26 s27 s28 s29 s30 s31 s32 s33 s34 s35 s36 s37 s38 s39 s40 s41 s42 s43 s44 s45 s46 s47 s48 s49 s50 s51 s52 s53 s54 s55 s56 s57 s58 s59 s60 s61 s62 s63 s64 s65 s66 s67 s68 s69 s70 s71 s72 s73 s74 s75 s76 s77 s78 s79 s80 s81 s82 s83 s84 s85 s86 s87 s88 s89 s90 s91 s92 s93 s94 s95 s96 s97 s98 s99 s100 s101 s102 s103 s104 s105 s106 s107 s108 s109 s110 s111 s112 s113 s114 s115 s116 s117 s118 s119 s120 s121 s122 s123 s124 s125 s126 s127 s128 s129 s130 s131 s132 s133 s134 s135 s136 s137 s138 s139 s140 s141 s142 s143 s144 s145 s146 s147 s148 s149 s150 s151 s152 s153 s154 s155 s156 s157 s158 s159 s160 s161 s162 s163 s164 s165 s166 s167 s168 s169:Value} {gm gs gb gl gf:Nat} {as_:Addr} {nb cb cs:Nat} {K:Act → World → Prop} {Qx:Exit → Act → World → Prop} {V:World} (hK:∀ a w',newT11.wp Try.prog (bodyPost Try.prog Try.f13 (NewQ w (endK (atS (doS rAdd (atS (doS rSub 0 kf.1 (1,1)).2 kf sf (doS rSub 0 kf.1 (1,1)).1).2 kl.1 (1,1)).2 kl sl (doS rAdd (atS (doS rSub 0 kf.1 (1,1)).2 kf sf (doS rSub 0 kf.1 (1,1)).1).2 kl.1 (1,1)).1).2 ⟨(atS (doS rSub 0 kf.1 (1,1)).2 kf sf (doS rSub 0 kf.1 (1,1)).1).1 :: (Bk ++ [(atS (doS rAdd (atS (doS rSub 0 kf.1 (1,1)).2 kf sf (doS rSub 0 kf.1 (1,1)).1).2 kl.1 (1,1)).2 kl sl (doS rAdd (atS (doS rSub 0 kf.1 (1,1)).2 kf sf (doS rSub 0 kf.1 (1,1)).1).2 kl.1 (1,1)).1).1]),Ss,Bk.length⟩))) a w' → K a w') (hm:V.heap[gm]?=some (.cells #[.slice none 0 0,.slice (some as_) (nb+1) cs,.int .i64 nb] 70 (0,0))) (hs:V.heap[gs]?=some (stp 0)) (hl:V.heap[gl]?=some (.cells #[.int .i64 kl.1.1,.int .i64 kl.1.2,.int .i64 kl.2.1,.int .i64 kl.2.2] 35 (0,0))) (hf:V.heap[gf]?=some (.cells #[.int .i64 kf.1.1,.int .i64 kf.1.2,.int .i64 kf.2.1,.int .i64 kf.2.2] 35 (0,0))) (hb:KnA V ⟨gb,0,none⟩ Bk) (hS:RtA V as_ Ss) (hB:Below w.heap.size w V) (hgm:w.heap.size≤gm) (has:w.heap.size≤as_.block) (hgs:w.heap.size≤gs) (n1:gm≠gs) (n2:gm≠as_.block) (n3:gs≠as_.block) (n4:gs≠gb) (n5:gs≠gl) (n6:gs≠gf) (e1:nb=Bk.length) (e2:nb+1=Ss.length) (hnb:0<nb) (hnb2:nb≤64) (hR:KnR Bk) (rf:R64 kf.1∧R64 kf.2) (hs0:∃ q,Ss[0]'q=sf) (rl:R64 kl.1∧R64 kl.2) (hsl:∃ q,Ss[nb]'q=sl) (rs:∀ s ∈ Ss,R64 s) :
  newD1.wp Try.prog (Exit.then K Qx) ⟨#[s0,s1,s2,s3,s4,s5,s6,.pointer (some ⟨gm,0,none⟩),.slice (some ⟨gb,0,none⟩) nb cb,s9,.pointer (some ⟨gs,0,none⟩),.func (.func 39) #[] #[.pointer (some ⟨gs,0,none⟩)],.pointer (some ⟨gf,0,none⟩),.pointer (some ⟨gl,0,none⟩),s14,s15,s16,s17,s18,s19,s20,s21,s22,s23,s24,s25,s26,s27,s28,s29,s30,s31,s32,s33,s34,s35,s36,s37,s38,s39,s40,s41,s42,s43,s44,s45,s46,s47,s48,s49,s50,s51,s52,s53,s54,s55,s56,s57,s58,s59,s60,s61,s62,s63,s64,s65,s66,s67,s68,s69,s70,s71,s72,s73,s74,s75,s76,s77,s78,s79,s80,s81,s82,s83,s84,s85,s86,s87,s88,s89,s90,s91,s92,s93,s94,s95,s96,s97,s98,s99,s100,s101,s102,s103,s104,s105,s106,s107,s108,s109,s110,s111,s112,s113,s114,s115,s116,s117,s118,s119,s120,s121,s122,s123,s124,s125,s126,s127,s128,s129,s130,s131,s132,s133,s134,s135,s136,s137,s138,s139,s140,s141,s142,s143,s144,s145,s146,s147,s148,s149,s150,s151,s152,s153,s154,s155,s156,s157,s158,s159,s160,s161,s162,s163,s164,s165,s166,s167,s168,s169],[]⟩ V:=by
 obtain ⟨⟨⟨y1,y2⟩,ey⟩,hY⟩:∃ X,(doS rSub 0 kf.1 (1,1))=X:=⟨_,rfl⟩
 rw [hY] at hK
 obtain ⟨⟨⟨⟨u1,u2⟩,u3,u4⟩,eu⟩,hX⟩:∃ X,atS ey kf sf (y1,y2)=X:=⟨_,rfl⟩
 dsimp only at hK
 rw [hX] at hK
 dsimp only at hK
 have rsl:R64 sf:=by obtain ⟨q,e⟩:=hs0;rw [← e];exact rs _ (List.getElem_mem q)
 have rY:R64 (y1,y2):=by have:=do_R sub_R 0 kf.1 (1,1);rw [hY] at this;exact this
 have rX:=atS_R ey kf sf (y1,y2) rY
 rw [hX] at rX
 have M0:=Lib.hid (fun u=>whole_any 1 u)
 have M1:=Lib.hid (fun (u:World) (q:u.heap[gs]?=some (stp 0))=>(by have:=do_any gs 43 rSub 0 kf.1 (1,1) u q ent_sub (fun _=>f_sub rf.1 (R64_w 1 (by decide) (by decide)));rw [hY] at this;exact this:Calls Try.prog 42 #[.pointer (some ⟨gs,0,none⟩),fnv 43,.agg #[.int .i64 kf.1.1,.int .i64 kf.1.2],.agg #[.int .i64 1,.int .i64 1]] u fun e_ w'=>e_ = .returned (.agg #[.int .i64 y1,.int .i64 y2])∧w'.heap[gs]?=some (stp ey)∧Fx gs u w'))
 have MA:=Lib.hid (fun (u:World) (q:u.heap[gs]?=some (stp ey))=>(by have:=at_any gs kf sf (y1,y2) ey u q rf.1 rf.2 rsl rY;rw [hX] at this;exact this:Calls Try.prog 39 #[.agg #[.int .i64 kf.1.1,.int .i64 kf.1.2,.int .i64 kf.2.1,.int .i64 kf.2.2],.agg #[.int .i64 sf.1,.int .i64 sf.2],.agg #[.int .i64 y1,.int .i64 y2],.pointer (some ⟨gs,0,none⟩)] u fun e_ w'=>e_ = .returned (.agg #[.int .i64 u1,.int .i64 u2,.int .i64 u3,.int .i64 u4])∧w'.heap[gs]?=some (stp eu)∧Fx gs u w'))
 have gmz:=(Hand.hz hm).1
 have gsz:=(Hand.hz hs).1
 have gkz:=(Hand.hz hf).1
 obtain ⟨m0,fm0,m1,fm1,m2,fm2⟩:=Hand.hc3 hm
 obtain ⟨c0,f0,c1,f1,c2,f2,c3,f3⟩:=Hand.hc4 hf
 have HC:=Lib.hid (fun (w_:World) (hF:Fx gs V w_)=>(by have hS2:=hS.f2 (F2.of_fx gs hF) (Ne.symm n3) (Ne.symm n3);obtain ⟨hq,hsl2⟩:=hs0;have q0:=hS2 0 (by omega);rw [hsl2] at q0;rw [Nat.zero_mul,show as_.add 0=as_ from rfl] at q0;exact ⟨hF,(hF.cell _ gkz Hand.d).trans c0,(hF.cell _ gkz Hand.d).trans c1,(hF.cell _ gkz Hand.d).trans c2,(hF.cell _ gkz Hand.d).trans c3,(hF.cell _ gmz Hand.d).trans m1,q0.1,q0.2⟩:Fx gs V w_∧w_.cell? ⟨gf,0,none⟩=some (.int .i64 kf.1.1)∧w_.cell? ⟨gf,1,none⟩=some (.int .i64 kf.1.2)∧w_.cell? ⟨gf,2,none⟩=some (.int .i64 kf.2.1)∧w_.cell? ⟨gf,3,none⟩=some (.int .i64 kf.2.2)∧w_.cell? ⟨gm,1,none⟩=some (.slice (some as_) (nb+1) cs)∧w_.cell? as_=some (.int .i64 sf.1)∧w_.cell? ⟨as_.block,as_.off+1,none⟩=some (.int .i64 sf.2)))
 have HB:=Lib.hid hB
 have HK:=Lib.hid hK
 have HSL:=Lib.hid hS
 have HBK:=Lib.hid hb
 have HM:=Lib.hid hm
 have HS0:=Lib.hid hs
 have HL:=Lib.hid hl
 have HF:=Lib.hid hf
 have gS:=hs
 have BR:Fx gs V V:=Fx.refl _ _
 have HRX:=Lib.hid rX
 have E1:=Lib.hid e1
 have E2:=Lib.hid e2
 have RS:=Lib.hid rs
 have HSX:=Lib.hid hsl
 clear hX hY rX rY rsl hK hS hb hm hs hl hf hB e1 e2 rs hsl hs0
 have p6:((0:Int)<(nb:Int)+1)=True:=eq_true (by omega)
 have p7:(0<nb+1)=True:=eq_true (by omega)
 rw [newDE1]
 refine wp_seq_k (fun KD1 hKD1=>?_)
 have HKD1:=Lib.hid hKD1
 clear hKD1
 conv=>arg 2;whnf
 have HEN:=ent_at
 go_wp2_with fail
 go_region_held3 (fun w_=>Fx gs V w_∧w_.cell? ⟨gf,0,none⟩=some (.int .i64 kf.1.1)∧w_.cell? ⟨gf,1,none⟩=some (.int .i64 kf.1.2)∧w_.cell? ⟨gf,2,none⟩=some (.int .i64 kf.2.1)∧w_.cell? ⟨gf,3,none⟩=some (.int .i64 kf.2.2)∧w_.cell? ⟨gm,1,none⟩=some (.slice (some as_) (nb+1) cs)∧w_.cell? as_=some (.int .i64 sf.1)∧w_.cell? ⟨as_.block,as_.off+1,none⟩=some (.int .i64 sf.2)) (first|(refine HC.out _ ?_;repeat (with_reducible first|assumption|apply Fx.drew|apply Fx.alloc|refine Fx.setNew ?_ Hand.z _ _))) (first|(go_at_call 41;((with_reducible refine (M0.out _).mono ?_);rintro e w4 ⟨rfl,hb_w4⟩;have BB:Fx gs V w4:=Fx.trans (by repeat (with_reducible first|assumption|apply Fx.drew|apply Fx.alloc|refine Fx.setNew ?_ Hand.z _ _)) (Fx.of_below hb_w4);have zB_w4:=BB.size;have hx_w4:w4.heap[gs]?=some (stp 0):=Hand.kb hb_w4 (by first|exact gS|assumption|(simp (disch:=try exact Hand.z) only [Hand.q5,Hand.q4];assumption));obtain ⟨cs_,fs_⟩:=Hand.hc1 hx_w4;obtain ⟨sz0,sz1,sz2,sy0,sy1⟩:=Hand.hz hx_w4;(try (have nx:=Hand.kb (i:=V.heap.size) (x:=.cells #[.int .i64 0,.int .i64 0,.int .i64 0,.int .i64 0] 35 (0,0)) hb_w4 Hand.q ; obtain ⟨nc0,nf0,nc1,nf1,nc2,nf2,nc3,nf3⟩:=Hand.hc4 nx;obtain ⟨nz0,nz1,nz2,ny0,ny1⟩:=Hand.hz nx;have ne1:(V.heap.size=gs)=False:=eq_false (by omega);have ne2:(gs=V.heap.size)=False:=eq_false (by omega)))))|(go_at_call 42;((with_reducible refine (M1.out _ Hand.q).mono ?_);rintro e w5 ⟨rfl,hx_w5,hF_w5⟩;have BB:Fx gs V w5:=Fx.trans (by repeat (with_reducible first|assumption|apply Fx.drew|apply Fx.alloc|refine Fx.setNew ?_ Hand.z _ _)) hF_w5;have zB_w5:=BB.size;obtain ⟨cs_,fs_⟩:=Hand.hc1 hx_w5;obtain ⟨sz0,sz1,sz2,sy0,sy1⟩:=Hand.hz hx_w5;(try (have nx:=hF_w5.kb (k:=V.heap.size) (o:=.cells #[.int .i64 0,.int .i64 0,.int .i64 0,.int .i64 0] 35 (0,0)) Hand.q (by omega);obtain ⟨nc0,nf0,nc1,nf1,nc2,nf2,nc3,nf3⟩:=Hand.hc4 nx;obtain ⟨nz0,nz1,nz2,ny0,ny1⟩:=Hand.hz nx;have ne1:(V.heap.size=gs)=False:=eq_false (by omega);have ne2:(gs=V.heap.size)=False:=eq_false (by omega)));(try (have nx:=hF_w5.kb (k:=w4.heap.size) (o:=.cells #[.int .i64 0,.int .i64 0,.int .i64 0,.int .i64 0] 35 (0,0)) Hand.q (by omega);obtain ⟨nc0,nf0,nc1,nf1,nc2,nf2,nc3,nf3⟩:=Hand.hc4 nx;obtain ⟨nz0,nz1,nz2,ny0,ny1⟩:=Hand.hz nx;have ne1:(w4.heap.size=gs)=False:=eq_false (by omega);have ne2:(gs=w4.heap.size)=False:=eq_false (by omega)))))|(go_at_fn 39;((with_reducible refine (MA.out _ Hand.q).mono ?_);rintro e w6 ⟨rfl,hx_w6,hF_w6⟩;have BB:Fx gs V w6:=Fx.trans (by repeat (with_reducible first|assumption|apply Fx.drew|apply Fx.alloc|refine Fx.setNew ?_ Hand.z _ _)) hF_w6;have zB_w6:=BB.size;obtain ⟨cs_,fs_⟩:=Hand.hc1 hx_w6;obtain ⟨sz0,sz1,sz2,sy0,sy1⟩:=Hand.hz hx_w6;(try (have nx:=hF_w6.kb (k:=V.heap.size) (o:=.cells #[.int .i64 0,.int .i64 0,.int .i64 0,.int .i64 0] 35 (0,0)) Hand.q (by omega);obtain ⟨nc0,nf0,nc1,nf1,nc2,nf2,nc3,nf3⟩:=Hand.hc4 nx;obtain ⟨nz0,nz1,nz2,ny0,ny1⟩:=Hand.hz nx;have ne1:(V.heap.size=gs)=False:=eq_false (by omega);have ne2:(gs=V.heap.size)=False:=eq_false (by omega)));(try (have nx:=hF_w6.kb (k:=w4.heap.size) (o:=.cells #[.int .i64 0,.int .i64 0,.int .i64 0,.int .i64 0] 35 (0,0)) Hand.q (by omega);obtain ⟨nc0,nf0,nc1,nf1,nc2,nf2,nc3,nf3⟩:=Hand.hc4 nx;obtain ⟨nz0,nz1,nz2,ny0,ny1⟩:=Hand.hz nx;have ne1:(w4.heap.size=gs)=False:=eq_false (by omega);have ne2:(gs=w4.heap.size)=False:=eq_false (by omega)));(try (have nx:=hF_w6.kb (k:=w5.heap.size) (o:=.cells #[.int .i64 0,.int .i64 0,.int .i64 0,.int .i64 0] 35 (0,0)) Hand.q (by omega);obtain ⟨nc0,nf0,nc1,nf1,nc2,nf2,nc3,nf3⟩:=Hand.hc4 nx;obtain ⟨nz0,nz1,nz2,ny0,ny1⟩:=Hand.hz nx;have ne1:(w5.heap.size=gs)=False:=eq_false (by omega);have ne2:(gs=w5.heap.size)=False:=eq_false (by omega))))))
 ·have zvk:V.heap.size≤w6.heap.size:=by omega
  have zg6:=(Hand.hz hx_w6).1
  obtain ⟨Vn,hVn⟩:∃ V_,V_=w6.alloc (.cells #[.int .i64 u1,.int .i64 u2,.int .i64 u3,.int .i64 u4] 35):=⟨_,rfl⟩
  rw [← hVn]
  have vX:Vn.heap[w6.heap.size]?=some (.cells #[.int .i64 u1,.int .i64 u2,.int .i64 u3,.int .i64 u4] 35 (0,0)):=by rw [hVn];exact Hand.q3 _ _ _ rfl
  have vS:Vn.heap[gs]?=some (stp eu):=by rw [hVn];simp (disch:=try exact Hand.z) only [Hand.q2,Hand.q4,hx_w6]
  have vF:Fx gs V Vn:=by rw [hVn];repeat (with_reducible first|exact BB|refine Fx.setNew ?_ zvk _ _|apply Fx.alloc)
  refine HKD1.out _ _ ?_
  exact new_d2 w ((u1,u2),(u3,u4)) kl eu sl Bk Ss HK.out (vF.kb HM.out n1) vS (vF.kb HL.out (Ne.symm n5)) vX (HBK.out.f2 (F2.of_fx gs vF) (Ne.symm n4) (Ne.symm n4)) (HSL.out.f2 (F2.of_fx gs vF) (Ne.symm n3) (Ne.symm n3)) (vF.below HB.out hgs HB.out.size) hgm has hgs n1 n2 n3 n4 n5 (by omega) E1.out E2.out hnb hnb2 hR HRX.out rl HSX.out RS.out
 ·have zvk:V.heap.size≤w5.heap.size:=by omega
  have zg6:=(Hand.hz hx_w6).1
  obtain ⟨Vn,hVn⟩:∃ V_,V_=(((w6.setCell ⟨w5.heap.size,0,none⟩ (.int .i64 u1)).setCell ⟨w5.heap.size,1,none⟩ (.int .i64 u2)).setCell ⟨w5.heap.size,2,none⟩ (.int .i64 u3)).setCell ⟨w5.heap.size,3,none⟩ (.int .i64 u4):=⟨_,rfl⟩
  rw [← hVn]
  have vX:Vn.heap[w5.heap.size]?=some (.cells #[.int .i64 u1,.int .i64 u2,.int .i64 u3,.int .i64 u4] 35 (0,0)):=by rw [hVn];simp (disch:=try exact Hand.z) only [Hand.q1,nx];rfl
  have vS:Vn.heap[gs]?=some (stp eu):=by rw [hVn];simp (disch:=try exact Hand.z) only [Hand.q2,Hand.q4,hx_w6]
  have vF:Fx gs V Vn:=by rw [hVn];repeat (with_reducible first|exact BB|refine Fx.setNew ?_ zvk _ _|apply Fx.alloc)
  refine HKD1.out _ _ ?_
  exact new_d2 w ((u1,u2),(u3,u4)) kl eu sl Bk Ss HK.out (vF.kb HM.out n1) vS (vF.kb HL.out (Ne.symm n5)) vX (HBK.out.f2 (F2.of_fx gs vF) (Ne.symm n4) (Ne.symm n4)) (HSL.out.f2 (F2.of_fx gs vF) (Ne.symm n3) (Ne.symm n3)) (vF.below HB.out hgs HB.out.size) hgm has hgs n1 n2 n3 n4 n5 (by omega) E1.out E2.out hnb hnb2 hR HRX.out rl HSX.out RS.out
 ·have zvk:V.heap.size≤w4.heap.size:=by omega
  have zg6:=(Hand.hz hx_w6).1
  obtain ⟨Vn,hVn⟩:∃ V_,V_=(((w6.setCell ⟨w4.heap.size,0,none⟩ (.int .i64 u1)).setCell ⟨w4.heap.size,1,none⟩ (.int .i64 u2)).setCell ⟨w4.heap.size,2,none⟩ (.int .i64 u3)).setCell ⟨w4.heap.size,3,none⟩ (.int .i64 u4):=⟨_,rfl⟩
  rw [← hVn]
  have vX:Vn.heap[w4.heap.size]?=some (.cells #[.int .i64 u1,.int .i64 u2,.int .i64 u3,.int .i64 u4] 35 (0,0)):=by rw [hVn];simp (disch:=try exact Hand.z) only [Hand.q1,nx];rfl
  have vS:Vn.heap[gs]?=some (stp eu):=by rw [hVn];simp (disch:=try exact Hand.z) only [Hand.q2,Hand.q4,hx_w6]
  have vF:Fx gs V Vn:=by rw [hVn];repeat (with_reducible first|exact BB|refine Fx.setNew ?_ zvk _ _|apply Fx.alloc)
  refine HKD1.out _ _ ?_
  exact new_d2 w ((u1,u2),(u3,u4)) kl eu sl Bk Ss HK.out (vF.kb HM.out n1) vS (vF.kb HL.out (Ne.symm n5)) vX (HBK.out.f2 (F2.of_fx gs vF) (Ne.symm n4) (Ne.symm n4)) (HSL.out.f2 (F2.of_fx gs vF) (Ne.symm n3) (Ne.symm n3)) (vF.below HB.out hgs HB.out.size) hgm has hgs n1 n2 n3 n4 n5 (by omega) E1.out E2.out hnb hnb2 hR HRX.out rl HSX.out RS.out
 ·have zvk:V.heap.size≤V.heap.size:=by omega
  have zg6:=(Hand.hz hx_w6).1
  obtain ⟨Vn,hVn⟩:∃ V_,V_=(((w6.setCell ⟨V.heap.size,0,none⟩ (.int .i64 u1)).setCell ⟨V.heap.size,1,none⟩ (.int .i64 u2)).setCell ⟨V.heap.size,2,none⟩ (.int .i64 u3)).setCell ⟨V.heap.size,3,none⟩ (.int .i64 u4):=⟨_,rfl⟩
  rw [← hVn]
  have vX:Vn.heap[V.heap.size]?=some (.cells #[.int .i64 u1,.int .i64 u2,.int .i64 u3,.int .i64 u4] 35 (0,0)):=by rw [hVn];simp (disch:=try exact Hand.z) only [Hand.q1,nx];rfl
  have vS:Vn.heap[gs]?=some (stp eu):=by rw [hVn];simp (disch:=try exact Hand.z) only [Hand.q2,Hand.q4,hx_w6]
  have vF:Fx gs V Vn:=by rw [hVn];repeat (with_reducible first|exact BB|refine Fx.setNew ?_ zvk _ _|apply Fx.alloc)
  refine HKD1.out _ _ ?_
  exact new_d2 w ((u1,u2),(u3,u4)) kl eu sl Bk Ss HK.out (vF.kb HM.out n1) vS (vF.kb HL.out (Ne.symm n5)) vX (HBK.out.f2 (F2.of_fx gs vF) (Ne.symm n4) (Ne.symm n4)) (HSL.out.f2 (F2.of_fx gs vF) (Ne.symm n3) (Ne.symm n3)) (vF.below HB.out hgs HB.out.size) hgm has hgs n1 n2 n3 n4 n5 (by omega) E1.out E2.out hnb hnb2 hR HRX.out rl HSX.out RS.out
theorem new_d0 (w:World) (kf kl:Kn) (sf sl:Rt) (Bk:List Kn) (Ss:List Rt) {s0 s1 s2 s3 s4 s5 s6 s9 s12 s13 s14 s15 s16 s17 s18 s19 s20 s21 s22 s23 s24 s25 s26 s27 s28 s29 s30 s31 s32 s33 s34 s35 s36 s37 s38 s39 s40 s41 s42 s43 s44 s45 s46 s47 s48 s49 s50 s51 s52 s53 s54 s55 s56 s57 s58 s59 s60 s61 s62 s63 s64 s65 s66 s67 s68 s69 s70 s71 s72 s73 s74 s75 s76 s77 s78 s79 s80 s81 s82 s83 s84 s85 s86 s87 s88 s89 s90 s91 s92 s93 s94 s95 s96 s97 s98 s99 s100 s101 s102 s103 s104 s105 s106 s107 s108 s109 s110 s111 s112 s113 s114 s115 s116 s117 s118 s119 s120 s121 s122 s123 s124 s125 s126 s127 s128 s129 s130 s131 s132 s133 s134 s135 s136 s137 s138 s139 s140 s141 s142 s143 s144 s145 s146 s147 s148 s149 s150 s151 s152 s153 s154 s155 s156 s157 s158 s159 s160 s161 s162 s163 s164 s165 s166 s167 s168 s169:Value} {gm gs gb:Nat} {as_:Addr} {nj cb cs:Nat} {K:Act → World → Prop} {Qx:Exit → Act → World → Prop} {V:World} (hK:∀ a w',newT11.wp Try.prog (bodyPost Try.prog Try.f13 (NewQ w (endK (atS (doS rAdd (atS (doS rSub 0 kf.1 (1,1)).2 kf sf (doS rSub 0 kf.1 (1,1)).1).2 kl.1 (1,1)).2 kl sl (doS rAdd (atS (doS rSub 0 kf.1 (1,1)).2 kf sf (doS rSub 0 kf.1 (1,1)).1).2 kl.1 (1,1)).1).2 ⟨(atS (doS rSub 0 kf.1 (1,1)).2 kf sf (doS rSub 0 kf.1 (1,1)).1).1 :: (Bk ++ [(atS (doS rAdd (atS (doS rSub 0 kf.1 (1,1)).2 kf sf (doS rSub 0 kf.1 (1,1)).1).2 kl.1 (1,1)).2 kl sl (doS rAdd (atS (doS rSub 0 kf.1 (1,1)).2 kf sf (doS rSub 0 kf.1 (1,1)).1).2 kl.1 (1,1)).1).1]),Ss,Bk.length⟩))) a w' → K a w') (hm:V.heap[gm]?=some (.cells #[.slice none 0 0,.slice (some as_) (nj+1+1) cs,.int .i64 ((nj+1:Nat):Int)] 70 (0,0))) (hs:V.heap[gs]?=some (stp 0)) (hb:KnA V ⟨gb,0,none⟩ Bk) (hS:RtA V as_ Ss) (hB:Below w.heap.size w V) (hgm:w.heap.size≤gm) (has:w.heap.size≤as_.block) (hgs:w.heap.size≤gs) (n1:gm≠gs) (n2:gm≠as_.block) (n3:gs≠as_.block) (n4:gs≠gb) (e1:nj+1=Bk.length) (e2:nj+1+1=Ss.length) (hnb2:nj+1≤64) (hR:KnR Bk) (hkf:∃ q,Bk[0]'q=kf) (hkl:∃ q,Bk[nj]'q=kl) (hs0:∃ q,Ss[0]'q=sf) (hsl:∃ q,Ss[nj+1]'q=sl) (rs:∀ s ∈ Ss,R64 s) :
  newD0.wp Try.prog (Exit.then K Qx) ⟨#[s0,s1,s2,s3,s4,s5,s6,.pointer (some ⟨gm,0,none⟩),.slice (some ⟨gb,0,none⟩) (nj+1) cb,s9,.pointer (some ⟨gs,0,none⟩),.func (.func 39) #[] #[.pointer (some ⟨gs,0,none⟩)],s12,s13,s14,s15,s16,s17,s18,s19,s20,s21,s22,s23,s24,s25,s26,s27,s28,s29,s30,s31,s32,s33,s34,s35,s36,s37,s38,s39,s40,s41,s42,s43,s44,s45,s46,s47,s48,s49,s50,s51,s52,s53,s54,s55,s56,s57,s58,s59,s60,s61,s62,s63,s64,s65,s66,s67,s68,s69,s70,s71,s72,s73,s74,s75,s76,s77,s78,s79,s80,s81,s82,s83,s84,s85,s86,s87,s88,s89,s90,s91,s92,s93,s94,s95,s96,s97,s98,s99,s100,s101,s102,s103,s104,s105,s106,s107,s108,s109,s110,s111,s112,s113,s114,s115,s116,s117,s118,s119,s120,s121,s122,s123,s124,s125,s126,s127,s128,s129,s130,s131,s132,s133,s134,s135,s136,s137,s138,s139,s140,s141,s142,s143,s144,s145,s146,s147,s148,s149,s150,s151,s152,s153,s154,s155,s156,s157,s158,s159,s160,s161,s162,s163,s164,s165,s166,s167,s168,s169],[]⟩ V:=by
 have rf:R64 kf.1∧R64 kf.2:=by obtain ⟨q,e⟩:=hkf;rw [← e];exact hR _ (List.getElem_mem q)
 have rl:R64 kl.1∧R64 kl.2:=by obtain ⟨q,e⟩:=hkl;rw [← e];exact hR _ (List.getElem_mem q)
 have gmz:=(Hand.hz hm).1
 have gsz:=(Hand.hz hs).1
 have gbz:gb<V.heap.size:=by obtain ⟨q,e⟩:=hkf;have:=World.block_lt_of_cell? V _ (hb 0 q).1;rw [add0] at this;exact this
 have gaz:as_.block<V.heap.size:=by obtain ⟨q,e⟩:=hs0;have:=World.block_lt_of_cell? V _ (hS 0 q).1;unfold Addr.add at this;split at this<;>exact this
 obtain ⟨ab,hab⟩:∃ ab:Addr,⟨gb,0,none⟩=ab:=⟨_,rfl⟩
 have HC:=Lib.hid (fun (w_:World) (h:Below V.heap.size V w_)=>(by have hk:=hb.below h;rw [hab] at hk;obtain ⟨q0,e0⟩:=hkf;obtain ⟨q1,e1'⟩:=hkl;have k0:=hk 0 q0;rw [e0,Nat.zero_mul,show ab.add 0=ab from rfl] at k0;have k1:=hk nj q1;rw [e1'] at k1;obtain ⟨a0,a1,a2,a3⟩:=k0;obtain ⟨b0,b1,b2,b3⟩:=k1;exact ⟨h,a0,a1,a2,a3,b0,b1,b2,b3⟩:Below V.heap.size V w_∧w_.cell? ab=some (.int .i64 kf.1.1)∧w_.cell? ⟨ab.block,ab.off+1,none⟩=some (.int .i64 kf.1.2)∧w_.cell? ⟨ab.block,ab.off+2,none⟩=some (.int .i64 kf.2.1)∧w_.cell? ⟨ab.block,ab.off+3,none⟩=some (.int .i64 kf.2.2)∧w_.cell? (ab.add (nj*4))=some (.int .i64 kl.1.1)∧w_.cell? ⟨(ab.add (nj*4)).block,(ab.add (nj*4)).off+1,none⟩=some (.int .i64 kl.1.2)∧w_.cell? ⟨(ab.add (nj*4)).block,(ab.add (nj*4)).off+2,none⟩=some (.int .i64 kl.2.1)∧w_.cell? ⟨(ab.add (nj*4)).block,(ab.add (nj*4)).off+3,none⟩=some (.int .i64 kl.2.2)))
 have HM:=Lib.hid hm
 have HS:=Lib.hid hs
 have HBK:=Lib.hid hb
 have HSL:=Lib.hid hS
 have HB:=Lib.hid hB
 have HK:=Lib.hid hK
 have HAB:=Lib.hid hab
 have H4:=Lib.hid hkf
 have H5:=Lib.hid hkl
 have H6:=Lib.hid hs0
 have H7:=Lib.hid hsl
 have HRS:=Lib.hid rs
 have HR:=Lib.hid hR
 have E1:=Lib.hid e1
 have E2:=Lib.hid e2
 rw [hab]
 clear hm hs hb hS hB hK hab hkf hkl hs0 hsl rs hR e1 e2
 have w1:IntKind.i64.wrap ((nj:Int)+1 - 1)=(nj:Int):=by rw [IntKind.wrap_i64];omega
 have w2:IntKind.i64.wrap (nj:Int)=(nj:Int):=by rw [IntKind.wrap_i64];omega
 have p5:(0:Int)≤(nj:Int):=by omega
 have p6:((nj:Int)<(nj:Int)+1)=True:=eq_true (by omega)
 have p7:(nj<nj+1)=True:=eq_true (by omega)
 have p8:((0:Int)<(nj:Int)+1)=True:=eq_true (by omega)
 have p9:(0<nj+1)=True:=eq_true (by omega)
 have BR:Below V.heap.size V V:=Below.refl _ _
 rw [newDE0]
 refine wp_seq_k (fun KD0 hKD0=>?_)
 have HKD0:=Lib.hid hKD0
 clear hKD0
 conv=>arg 2;whnf
 go_wp2_with fail
 go_region_held3 (fun w_=>Below V.heap.size V w_∧w_.cell? ab=some (.int .i64 kf.1.1)∧w_.cell? ⟨ab.block,ab.off+1,none⟩=some (.int .i64 kf.1.2)∧w_.cell? ⟨ab.block,ab.off+2,none⟩=some (.int .i64 kf.2.1)∧w_.cell? ⟨ab.block,ab.off+3,none⟩=some (.int .i64 kf.2.2)∧w_.cell? (ab.add (nj*4))=some (.int .i64 kl.1.1)∧w_.cell? ⟨(ab.add (nj*4)).block,(ab.add (nj*4)).off+1,none⟩=some (.int .i64 kl.1.2)∧w_.cell? ⟨(ab.add (nj*4)).block,(ab.add (nj*4)).off+2,none⟩=some (.int .i64 kl.2.1)∧w_.cell? ⟨(ab.add (nj*4)).block,(ab.add (nj*4)).off+3,none⟩=some (.int .i64 kl.2.2)) (first|(refine HC.out _ ?_;repeat (with_reducible first|assumption|apply Below.drew|refine Below.setCell ?_ (by dsimp only;exact Hand.z) _|refine Below.alloc ?_ Hand.z _))) (first|fail)
 ·have hab:=HAB.out
  subst hab
  obtain ⟨Vn,hVn⟩:∃ V_,V_=((V.alloc (.cells #[.int .i64 kf.1.1,.int .i64 kf.1.2,.int .i64 kf.2.1,.int .i64 kf.2.2] 35)).alloc (.cells #[.int .i64 kl.1.1,.int .i64 kl.1.2,.int .i64 kl.2.1,.int .i64 kl.2.2] 35)).drew:=⟨_,rfl⟩
  rw [← hVn]
  have vB:Below V.heap.size V Vn:=by rw [hVn];exact (((Below.refl _ _).alloc (Nat.le_refl _) _).alloc (by simp only [World.size_alloc];omega) _).drew
  have vF:Vn.heap[V.heap.size]?=some (.cells #[.int .i64 kf.1.1,.int .i64 kf.1.2,.int .i64 kf.2.1,.int .i64 kf.2.2] 35 (0,0)):=by rw [hVn];simp (disch:=try exact Hand.z) only [Hand.q5,Hand.q4,Hand.q3]
  have vL:Vn.heap[V.heap.size+1]?=some (.cells #[.int .i64 kl.1.1,.int .i64 kl.1.2,.int .i64 kl.2.1,.int .i64 kl.2.2] 35 (0,0)):=by rw [hVn];simp (disch:=try exact Hand.z) only [Hand.q5,Hand.q4,Hand.q3]
  refine HKD0.out _ _ ?_
  exact new_d1 w kf kl sf sl Bk Ss HK.out (Hand.kb vB HM.out) (Hand.kb vB HS.out) vL vF (HBK.out.below vB) (HSL.out.below vB) (HB.out.trans (Below.mono vB HB.out.size)) hgm has hgs n1 n2 n3 n4 (by omega) (by omega) E1.out E2.out (Nat.zero_lt_succ _) hnb2 HR.out rf H6.out rl H7.out HRS.out
 ·have hab:=HAB.out
  subst hab
  obtain ⟨Vn,hVn⟩:∃ V_,V_=((V.alloc (.cells #[.int .i64 kl.1.1,.int .i64 kl.1.2,.int .i64 kl.2.1,.int .i64 kl.2.2] 35)).alloc (.cells #[.int .i64 kf.1.1,.int .i64 kf.1.2,.int .i64 kf.2.1,.int .i64 kf.2.2] 35)).drew:=⟨_,rfl⟩
  rw [← hVn]
  have vB:Below V.heap.size V Vn:=by rw [hVn];exact (((Below.refl _ _).alloc (Nat.le_refl _) _).alloc (by simp only [World.size_alloc];omega) _).drew
  have vF:Vn.heap[V.heap.size+1]?=some (.cells #[.int .i64 kf.1.1,.int .i64 kf.1.2,.int .i64 kf.2.1,.int .i64 kf.2.2] 35 (0,0)):=by rw [hVn];simp (disch:=try exact Hand.z) only [Hand.q5,Hand.q4,Hand.q3]
  have vL:Vn.heap[V.heap.size]?=some (.cells #[.int .i64 kl.1.1,.int .i64 kl.1.2,.int .i64 kl.2.1,.int .i64 kl.2.2] 35 (0,0)):=by rw [hVn];simp (disch:=try exact Hand.z) only [Hand.q5,Hand.q4,Hand.q3]
  refine HKD0.out _ _ ?_
  exact new_d1 w kf kl sf sl Bk Ss HK.out (Hand.kb vB HM.out) (Hand.kb vB HS.out) vL vF (HBK.out.below vB) (HSL.out.below vB) (HB.out.trans (Below.mono vB HB.out.size)) hgm has hgs n1 n2 n3 n4 (by omega) (by omega) E1.out E2.out (Nat.zero_lt_succ _) hnb2 HR.out rf H6.out rl H7.out HRS.out
noncomputable def newC18:Code:=fstC (fstC newT10)
def thnC:Code → Code
 | .cond _ a _=>a
 | c=>c
noncomputable def newL0:Code:=thnC (sndC (fstC newT10))
theorem newE10c:newT10 = .seq (.seq newC18 (.cond (.tmp 79) newL0 newD0)) newT11:=by kernel_rfl
theorem new_bent (w:World) (kf kl:Kn) (sf sl:Rt) (Bk:List Kn) (Ss:List Rt) {s0 s1 s2 s3 s4 s5 s6 s9 s10 s11 s12 s13 s14 s15 s16 s17 s18 s19 s20 s21 s22 s23 s24 s25 s26 s27 s28 s29 s30 s31 s32 s33 s34 s35 s36 s37 s38 s39 s40 s41 s42 s43 s44 s45 s46 s47 s48 s49 s50 s51 s52 s53 s54 s55 s56 s57 s58 s59 s60 s61 s62 s63 s64 s65 s66 s67 s68 s69 s70 s71 s72 s73 s74 s75 s76 s77 s78 s79 s80 s81 s82 s83 s84 s85 s86 s87 s88 s89 s90 s91 s92 s93 s94 s95 s96 s97 s98 s99 s100 s101 s102 s103 s104 s105 s106 s107 s108 s109 s110 s111 s112 s113 s114 s115 s116 s117 s118 s119 s120 s121 s122 s123 s124 s125 s126 s127 s128 s129 s130 s131 s132 s133 s134 s135 s136 s137 s138 s139 s140 s141 s142 s143 s144 s145 s146 s147 s148 s149 s150 s151 s152 s153 s154 s155 s156 s157 s158 s159 s160 s161 s162 s163 s164 s165 s166 s167 s168 s169:Value} {gm gb:Nat} {as_:Addr} {nj cb cs:Nat} {W:World} (hm:W.heap[gm]?=some (.cells #[.slice none 0 0,.slice (some as_) (nj+1+1) cs,.int .i64 0] 70 (0,0))) (hb:KnA W ⟨gb,0,none⟩ Bk) (hS:RtA W as_ Ss) (hB:Below w.heap.size w W) (hgm:w.heap.size≤gm) (has:w.heap.size≤as_.block) (n1:gm≠gb) (n2:gm≠as_.block) (e1:nj+1=Bk.length) (e2:nj+1+1=Ss.length) (hnb2:nj+1≤64) (hR:KnR Bk) (hkf:∃ q,Bk[0]'q=kf) (hkl:∃ q,Bk[nj]'q=kl) (hs0:∃ q,Ss[0]'q=sf) (hsl:∃ q,Ss[nj+1]'q=sl) (rs:∀ s ∈ Ss,R64 s) :
  newT7.wp Try.prog (bodyPost Try.prog Try.f13 (NewQ w (endK (atS (doS rAdd (atS (doS rSub 0 kf.1 (1,1)).2 kf sf (doS rSub 0 kf.1 (1,1)).1).2 kl.1 (1,1)).2 kl sl (doS rAdd (atS (doS rSub 0 kf.1 (1,1)).2 kf sf (doS rSub 0 kf.1 (1,1)).1).2 kl.1 (1,1)).1).2 ⟨(atS (doS rSub 0 kf.1 (1,1)).2 kf sf (doS rSub 0 kf.1 (1,1)).1).1 :: (Bk ++ [(atS (doS rAdd (atS (doS rSub 0 kf.1 (1,1)).2 kf sf (doS rSub 0 kf.1 (1,1)).1).2 kl.1 (1,1)).2 kl sl (doS rAdd (atS (doS rSub 0 kf.1 (1,1)).2 kf sf (doS rSub 0 kf.1 (1,1)).1).2 kl.1 (1,1)).1).1]),Ss,Bk.length⟩))) ⟨#[s0,s1,s2,s3,s4,s5,s6,.pointer (some ⟨gm,0,none⟩),.slice (some ⟨gb,0,none⟩) (nj+1) cb,s9,s10,s11,s12,s13,s14,s15,s16,s17,s18,s19,s20,s21,s22,s23,s24,s25,s26,s27,s28,s29,s30,s31,s32,s33,s34,s35,s36,s37,s38,s39,s40,s41,s42,s43,s44,s45,s46,s47,s48,s49,s50,s51,s52,s53,s54,s55,s56,s57,s58,s59,s60,s61,s62,s63,s64,s65,s66,s67,s68,s69,s70,s71,s72,s73,s74,s75,s76,s77,s78,s79,s80,s81,s82,s83,s84,s85,s86,s87,s88,s89,s90,s91,s92,s93,s94,s95,s96,s97,s98,s99,s100,s101,s102,s103,s104,s105,s106,s107,s108,s109,s110,s111,s112,s113,s114,s115,s116,s117,s118,s119,s120,s121,s122,s123,s124,s125,s126,s127,s128,s129,s130,s131,s132,s133,s134,s135,s136,s137,s138,s139,s140,s141,s142,s143,s144,s145,s146,s147,s148,s149,s150,s151,s152,s153,s154,s155,s156,s157,s158,s159,s160,s161,s162,s163,s164,s165,s166,s167,s168,s169],[]⟩ W:=by
 have gmz:=(Hand.hz hm).1
 have gbz:gb<W.heap.size:=by obtain ⟨q,e⟩:=hkf;have:=World.block_lt_of_cell? W _ (hb 0 q).1;rw [add0] at this;exact this
 have gaz:as_.block<W.heap.size:=by obtain ⟨q,e⟩:=hs0;have:=World.block_lt_of_cell? W _ (hS 0 q).1;unfold Addr.add at this;split at this<;>exact this
 obtain ⟨m0,fm0,m1,fm1,m2,fm2⟩:=Hand.hc3 hm
 have HM:=Lib.hid hm
 have HBK:=Lib.hid hb
 have HSL:=Lib.hid hS
 have HB:=Lib.hid hB
 have H4:=Lib.hid hkf
 have H5:=Lib.hid hkl
 have H6:=Lib.hid hs0
 have H7:=Lib.hid hsl
 have HRS:=Lib.hid rs
 have HR:=Lib.hid hR
 have E1:=Lib.hid e1
 have E2:=Lib.hid e2
 clear hm hb hS hB hkf hkl hs0 hsl rs hR e1 e2
 have mg:(gm=W.heap.size)=False:=eq_false (by omega)
 have mg2:(W.heap.size=gm)=False:=eq_false (by omega)
 rw [newE7]
 refine wp_seq_k (fun K7 hK7=>?_)
 have HK7:=Lib.hid hK7
 clear hK7
 conv=>arg 2;whnf
 go_wp2
 refine HK7.out _ _ ?_
 rw [newE8]
 refine wp_seq_k (fun K8 hK8=>?_)
 have HK8:=Lib.hid hK8
 clear hK8
 conv=>arg 2;whnf
 go_wp2
 refine HK8.out _ _ ?_
 rw [newE9]
 refine wp_seq_k (fun K9 hK9=>?_)
 have HK9:=Lib.hid hK9
 clear hK9
 conv=>arg 2;whnf
 go_wp2
 refine HK9.out _ _ ?_
 obtain ⟨V,hV⟩:∃ V_,V_=(W.setCell ⟨gm,2,none⟩ (.int .i64 ((nj:Int)+1))).alloc (stp 0):=⟨_,rfl⟩
 have gS:V.heap[W.heap.size]?=some (stp 0):=by rw [hV];exact Hand.q3 _ _ _ (by simp [World.setCell])
 have gM:V.heap[gm]?=some (.cells #[.slice none 0 0,.slice (some as_) (nj+1+1) cs,.int .i64 ((nj+1:Nat):Int)] 70 (0,0)):=by rw [hV,Hand.q4 _ _ _ (by simp only [World.size_setCell];omega),Hand.q1,HM.out];rfl
 have gF:F2 gm W.heap.size W V:=by rw [hV];exact ((F2.refl _ _ _).set _ _ _ (Or.inl rfl)).alloc _
 have vB:Below w.heap.size w V:=F2.below gF HB.out hgm HB.out.size HB.out.size
 refine Hand.wp_cut (fun PP hPP=>?_)
 rw [newE10c]
 refine wp_seq_k (fun K10 hK10=>?_)
 refine wp_seq_k (fun K18 hK18=>?_)
 have HK10:=Lib.hid hK10
 have HK18:=Lib.hid hK18
 clear hK10 hK18
 conv=>arg 2;whnf
 have hne:((nj:Int)+1 == 0)=false:=by simp;omega
 have hne2:(nj+1 == 0)=false:=by simp
 have PPH:=Lib.hid hPP
 have HVV:=Lib.hid hV
 clear hPP hV
 go_wp2
 refine HK18.out _ _ ?_
 refine wp_cond_false rfl ?_
 have hK11:∀ a w',newT11.wp Try.prog (bodyPost Try.prog Try.f13 (NewQ w (endK (atS (doS rAdd (atS (doS rSub 0 kf.1 (1,1)).2 kf sf (doS rSub 0 kf.1 (1,1)).1).2 kl.1 (1,1)).2 kl sl (doS rAdd (atS (doS rSub 0 kf.1 (1,1)).2 kf sf (doS rSub 0 kf.1 (1,1)).1).2 kl.1 (1,1)).1).2 ⟨(atS (doS rSub 0 kf.1 (1,1)).2 kf sf (doS rSub 0 kf.1 (1,1)).1).1 :: (Bk ++ [(atS (doS rAdd (atS (doS rSub 0 kf.1 (1,1)).2 kf sf (doS rSub 0 kf.1 (1,1)).1).2 kl.1 (1,1)).2 kl sl (doS rAdd (atS (doS rSub 0 kf.1 (1,1)).2 kf sf (doS rSub 0 kf.1 (1,1)).1).2 kl.1 (1,1)).1).1]),Ss,Bk.length⟩))) a w' → K10 a w':=fun a w' h=>HK10.out a w' (by rw [PPH.out];exact h)
 rw [← HVV.out]
 exact new_d0 w kf kl sf sl Bk Ss (Qx:=PP) hK11 gM gS (HBK.out.f2 gF (Ne.symm n1) Hand.d) (HSL.out.f2 gF (Ne.symm n2) (by omega)) vB hgm has HB.out.size (by omega) n2 (by omega) (by omega) E1.out E2.out hnb2 HR.out H4.out H5.out H6.out H7.out HRS.out
end Go.Proofs.Ythlpaglldhgmfaa.PA
