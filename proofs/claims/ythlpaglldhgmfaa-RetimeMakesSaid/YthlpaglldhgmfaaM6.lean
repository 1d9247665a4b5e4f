/- Chapter 6: New, walked in parts. Chapter 6: New's closure: a knot at a time. Chapter 6: New, walked in parts. Chapter 6: slices.Grow, Concat, Clone. Chapter 6: New, walked in parts. -/
import Derived.Test.YthlpaglldhgmfaaM5
import Derived.Deep.RegionHeld3
import Derived.Lib.AppendZerosOnto
import Derived.Lib.SliceRun
import Derived.Lib.Walk
set_option maxHeartbeats 4000000
set_option maxRecDepth 100000
namespace Go.Proofs.Ythlpaglldhgmfaa.PA
open Go Go.RowKit Go.Proofs.YthlpaglldhgmfaaW.PrintWords Go.Proofs.YthlpaglldhgmfaaW.PrintLast Go.Proofs.YthlpaglldhgmfaaW.PrintMore
set_option linter.unusedSimpArgs false
set_option linter.unusedVariables false
def fstC:Code → Code
 | .seq a _=>a
 | c=>c
noncomputable def newT1:Code:=sndC (Try.f13.body.getD .skip)
noncomputable def newT2:Code:=sndC newT1
noncomputable def newT3:Code:=sndC newT2
noncomputable def newT4:Code:=sndC newT3
noncomputable def newT5:Code:=sndC newT4
noncomputable def newT6:Code:=sndC newT5
noncomputable def newT7:Code:=sndC newT6
noncomputable def newT8:Code:=sndC newT7
noncomputable def newT9:Code:=sndC newT8
noncomputable def newT10:Code:=sndC newT9
noncomputable def newT11:Code:=sndC newT10
noncomputable def newT12:Code:=sndC newT11
noncomputable def newT13:Code:=sndC newT12
theorem newE1:newT1 = .seq (fstC newT1) newT2:=by kernel_rfl
theorem newE2:newT2 = .seq (fstC newT2) newT3:=by kernel_rfl
theorem newE3:newT3 = .seq (fstC newT3) newT4:=by kernel_rfl
theorem newE4:newT4 = .seq (fstC newT4) newT5:=by kernel_rfl
theorem newE5:newT5 = .seq (fstC newT5) newT6:=by kernel_rfl
theorem newE6:newT6 = .seq (fstC newT6) newT7:=by kernel_rfl
theorem newE7:newT7 = .seq (fstC newT7) newT8:=by kernel_rfl
theorem newE8:newT8 = .seq (fstC newT8) newT9:=by kernel_rfl
theorem newE9:newT9 = .seq (fstC newT9) newT10:=by kernel_rfl
theorem newE10:newT10 = .seq (fstC newT10) newT11:=by kernel_rfl
theorem newE11:newT11 = .seq (fstC newT11) newT12:=by kernel_rfl
theorem newE12:newT12 = .seq (fstC newT12) newT13:=by kernel_rfl
def NewR (B:Nat) (w':World) (v:Value):Option MapV → Prop
 | none=>v = .pointer none
 | some m=>∃ p ak as_ ck cs,v = .pointer (some ⟨p,0,none⟩)∧MapA w' p ak as_ ck cs m∧B≤p∧B≤ak.block∧B≤as_.block
def NewQ (w:World) (r:Option MapV × Int) (e:Ending) (w':World):Prop:=∃ v,e = .returned (.tuple #[v,.int .i64 r.2])∧NewR w.heap.size w' v r.1∧Below w.heap.size w w'
def endK (e:Int) (m:MapV):Option MapV × Int:=if e≠0 then (none,e) else if (slopesS m.knots).2≠0 then (none,(slopesS m.knots).2) else (some m,0)
theorem new_c (w:World) (m:MapV) (e:Int) {s0 s1 s2 s3 s4 s5 s6 s8 s9 s11 s12 s13 s14 s15 s16 s17 s18 s19 s20 s21 s22 s23 s24 s25 s26 s27 s28 s29 s30 s31 s32 s33 s34 s35 s36 s37 s38 s39 s40 s41 s42 s43 s44 s45 s46 s47 s48 s49 s50 s51 s52 s53 s54 s55 s56 s57 s58 s59 s60 s61 s62 s63 s64 s65 s66 s67 s68 s69 s70 s71 s72 s73 s74 s75 s76 s77 s78 s79 s80 s81 s82 s83 s84 s85 s86 s87 s88 s89 s90 s91 s92 s93 s94 s95 s96 s97 s98 s99 s100 s101 s102 s103 s104 s105 s106 s107 s108 s109 s110 s111 s112 s113 s114 s115 s116 s117 s118 s119 s120 s121 s122 s123 s124 s125 s126 s127 s128 s129 s130 s131 s132 s133 s134 s135 s136 s137 s138 s139 s140 s141 s142 s143 s144 s145 s146 s147 s148 s149 s150 s151 s152 s153 s154 s155 s156 s157 s158 s159 s160 s161 s162 s163 s164 s165 s166 s167 s168 s169:Value} {gm gs:Nat} {ak as_:Addr} {ck cs:Nat} {W:World} (hm:MapA W gm ak as_ ck cs m) (hs:W.heap[gs]?=some (stp e)) (hB:Below w.heap.size w W) (hgm:w.heap.size≤gm) (hak:w.heap.size≤ak.block) (has:w.heap.size≤as_.block) (hR:KnR m.knots) (h0:0<m.knots.length) (h1:m.knots.length≤66) :
  newT11.wp Try.prog (bodyPost Try.prog Try.f13 (NewQ w (endK e m))) ⟨#[s0,s1,s2,s3,s4,s5,s6,.pointer (some ⟨gm,0,none⟩),s8,s9,.pointer (some ⟨gs,0,none⟩),s11,s12,s13,s14,s15,s16,s17,s18,s19,s20,s21,s22,s23,s24,s25,s26,s27,s28,s29,s30,s31,s32,s33,s34,s35,s36,s37,s38,s39,s40,s41,s42,s43,s44,s45,s46,s47,s48,s49,s50,s51,s52,s53,s54,s55,s56,s57,s58,s59,s60,s61,s62,s63,s64,s65,s66,s67,s68,s69,s70,s71,s72,s73,s74,s75,s76,s77,s78,s79,s80,s81,s82,s83,s84,s85,s86,s87,s88,s89,s90,s91,s92,s93,s94,s95,s96,s97,s98,s99,s100,s101,s102,s103,s104,s105,s106,s107,s108,s109,s110,s111,s112,s113,s114,s115,s116,s117,s118,s119,s120,s121,s122,s123,s124,s125,s126,s127,s128,s129,s130,s131,s132,s133,s134,s135,s136,s137,s138,s139,s140,s141,s142,s143,s144,s145,s146,s147,s148,s149,s150,s151,s152,s153,s154,s155,s156,s157,s158,s159,s160,s161,s162,s163,s164,s165,s166,s167,s168,s169],[]⟩ W:=by
 obtain ⟨c0,f0⟩:=Hand.hc1 hs
 obtain ⟨m0,fm0,m1,fm1,m2,fm2⟩:=Hand.hc3 hm.blk
 obtain ⟨n,hn⟩:∃ n,m.knots.length=n:=⟨_,rfl⟩
 rw [hn] at m0
 have SL:=Lib.hid (fun (u:World) (h:Below w.heap.size w u) (hk:KnA u ak m.knots)=>(by have:=sls_any ak m.knots ck u hk hR h0 h1;rw [hn] at this;exact this:Calls Try.prog 38 #[.slice (some ak) n ck] u fun e w'=>∃ g c,e = .returned (.tuple #[.slice (some ⟨g,0,none⟩) (slopesS m.knots).1.length c,.int .i64 (slopesS m.knots).2])∧w'.ownsRow u.heap.size 31 2 (.slice (some ⟨g,0,none⟩) (slopesS m.knots).1.length c) (slopesS m.knots).1.length (flatT (slopesS m.knots).1)∧Below u.heap.size u w'))
 obtain ⟨q,hq⟩:∃ q,(slopesS m.knots).2=q:=⟨_,rfl⟩
 rw [hq] at SL
 have QE:=Lib.hid (fun (h:e≠0)=>(by unfold endK;rw [if_pos h]:endK e m=(none,e)))
 have QS:=Lib.hid (fun (h:e=0) (h2:q≠0)=>(by unfold endK;rw [if_neg (by simp [h]),hq,if_pos h2]:endK e m=(none,q)))
 have QM:=Lib.hid (fun (h:e=0) (h2:q=0)=>(by unfold endK;rw [if_neg (by simp [h]),hq,if_neg (by simp [h2])]:endK e m=(some m,0)))
 have HM:=Lib.hid hm
 have HB:=Lib.hid hB
 have HG:=Lib.hid (And.intro hgm (And.intro hak has))
 clear hs hm hn hq hR h0 h1 hgm hak has
 by_cases he:e=0
 ·have k0:(e != 0)=false:=by simpa using he
  have k1:(e == 0)=true:=by simpa using he
  have k2:(e≠0)=False:=by simpa using he
  rw [newE11]
  refine wp_seq_k (fun K11 hK11=>?_)
  have HK11:=Lib.hid hK11
  clear hK11
  conv=>arg 2;whnf
  go_wp2
  refine HK11.out _ _ ?_
  rw [newE12]
  refine wp_seq_k (fun K12 hK12=>?_)
  have HK12:=Lib.hid hK12
  clear hK12
  conv=>arg 2;whnf
  go_wp2_with fail
  with_reducible refine (SL.out _ HB.out HM.out.kn).mono ?_
  rintro e_ w1 ⟨gx,cx,rfl,hox,hb1⟩
  by_cases hq0:q=0
  ·have j0:(q != 0)=false:=by simpa using hq0
   go_wp2
   refine HK12.out _ _ ?_
   conv=>arg 2;whnf
   go_wp2
   go_ret2
   rw [QM.out he hq0]
   exact ⟨_,rfl,⟨_,_,_,_,_,rfl,HM.out.below hb1,HG.out.1,HG.out.2.1,HG.out.2.2⟩,Hand.stepB hb1 HB.out (Nat.le_refl _)⟩
  ·have j0:(q != 0)=true:=by simpa using hq0
   go_wp2
   go_ret2
   rw [QS.out he hq0]
   exact ⟨_,rfl,rfl,Hand.stepB hb1 HB.out (Nat.le_refl _)⟩
 ·have k0:(e != 0)=true:=by simpa using he
  rw [newE11]
  refine wp_seq_k (fun K11 hK11=>?_)
  have HK11:=Lib.hid hK11
  clear hK11
  conv=>arg 2;whnf
  go_wp2_with fail
  go_region_held3 (fun w_=>w_.cell? ⟨gs,0,none⟩=some (.int .i64 e)) (first|exact c0|go_keep) (first|fail)
  go_wp2
  go_ret2
  rw [QE.out he]
  exact ⟨_,rfl,rfl,hB.drew⟩
theorem ent_at:Ent 39:=enters_of Try.func39 (by kernel_rfl) rfl
theorem at_no (g:Nat) (k:Kn) (s t:Rt) (e0:Int) (w:World) (hx:w.heap[g]?=some (stp e0)) (he:(e0 == 0)=false) :
  Calls Try.prog 39 #[kv k,rv s,rv t,.pointer (some ⟨g,0,none⟩)] w fun e w'=>e = .returned (kv ((0,0),(0,0)))∧Below w.heap.size w w':=by
 obtain ⟨c0,f0⟩:=Hand.hc1 hx
 obtain ⟨z0,z1,z2,y0,y1⟩:=Hand.hz hx
 have y2:(g=w.heap.size+1+1)=False:=eq_false (by omega)
 have y3:(g=w.heap.size+1+1+1)=False:=eq_false (by omega)
 have he2:(e0 != 0)=true:=by simpa using he
 clear hx
 go_enter Try.func39,Try.ntmps39
 go_wp2
 refine bodyPost_ret (results_cell_row rfl _ _ (w.heap.size+1+1+1) 35 #[.int .i64 0,.int .i64 0,.int .i64 0,.int .i64 0] (0,0) _ rfl ?_ Try.underlying35 rfl (by kernel_rfl)) rfl ⟨rfl,?_⟩
 ·exact Hand.q3 _ _ _ (by simp)
 ·exact ((((Below.refl _ _).alloc (Nat.le_refl _) _).alloc (by simp) _).alloc (by simp;omega) _).alloc (by simp;omega) _
theorem at_yes (g:Nat) (k:Kn) (s t:Rt) (x y z:Int) (w:World) (hx:w.heap[g]?=some (stp 0))
  (m1:∀ w,Calls Try.prog 40 #[kv k,rv s,rv t] w fun e w'=>e = .returned (.tuple #[.agg #[.int .i64 x,.int .i64 y],.int .i64 z])∧Below w.heap.size w w') :
  Calls Try.prog 39 #[kv k,rv s,rv t,.pointer (some ⟨g,0,none⟩)] w fun e w'=>e = .returned (kv (t,(x,y)))∧w'.heap[g]?=some (stp z)∧Fx g w w':=by
 obtain ⟨c0,f0⟩:=Hand.hc1 hx
 obtain ⟨z0,z1,z2,y0,y1⟩:=Hand.hz hx
 have y2:(g=w.heap.size+1+1)=False:=eq_false (by omega)
 have y3:(g=w.heap.size+1+1+1)=False:=eq_false (by omega)
 have HX:=Lib.hid hx
 have g_S:=hx
 have hB:=Below.refl w.heap.size w
 have M1:=Lib.hid m1
 clear hx m1 c0 f0 z0 z1 z2 y0 y1
 go_enter Try.func39,Try.ntmps39
 obtain ⟨z_S,z1_S,z2_S,y0_S,y1_S⟩:=Hand.hz g_S
 obtain ⟨c_S_0,f_S_0⟩:=Hand.hc1 g_S
 have zw:w.heap.size≤w.heap.size:=hB.size
 have HG:=Lib.hid (And.intro g_S (hB))
 clear g_S hB
 go_wp2_with fail
 with_reducible refine (M1.out _).mono ?_
 rintro e w1 ⟨rfl,hb1⟩
 obtain ⟨g_S,hB⟩:=HG.out
 have h_S:w1.heap[g]?=some (.cells #[.int .i64 0] 72 (0,0)):=by
  refine Hand.kb hb1 ?_;first|with_reducible exact g_S|(simp (disch:=try exact Hand.z) only [Hand.q2,Hand.q1,Hand.q5,Hand.q6,Hand.q4,Hand.q3,g_S]<;>rfl)
 have h_K:w1.heap[w.heap.size]?=some (.cells #[.int .i64 k.1.1,.int .i64 k.1.2,.int .i64 k.2.1,.int .i64 k.2.2] 35 (0,0)):=by
  exact Hand.kb hb1 Hand.k
 have h_L:w1.heap[w.heap.size+1]?=some (.cells #[.int .i64 s.1,.int .i64 s.2] 31 (0,0)):=by
  exact Hand.kb hb1 Hand.k
 have h_T:w1.heap[w.heap.size+1+1]?=some (.cells #[.int .i64 t.1,.int .i64 t.2] 31 (0,0)):=by
  exact Hand.kb hb1 Hand.k
 have h_R:w1.heap[w.heap.size+1+1+1]?=some (.cells #[.int .i64 0,.int .i64 0,.int .i64 0,.int .i64 0] 35 (0,0)):=by
  exact Hand.kb hb1 Hand.k
 have h_X:w1.heap[w.heap.size+1+1+1+1]?=some (.cells #[.int .i64 0,.int .i64 0] 31 (0,0)):=by
  exact Hand.kb hb1 Hand.k
 have hB':Below w.heap.size w w1:=Hand.stepB hb1 Hand.b (Nat.le_refl _)
 clear HG hB g_S zw z_S z1_S z2_S y0_S y1_S c_S_0 f_S_0
 clear hb1
 have g_S:=h_S
 have g_K:=h_K
 have g_L:=h_L
 have g_T:=h_T
 have g_R:=h_R
 have g_X:=h_X
 have hB:=hB'
 clear hB' h_S h_K h_L h_T h_R h_X
 obtain ⟨z_S,z1_S,z2_S,y0_S,y1_S⟩:=Hand.hz g_S
 obtain ⟨c_S_0,f_S_0⟩:=Hand.hc1 g_S
 obtain ⟨z_K,z1_K,z2_K,y0_K,y1_K⟩:=Hand.hz g_K
 obtain ⟨c_K_0,f_K_0,c_K_1,f_K_1,c_K_2,f_K_2,c_K_3,f_K_3⟩:=Hand.hc4 g_K
 obtain ⟨z_L,z1_L,z2_L,y0_L,y1_L⟩:=Hand.hz g_L
 obtain ⟨c_L_0,f_L_0,c_L_1,f_L_1⟩:=Hand.hc2 g_L
 obtain ⟨z_T,z1_T,z2_T,y0_T,y1_T⟩:=Hand.hz g_T
 obtain ⟨c_T_0,f_T_0,c_T_1,f_T_1⟩:=Hand.hc2 g_T
 obtain ⟨z_R,z1_R,z2_R,y0_R,y1_R⟩:=Hand.hz g_R
 obtain ⟨c_R_0,f_R_0,c_R_1,f_R_1,c_R_2,f_R_2,c_R_3,f_R_3⟩:=Hand.hc4 g_R
 obtain ⟨z_X,z1_X,z2_X,y0_X,y1_X⟩:=Hand.hz g_X
 obtain ⟨c_X_0,f_X_0,c_X_1,f_X_1⟩:=Hand.hc2 g_X
 have zw:w.heap.size≤w1.heap.size:=hB.size
 have HG:=Lib.hid (And.intro g_S (And.intro g_K (And.intro g_L (And.intro g_T (And.intro g_R (And.intro g_X (hB)))))))
 clear g_S g_K g_L g_T g_R g_X hB
 have hgs:g<w.heap.size:=by have:=(Hand.hz HX.out).1;exact this
 have q1:(g=w.heap.size+1+1+1+1)=False:=eq_false (by omega)
 have q2:(w.heap.size+1+1+1+1=g)=False:=eq_false (by omega)
 have q3:(w.heap.size+1+1+1=g)=False:=eq_false (by omega)
 have q4:(g=w.heap.size+1+1+1)=False:=eq_false (by omega)
 have q5:(g=w.heap.size+1+1)=False:=eq_false (by omega)
 go_wp2
 obtain ⟨g_S,g_K,g_L,g_T,g_R,g_X,hB⟩:=HG.out
 refine bodyPost_ret (results_cell_row rfl _ _ (w.heap.size+1+1+1) 35 #[.int .i64 t.1,.int .i64 t.2,.int .i64 x,.int .i64 y] (0,0) _ rfl ?_ Try.underlying35 rfl (by kernel_rfl)) rfl ⟨rfl,?_,?_⟩
 ·simp (disch:=omega) only [Hand.q1,Hand.q2,g_R];rfl
 ·simp (disch:=omega) only [Hand.q1,Hand.q2,g_S];rfl
 ·repeat (with_reducible first|exact Fx.of_below hB|(refine Fx.setNew ?_ (by omega) _ _)|(refine Fx.setCell ?_ _ _))
theorem at_any (g:Nat) (k:Kn) (s t:Rt) (e:Int) (w:World) (hx:w.heap[g]?=some (stp e)) (h1:R64 k.1) (h2:R64 k.2) (h3:R64 s) (h4:R64 t) :
  Calls Try.prog 39 #[kv k,rv s,rv t,.pointer (some ⟨g,0,none⟩)] w fun e_ w'=>e_ = .returned (kv (atS e k s t).1)∧w'.heap[g]?=some (stp (atS e k s t).2)∧Fx g w w':=by
 unfold atS
 by_cases h:e=0
 ·subst h
  rw [if_pos rfl]
  exact at_yes g k s t _ _ _ w hx (fun w=>along_any k s t w h1 h2 h3 h4)
 ·rw [if_neg h]
  refine (at_no g k s t e w hx (by simpa using h)).mono ?_
  rintro e_ w' ⟨rfl,hb⟩
  exact ⟨rfl,Hand.kb hb hx,Fx.of_below hb⟩
structure F2 (g h:Nat) (w w':World):Prop where
 os:w'.os=w.os
 tape:w'.tape=w.tape
 output:w'.output=w.output
 size:w.heap.size≤w'.heap.size
 block:∀ k,k<w.heap.size → k≠g → k≠h → w'.heap[k]?=w.heap[k]?
theorem F2.of_fx {g:Nat} {w w':World} (h:Nat) (f:Fx g w w'):F2 g h w w':=⟨f.os,f.tape,f.output,f.size,fun k hk h1 _=>f.block k hk h1⟩
theorem F2.refl (g h:Nat) (w:World):F2 g h w w:=⟨rfl,rfl,rfl,Nat.le_refl _,fun _ _ _ _=>rfl⟩
theorem F2.step {g h:Nat} {a w w':World} (f:F2 g h a w) (k:Fx h w w'):F2 g h a w' :=
 ⟨k.os.trans f.os,k.tape.trans f.tape,k.output.trans f.output,Nat.le_trans f.size k.size,fun i hi h1 h2=>(k.block i (Nat.lt_of_lt_of_le hi f.size) h2).trans (f.block i hi h1 h2)⟩
theorem F2.stepl {g h:Nat} {a w w':World} (f:F2 g h a w) (k:Fx g w w'):F2 g h a w' :=
 ⟨k.os.trans f.os,k.tape.trans f.tape,k.output.trans f.output,Nat.le_trans f.size k.size,fun i hi h1 h2=>(k.block i (Nat.lt_of_lt_of_le hi f.size) h1).trans (f.block i hi h1 h2)⟩
theorem F2.alloc {g h:Nat} {w W:World} (f:F2 g h w W) (o:Obj):F2 g h w (W.alloc o) :=
 ⟨f.os,f.tape,f.output,by have:=f.size;rw [World.size_alloc];omega,fun i hi h1 h2=>by rw [Hand.q4 _ _ _ (by have:=f.size;omega)];exact f.block i hi h1 h2⟩
theorem F2.drew {g h:Nat} {w W:World} (f:F2 g h w W):F2 g h w W.drew:=⟨f.os,f.tape,f.output,f.size,f.block⟩
theorem F2.set {g h:Nat} {w W:World} (f:F2 g h w W) (b j:Nat) (u:Value) (hb:b=g ∨ b=h ∨ w.heap.size≤b):F2 g h w (W.setCell ⟨b,j,none⟩ u):=by
 have b0:=(Below.refl 0 W).setCell (p:=⟨b,j,none⟩) (Nat.zero_le _) u
 refine ⟨b0.os.trans f.os,b0.tape.trans f.tape,b0.output.trans f.output,Nat.le_trans f.size b0.size,fun i hi h1 h2=>?_⟩
 rw [Hand.q2 _ _ _ _ _ (by rcases hb with e|e|e<;>omega)]
 exact f.block i hi h1 h2
theorem F2.cell {g h:Nat} {w w':World} (f:F2 g h w w') (p:Addr) (hp:p.block<w.heap.size) (h1:p.block≠g) (h2:p.block≠h):w'.cell? p=w.cell? p:=by
 unfold World.cell?
 rw [f.block _ hp h1 h2]
theorem F2.kb {g h k:Nat} {w w':World} (f:F2 g h w w') {o:Obj} (hk:w.heap[k]?=some o) (h1:k≠g) (h2:k≠h):w'.heap[k]?=some o:=by rw [f.block k (Hand.hz hk).1 h1 h2];exact hk
theorem F2.below {g h B:Nat} {a w w':World} (f:F2 g h w w') (hB:Below B a w) (hg:B≤g) (hh:B≤h) (hs:B≤w.heap.size):Below B a w' :=
 hB.trans ⟨f.os,f.tape,f.output,f.size,fun k hk=>f.block k (by omega) (by omega) (by omega)⟩
theorem RtA.f2 {g h:Nat} {w w':World} {ad:Addr} {l:List Rt} (r:RtA w ad l) (f:F2 g h w w') (h1:ad.block≠g) (h2:ad.block≠h):RtA w' ad l:=fun j hj=>by
 obtain ⟨a,b⟩:=r j hj
 have eb:(ad.add (j*2)).block=ad.block:=by unfold Addr.add;split<;>rfl
 have st:∀ p v,p.block=ad.block → w.cell? p=some v → w'.cell? p=some v:=fun p v e hp=>(f.cell p (World.block_lt_of_cell? w _ hp) (by rw [e];exact h1) (by rw [e];exact h2)).trans hp
 exact ⟨st _ _ eb a,st _ _ eb b⟩
theorem KnA.f2 {g h:Nat} {w w':World} {ad:Addr} {l:List Kn} (r:KnA w ad l) (f:F2 g h w w') (h1:ad.block≠g) (h2:ad.block≠h):KnA w' ad l:=fun j hj=>by
 obtain ⟨a,b,c,d⟩:=r j hj
 have eb:(ad.add (j*4)).block=ad.block:=by unfold Addr.add;split<;>rfl
 have st:∀ p v,p.block=ad.block → w.cell? p=some v → w'.cell? p=some v:=fun p v e hp=>(f.cell p (World.block_lt_of_cell? w _ hp) (by rw [e];exact h1) (by rw [e];exact h2)).trans hp
 exact ⟨st _ _ eb a,st _ _ eb b,st _ _ eb c,st _ _ eb d⟩
theorem KnA.zero {w:World} {ad:Addr} {k:Kn} {ks:List Kn} (h:KnA w ad (k :: ks)):w.cell? ad=some (.int .i64 k.1.1)∧w.cell? ⟨ad.block,ad.off+1,none⟩=some (.int .i64 k.1.2)∧w.cell? ⟨ad.block,ad.off+2,none⟩=some (.int .i64 k.2.1)∧w.cell? ⟨ad.block,ad.off+3,none⟩=some (.int .i64 k.2.2):=by
 have:=h 0 (by simp)
 rw [Nat.zero_mul,show ad.add 0=ad from rfl] at this
 exact this
theorem RtA.zero {w:World} {ad:Addr} {k:Rt} {ks:List Rt} (h:RtA w ad (k :: ks)):w.cell? ad=some (.int .i64 k.1)∧w.cell? ⟨ad.block,ad.off+1,none⟩=some (.int .i64 k.2):=by
 have:=h 0 (by simp)
 rw [Nat.zero_mul,show ad.add 0=ad from rfl] at this
 exact this
theorem atS_R (e:Int) (k:Kn) (s t:Rt) (h:R64 t):R64 (atS e k s t).1.1∧R64 (atS e k s t).1.2:=by
 unfold atS
 split
 ·exact ⟨h,by unfold alongS;exact do_R add_R _ _ _⟩
 ·exact ⟨R64_0,R64_0⟩
theorem R64_w (n:Int) (h0:-9223372036854775808≤n) (h1:n≤9223372036854775807):R64 ((n,1):Rt):=⟨h0,h1,by dsimp only;decide,by dsimp only;decide⟩
theorem new_line (w:World) (k0:Kn) (s0:Rt) (ks:List Kn) (ss:List Rt) {s1 s2 s3 s4 s6 s9 s10 s11 s12 s13 s14 s15 s16 s17 s18 s19 s20 s21 s22 s23 s24 s25 s26 s27 s28 s29 s30 s31 s32 s33 s34 s35 s36 s37 s38 s39 s40 s41 s42 s43 s44 s45 s46 s47 s48 s49 s50 s51 s52 s53 s54 s55 s56 s57 s58 s59 s60 s61 s62 s63 s64 s65 s66 s67 s68 s69 s70 s71 s72 s73 s74 s75 s76 s77 s78 s79 s80 s81 s82 s83 s84 s85 s86 s87 s88 s89 s90 s91 s92 s93 s94 s95 s96 s97 s98 s99 s100 s101 s102 s103 s104 s105 s106 s107 s108 s109 s110 s111 s112 s113 s114 s115 s116 s117 s118 s119 s120 s121 s122 s123 s124 s125 s126 s127 s128 s129 s130 s131 s132 s133 s134 s135 s136 s137 s138 s139 s140 s141 s142 s143 s144 s145 s146 s147 s148 s149 s150 s151 s152 s153 s154 s155 s156 s157 s158 s159 s160 s161 s162 s163 s164 s165 s166 s167 s168 s169:Value} {gm ga:Nat} {ad as_:Addr} {n cap na ca cs:Nat} {W:World} (hm:W.heap[gm]?=some (.cells #[.slice none 0 0,.slice (some as_) 1 cs,.int .i64 0] 70 (0,0))) (hK:KnA W ad (k0 :: ks)) (hS:RtA W ⟨ga,0,none⟩ (s0 :: ss)) (hT:RtA W as_ [s0]) (hB:Below w.heap.size w W) (hgm:w.heap.size≤gm) (has:w.heap.size≤as_.block) (n1:gm≠ad.block) (n2:gm≠ga) (n3:gm≠as_.block) (h0:0<n) (h1:0<na) (r1:R64 k0.1) (r2:R64 k0.2) (r3:R64 s0) :
  newT7.wp Try.prog (bodyPost Try.prog Try.f13 (NewQ w (endK (lineS k0 s0).2 ⟨(lineS k0 s0).1,[s0],0⟩))) ⟨#[.slice (some ad) n cap,s1,s2,s3,s4,.slice (some ⟨ga,0,none⟩) na ca,s6,.pointer (some ⟨gm,0,none⟩),.slice none 0 0,s9,s10,s11,s12,s13,s14,s15,s16,s17,s18,s19,s20,s21,s22,s23,s24,s25,s26,s27,s28,s29,s30,s31,s32,s33,s34,s35,s36,s37,s38,s39,s40,s41,s42,s43,s44,s45,s46,s47,s48,s49,s50,s51,s52,s53,s54,s55,s56,s57,s58,s59,s60,s61,s62,s63,s64,s65,s66,s67,s68,s69,s70,s71,s72,s73,s74,s75,s76,s77,s78,s79,s80,s81,s82,s83,s84,s85,s86,s87,s88,s89,s90,s91,s92,s93,s94,s95,s96,s97,s98,s99,s100,s101,s102,s103,s104,s105,s106,s107,s108,s109,s110,s111,s112,s113,s114,s115,s116,s117,s118,s119,s120,s121,s122,s123,s124,s125,s126,s127,s128,s129,s130,s131,s132,s133,s134,s135,s136,s137,s138,s139,s140,s141,s142,s143,s144,s145,s146,s147,s148,s149,s150,s151,s152,s153,s154,s155,s156,s157,s158,s159,s160,s161,s162,s163,s164,s165,s166,s167,s168,s169],[]⟩ W:=by
 obtain ⟨⟨a1,a2⟩,a3,a4⟩:=k0
 obtain ⟨q1,q2⟩:=s0
 obtain ⟨⟨⟨⟨u1,u2⟩,u3,u4⟩,e1⟩,hX⟩:∃ X,atS 0 ((a1,a2),(a3,a4)) (q1,q2) (0,1)=X:=⟨_,rfl⟩
 obtain ⟨⟨⟨⟨v1,v2⟩,v3,v4⟩,e2⟩,hY⟩:∃ X,atS e1 ((a1,a2),(a3,a4)) (q1,q2) (1,1)=X:=⟨_,rfl⟩
 have hL:lineS ((a1,a2),(a3,a4)) (q1,q2)=([((u1,u2),(u3,u4)),((v1,v2),(v3,v4))],e2):=by unfold lineS;dsimp only;rw [hX];dsimp only;rw [hY]
 rw [hL]
 have rX:=atS_R 0 ((a1,a2),(a3,a4)) (q1,q2) (0,1) (R64_w 0 (by decide) (by decide))
 rw [hX] at rX
 have rY:=atS_R e1 ((a1,a2),(a3,a4)) (q1,q2) (1,1) (R64_w 1 (by decide) (by decide))
 rw [hY] at rY
 have HR:=Lib.hid (show KnR [((u1,u2),(u3,u4)),((v1,v2),(v3,v4))] from by intro k hk;simp only [List.mem_cons,List.not_mem_nil,or_false] at hk;rcases hk with rfl|rfl;exact rX;exact rY)
 have MA:=Lib.hid (fun (u:World) (h:u.heap[W.heap.size]?=some (stp 0))=>(by have:=at_any W.heap.size ((a1,a2),(a3,a4)) (q1,q2) (0,1) 0 u h r1 r2 r3 (R64_w 0 (by decide) (by decide));rw [hX] at this;exact this:Calls Try.prog 39 #[.agg #[.int .i64 a1,.int .i64 a2,.int .i64 a3,.int .i64 a4],.agg #[.int .i64 q1,.int .i64 q2],.agg #[.int .i64 0,.int .i64 1],.pointer (some ⟨W.heap.size,0,none⟩)] u fun e_ w'=>e_ = .returned (.agg #[.int .i64 u1,.int .i64 u2,.int .i64 u3,.int .i64 u4])∧w'.heap[W.heap.size]?=some (stp e1)∧Fx W.heap.size u w'))
 have MB:=Lib.hid (fun (u:World) (h:u.heap[W.heap.size]?=some (stp e1))=>(by have:=at_any W.heap.size ((a1,a2),(a3,a4)) (q1,q2) (1,1) e1 u h r1 r2 r3 (R64_w 1 (by decide) (by decide));rw [hY] at this;exact this:Calls Try.prog 39 #[.agg #[.int .i64 a1,.int .i64 a2,.int .i64 a3,.int .i64 a4],.agg #[.int .i64 q1,.int .i64 q2],.agg #[.int .i64 1,.int .i64 1],.pointer (some ⟨W.heap.size,0,none⟩)] u fun e_ w'=>e_ = .returned (.agg #[.int .i64 v1,.int .i64 v2,.int .i64 v3,.int .i64 v4])∧w'.heap[W.heap.size]?=some (stp e2)∧Fx W.heap.size u w'))
 have M0:=Lib.hid (fun u=>whole_any 0 u)
 have M1:=Lib.hid (fun u=>whole_any 1 u)
 have gmz:=(Hand.hz hm).1
 have HC:=Lib.hid (fun (w_:World) (h:F2 W.heap.size gm W w_)=>(by obtain ⟨x0,x1,x2,x3⟩:=(hK.f2 h (by have:=World.block_lt_of_cell? W _ hK.zero.1;omega) (Ne.symm n1)).zero;obtain ⟨y0,y1⟩:=(hS.f2 h (by have:=World.block_lt_of_cell? W _ hS.zero.1;dsimp only at this ⊢;omega) (by dsimp only;exact Ne.symm n2)).zero;simp only [Nat.zero_add] at y1;exact ⟨h,x0,x1,x2,x3,y0,y1⟩:F2 W.heap.size gm W w_∧w_.cell? ad=some (.int .i64 a1)∧w_.cell? ⟨ad.block,ad.off+1,none⟩=some (.int .i64 a2)∧w_.cell? ⟨ad.block,ad.off+2,none⟩=some (.int .i64 a3)∧w_.cell? ⟨ad.block,ad.off+3,none⟩=some (.int .i64 a4)∧w_.cell? ⟨ga,0,none⟩=some (.int .i64 q1)∧w_.cell? ⟨ga,1,none⟩=some (.int .i64 q2)))
 have HT:=Lib.hid (fun (w_:World) (h:F2 W.heap.size gm W w_)=>hT.f2 h (by have:=World.block_lt_of_cell? W _ hT.zero.1;omega) (Ne.symm n3))
 have HB:=Lib.hid hB
 have HG:=Lib.hid (And.intro hgm has)
 have hz0:0<W.heap.size:=by omega
 have i1:((0:Int)<(n:Int))=True:=eq_true (by omega)
 have i2:((0:Int)<(na:Int))=True:=eq_true (by omega)
 have i3:(0<n)=True:=eq_true h0
 have i4:(0<na)=True:=eq_true h1
 have mg:(gm=W.heap.size)=False:=eq_false (by omega)
 have mg2:(W.heap.size=gm)=False:=eq_false (by omega)
 obtain ⟨m0,fm0,m1,fm1,m2,fm2⟩:=Hand.hc3 hm
 have gBW:=Lib.hid hm
 clear hX hY hL rX rY hK hS hT hB hm r1 r2 r3 hgm has n1 n2 n3
 rw [newE7]
 refine wp_seq_k (fun K7 hK7=>?_)
 have HK7:=Lib.hid hK7
 clear hK7
 conv=>arg 2;whnf
 go_wp2
 refine HK7.out _ _ ?_
 rw [newE8]
 refine wp_seq_k (fun K8 hK8=>?_)
 have HK8:=Lib.hid hK8
 clear hK8
 conv=>arg 2;whnf
 go_wp2
 refine HK8.out _ _ ?_
 rw [newE9]
 refine wp_seq_k (fun K9 hK9=>?_)
 have HK9:=Lib.hid hK9
 clear hK9
 conv=>arg 2;whnf
 go_wp2
 refine HK9.out _ _ ?_
 obtain ⟨V,hV⟩:∃ V_,V_=(W.setCell ⟨gm,2,none⟩ (.int .i64 0)).alloc (stp 0):=⟨_,rfl⟩
 try rw [← hV]
 have gS:V.heap[W.heap.size]?=some (stp 0):=by rw [hV];exact Hand.q3 _ _ _ (by simp [World.setCell])
 have gM:V.heap[gm]?=some (.cells #[.slice none 0 0,.slice (some as_) 1 cs,.int .i64 0] 70 (0,0)):=by rw [hV,Hand.q4 _ _ _ (by simp only [World.size_setCell];omega),Hand.q1,gBW.out];rfl
 have gF:F2 W.heap.size gm W V:=by rw [hV];exact ((F2.refl _ _ _).set _ _ _ (Or.inr (Or.inl rfl))).alloc _
 have gz:W.heap.size<V.heap.size:=(Hand.hz gS).1
 obtain ⟨s0_,fs0_⟩:=Hand.hc1 gS
 have BV:=gF
 clear hV
 rw [newE10]
 refine wp_seq_k (fun K10 hK10=>?_)
 have HK10:=Lib.hid hK10
 clear hK10
 conv=>arg 2;whnf
 have HEN:=ent_at
 go_wp2_with fail
 go_region_held3 (fun w_=>F2 W.heap.size gm W w_∧w_.cell? ad=some (.int .i64 a1)∧w_.cell? ⟨ad.block,ad.off+1,none⟩=some (.int .i64 a2)∧w_.cell? ⟨ad.block,ad.off+2,none⟩=some (.int .i64 a3)∧w_.cell? ⟨ad.block,ad.off+3,none⟩=some (.int .i64 a4)∧w_.cell? ⟨ga,0,none⟩=some (.int .i64 q1)∧w_.cell? ⟨ga,1,none⟩=some (.int .i64 q2)) (first|(refine HC.out _ ?_;repeat (with_reducible first|assumption|apply F2.drew|apply F2.alloc|refine F2.set ?_ _ _ _ (by first|exact Or.inl rfl|exact Or.inr (Or.inl rfl)|(refine Or.inr (Or.inr ?_);first|omega|(simp only [World.size_alloc,World.size_drew,World.size_setCell];omega)))))) (first|(go_at_call 41;((with_reducible refine (M0.out _).mono ?_);rintro e w4 ⟨rfl,hb_w4⟩;have BB:F2 W.heap.size gm W w4:=F2.step (by repeat (with_reducible first|assumption|apply F2.drew|apply F2.alloc|refine F2.set ?_ _ _ _ (by first|exact Or.inl rfl|exact Or.inr (Or.inl rfl)|(refine Or.inr (Or.inr ?_);first|omega|(simp only [World.size_alloc,World.size_drew,World.size_setCell];omega))))) (Fx.of_below hb_w4);have zB_w4:=BB.size;have gS_w4:=Hand.kb hb_w4 (by first|exact gS|exact gS_w5|exact gS_w4);have gM_w4:=Hand.kb hb_w4 (by first|exact gM_w5|exact gM_w4|exact gM)))|(go_at_fn 39;((with_reducible refine (MA.out _ (by first|assumption|exact gS_w6|exact gS_w4)).mono ?_);rintro e w5 ⟨rfl,gS_w5,hF_w5⟩;have BB:F2 W.heap.size gm W w5:=F2.stepl (by repeat (with_reducible first|assumption|apply F2.drew|apply F2.alloc|refine F2.set ?_ _ _ _ (by first|exact Or.inl rfl|exact Or.inr (Or.inl rfl)|(refine Or.inr (Or.inr ?_);first|omega|(simp only [World.size_alloc,World.size_drew,World.size_setCell];omega))))) hF_w5;have zB_w5:=BB.size;have gM_w5:=hF_w5.kb (by first|exact gM_w6|exact gM_w5|exact gM_w4|exact gM) (by omega);obtain ⟨mm0,fmm0,mm1,fmm1,mm2,fmm2⟩:=Hand.hc3 gM_w5;have gmz_w5:=(Hand.hz gM_w5).1;have mgx_w5:(gm=w5.heap.size)=False:=eq_false (by omega)))|(go_at_call 41;((with_reducible refine (M1.out _).mono ?_);rintro e w6 ⟨rfl,hb_w6⟩;have BB:F2 W.heap.size gm W w6:=F2.step (by repeat (with_reducible first|assumption|apply F2.drew|apply F2.alloc|refine F2.set ?_ _ _ _ (by first|exact Or.inl rfl|exact Or.inr (Or.inl rfl)|(refine Or.inr (Or.inr ?_);first|omega|(simp only [World.size_alloc,World.size_drew,World.size_setCell];omega))))) (Fx.of_below hb_w6);have zB_w6:=BB.size;have gS_w6:=Hand.kb hb_w6 (by first|exact gS|exact gS_w5|exact gS_w4);have gM_w6:=Hand.kb hb_w6 (by first|exact gM_w5|exact gM_w4|exact gM)))|(go_at_fn 39;((with_reducible refine (MB.out _ (by first|assumption|exact gS_w6|exact gS_w4)).mono ?_);rintro e w7 ⟨rfl,gS_w7,hF_w7⟩;have BB:F2 W.heap.size gm W w7:=F2.stepl (by repeat (with_reducible first|assumption|apply F2.drew|apply F2.alloc|refine F2.set ?_ _ _ _ (by first|exact Or.inl rfl|exact Or.inr (Or.inl rfl)|(refine Or.inr (Or.inr ?_);first|omega|(simp only [World.size_alloc,World.size_drew,World.size_setCell];omega))))) hF_w7;have zB_w7:=BB.size;have gM_w7:=hF_w7.kb (by first|exact gM_w6|exact gM_w5|exact gM_w4|exact gM) (by omega);obtain ⟨mm0,fmm0,mm1,fmm1,mm2,fmm2⟩:=Hand.hc3 gM_w7;have gmz_w7:=(Hand.hz gM_w7).1;have mgx_w7:(gm=w7.heap.size)=False:=eq_false (by omega))))
 refine HK10.out _ _ ?_
 refine new_c w ⟨[((u1,u2),(u3,u4)),((v1,v2),(v3,v4))],[(q1,q2)],0⟩ e2 (ak:=⟨w7.heap.size,0,none⟩) (as_:=as_) (ck:=2) (cs:=cs) ⟨?_,?_,?_,(by show 2≤2∧2≤maxLen;unfold maxLen;omega)⟩ ?_ ?_ HG.out.1 ?_ HG.out.2 HR.out (Nat.zero_lt_succ _) (by show 2≤66;decide)
 ·rw [Hand.q4 _ _ _ (by simp only [World.size_setCell];omega),Hand.q1,gM_w7];rfl
 ·exact own_kna (base:=0) (e:=35) (n:=2) (cap:=2) ⟨rfl,.inr ⟨_,_,_,rfl,Nat.zero_le _,Hand.q3 _ _ _ (by simp only [World.size_setCell]),by decide,by decide,rfl,rfl⟩⟩
 ·exact HT.out _ ((BB.set _ _ _ (Or.inr (Or.inl rfl))).alloc _)
 ·rw [Hand.q4 _ _ _ (by have:=(Hand.hz gS_w7).1;simp only [World.size_setCell];omega),Hand.q2 _ _ _ _ _ (by omega),gS_w7]
 ·exact F2.below ((BB.set _ _ _ (Or.inr (Or.inl rfl))).alloc _) HB.out HB.out.size HG.out.1 HB.out.size
 ·have:=HB.out.size;show _≤w7.heap.size;omega
theorem growK (n:Nat) (h0:0<n) (h1:n≤1000000) (w:World) :
  Calls Try.prog 85 #[.slice none 0 0,.int .i64 n] w fun e w'=>∃ g cap,e = .returned (.slice (some ⟨g,0,none⟩) 0 cap)∧w'.ownsRow w.heap.size 35 4 (.slice (some ⟨g,0,none⟩) 0 cap) 0 []∧Below w.heap.size w w':=by
 have p1:((n:Int)<0)=False:=eq_false (by omega)
 have p2:(0<(n:Int))=True:=eq_true (by omega)
 have w1:IntKind.i64.wrap (n:Int)=(n:Int):=by rw [IntKind.wrap_i64];omega
 have p3:(0<n)=True:=eq_true h0
 have w2:IntKind.i64.wrap ((n:Int) - 0)=(n:Int):=by rw [IntKind.wrap_i64];omega
 have hrz:∀ ty,(Builtin.append_ #[22,3] ty #[.slice none 0 0,.int .i64 (n:Int)]).run Try.prog w=_:=fun ty =>
  Lib.run_append_grow_zeros w 22 3 ty 35 _ (.agg #[.int .i64 0,.int .i64 0,.int .i64 0,.int .i64 0]) .i64 .i64 Try.underlying22 Try.underlying3 rfl rfl none 0 0 [] (run_firstCells_none w.drew 4 0 0 0) n h0 (by show 0<4;decide) (by omega) (by omega) (by show n*32≤_;omega)
   (by have:=growslice_fits (need:=n) (old:=0) (bytes:=32) (by omega) (by omega);rw [Nat.zero_add];exact this)
 simp only [Nat.zero_add] at hrz
 have hge:n≤grownCap w n 0 35:=grownCap_ge w _ _ _
 have hle:grownCap w n 0 35≤maxLen:=grownCap_le_maxLen w n 0 35 (by unfold maxLen;omega)
 obtain ⟨G,hG⟩:∃ G,G=grownCap w n 0 35:=⟨_,rfl⟩
 rw [← hG] at hrz hge hle
 have q1:(0:Int)≤(G:Int):=by omega
 have q2:((0:Int)≤(n:Int)):=by omega
 have hm:(G:Int)≤9223372036854775807:=by unfold maxLen at hle;omega
 clear hG
 go_enter Try.func85,Try.ntmps85
 go_wp2_with (at_builtin;refine Lib.wpList_append_run _ rfl _ _ _ _ rfl _ _ rfl rfl _ _ (hrz _) ?_)
 go_ret
 refine ⟨_,_,rfl,⟨rfl,.inr ⟨_,_,_,rfl,Nat.le_refl _,Hand.q3 _ _ _ rfl,Nat.zero_le _,hle,?_,rfl⟩⟩,(Below.refl w.heap.size w).drew.alloc (Nat.le_refl _) _⟩
 simp only [Array.size_append,List.size_toArray,List.length_nil,size_zeroCells]
 show n*4+(G - n)*4=G*4
 omega
theorem concatK (gq:Nat) (a1 a2 a3:Addr) (n1 n2 n3 c1 c2 c3 c:Nat) (x1 x2 x3:List Value) (w:World) (hq:w.heap[gq]?=some (.cells #[.slice (some a1) n1 c1,.slice (some a2) n2 c2,.slice (some a3) n3 c3] 22 (0,0)))
  (z1:0<n1) (z2:0<n2) (z3:0<n3) (b1:n1≤1000) (b2:n2≤300000) (b3:n3≤1000) (l1:x1.length=n1*4) (l2:x2.length=n2*4) (l3:x3.length=n3*4)
  (h1:∀ j u,x1[j]?=some u → w.cell? (a1.add j)=some u) (h2:∀ j u,x2[j]?=some u → w.cell? (a2.add j)=some u) (h3:∀ j u,x3[j]?=some u → w.cell? (a3.add j)=some u) (o1:∀ u ∈ x1,u.oneCell'=true) (o2:∀ u ∈ x2,u.oneCell'=true) (o3:∀ u ∈ x3,u.oneCell'=true) :
  Calls Try.prog 45 #[.slice (some ⟨gq,0,none⟩) 3 c] w fun e w'=>∃ g cap,e = .returned (.slice (some ⟨g,0,none⟩) (n1+n2+n3) cap)∧w'.ownsRow w.heap.size 35 4 (.slice (some ⟨g,0,none⟩) (n1+n2+n3) cap) (n1+n2+n3) (x1 ++ x2 ++ x3)∧Below w.heap.size w w':=by
 obtain ⟨q0,f0,q1,f1,q2,f2⟩:=Hand.hc3 hq
 have HQ:=Lib.hid hq
 have L1:=Lib.hid l1
 have L2:=Lib.hid l2
 have L3:=Lib.hid l3
 have H1:=Lib.hid h1
 have H2:=Lib.hid h2
 have H3:=Lib.hid h3
 have O1:=Lib.hid o1
 have O2:=Lib.hid o2
 have O3:=Lib.hid o3
 have NZ1:=Lib.hid z1
 have NZ2:=Lib.hid z2
 have NZ3:=Lib.hid z3
 have GR:=Lib.hid (growK (n1+n2+n3) (by omega) (by omega))
 clear hq l1 l2 l3 h1 h2 h3 o1 o2 o3
 have e1:IntKind.i64.wrap ((0:Int)+(n1:Int))=(n1:Int):=by rw [IntKind.wrap_i64];omega
 have e2:IntKind.i64.wrap ((n1:Int)+(n2:Int))=(n1:Int)+(n2:Int):=by rw [IntKind.wrap_i64];omega
 have e3:IntKind.i64.wrap ((n1:Int)+(n2:Int)+(n3:Int))=(n1:Int)+(n2:Int)+(n3:Int):=by rw [IntKind.wrap_i64];omega
 have e4:IntKind.i64.wrap (n1:Int)=(n1:Int):=by rw [IntKind.wrap_i64];omega
 have r1:((n1:Int)<0)=False:=eq_false (by omega)
 have r2:((n1:Int)+(n2:Int)<0)=False:=eq_false (by omega)
 have r3:((n1:Int)+(n2:Int)+(n3:Int)<0)=False:=eq_false (by omega)
 go_enter Try.func45,Try.ntmps45
 go_wp2_with fail
 go_loopw [3,11] (fun s i wr=>w=wr∧((i = .int .i64 0∧s = .int .i64 0) ∨ (i = .int .i64 1∧s = .int .i64 n1) ∨ (i = .int .i64 2∧s = .int .i64 ((n1:Int)+(n2:Int))) ∨ (i = .int .i64 3∧s = .int .i64 ((n1:Int)+(n2:Int)+(n3:Int))))) (fun _ i _=>3 - (intOf i).toNat)
 case atStart=>exact ⟨rfl,.inl ⟨rfl,rfl⟩⟩
 case round =>
  obtain ⟨rfl,hr⟩:=hrel
  rcases hr with ⟨rfl,rfl⟩|⟨rfl,rfl⟩|⟨rfl,rfl⟩|⟨rfl,rfl⟩
  ·go_wp2
   go_roundw
   case rel=>exact ⟨by first|trivial|rfl,.inr (.inl ⟨rfl,rfl⟩)⟩
   case measure=>simp [intOf]
  ·go_wp2
   go_roundw
   case rel=>exact ⟨by first|trivial|rfl,.inr (.inr (.inl ⟨rfl,rfl⟩))⟩
   case measure=>simp [intOf]
  ·go_wp2
   go_roundw
   case rel=>exact ⟨by first|trivial|rfl,.inr (.inr (.inr ⟨rfl,rfl⟩))⟩
   case measure=>simp [intOf]
  ·go_wp2_with fail
   have e6:(n1:Int)+(n2:Int)+(n3:Int)=((n1+n2+n3:Nat):Int):=by omega
   rw [e6]
   with_reducible refine (GR.out _).mono ?_
   rintro e w1 ⟨gg,cg,rfl,hown1,hb1⟩
   have HB1:=Lib.hid hb1
   have HOWN1:=Lib.hid hown1
   clear hb1 hown1 e6
   go_wp2_with fail
   clear q0 q1 q2 f0 f1 f2
   go_loopw [6,27] (fun v i wr=>Below w.heap.size w wr∧∃ g cap,((i = .int .i64 0∧v = .slice (some ⟨g,0,none⟩) 0 cap∧wr.ownsRow w.heap.size 35 4 v 0 []) ∨ (i = .int .i64 1∧v = .slice (some ⟨g,0,none⟩) n1 cap∧wr.ownsRow w.heap.size 35 4 v n1 x1) ∨ (i = .int .i64 2∧v = .slice (some ⟨g,0,none⟩) (n1+n2) cap∧wr.ownsRow w.heap.size 35 4 v (n1+n2) (x1 ++ x2)) ∨ (i = .int .i64 3∧v = .slice (some ⟨g,0,none⟩) (n1+n2+n3) cap∧wr.ownsRow w.heap.size 35 4 v (n1+n2+n3) (x1 ++ x2 ++ x3)))) (fun _ i _=>3 - (intOf i).toNat)
   case atStart=>exact ⟨HB1.out,gg,cg,.inl ⟨rfl,rfl,HOWN1.out⟩⟩
   case round =>
    obtain ⟨hBr,gv,cv,hr⟩:=hrel
    have HG:=Lib.hid hBr
    clear hBr
    obtain ⟨q0,f0,q1,f1,q2,f2⟩:=Hand.hc3 (Hand.kb HG.out HQ.out)
    rcases hr with ⟨rfl,rfl,hown⟩|⟨rfl,rfl,hown⟩|⟨rfl,rfl,hown⟩|⟨rfl,rfl,hown⟩
    ·have HOWN:=Lib.hid hown
     clear hown
     go_wp2_with (at_builtin;refine wpList_append_lies _ rfl (.tmp 31) (.tmp 32) 22 rfl w.heap.size 35 _ (.agg #[.int .i64 0,.int .i64 0,.int .i64 0,.int .i64 0]) 4 32 Try.underlying22 rfl rfl rfl rfl rfl (by decide) _ 0 [] rfl HOWN.out a1 n1 c1 x1 rfl L1.out (fun j u hj=>(HG.out.cell (World.block_lt_of_cell? w _ (H1.out j u hj))).trans (H1.out j u hj)) O1.out NZ1.out (by unfold maxLen;omega) (by omega) HG.out.size _ rfl ?_)
     intro g1 cap1 w2 hown2 hgrow2 hat2 hlt2
     have hB2:=HG.out.grown hgrow2 HG.out.size (by intro k hk;exact (HOWN.out.lt k hk).1)
     try simp only [Nat.zero_add,List.nil_append] at hown2
     clear hgrow2 hat2 hlt2
     go_wp2
     go_roundw
     case rel=>exact ⟨hB2,g1,cap1,.inr (.inl ⟨rfl,by first|rfl|simp only [Nat.zero_add],by first|exact hown2|(have h:=hown2;simp only [Nat.zero_add,List.nil_append] at h;exact h)|(rw [List.append_assoc];exact hown2)⟩)⟩
     case measure=>simp [intOf]
    ·have HOWN:=Lib.hid hown
     clear hown
     go_wp2_with (at_builtin;refine wpList_append_lies _ rfl (.tmp 31) (.tmp 32) 22 rfl w.heap.size 35 _ (.agg #[.int .i64 0,.int .i64 0,.int .i64 0,.int .i64 0]) 4 32 Try.underlying22 rfl rfl rfl rfl rfl (by decide) _ n1 x1 rfl HOWN.out a2 n2 c2 x2 rfl L2.out (fun j u hj=>(HG.out.cell (World.block_lt_of_cell? w _ (H2.out j u hj))).trans (H2.out j u hj)) O2.out NZ2.out (by unfold maxLen;omega) (by omega) HG.out.size _ rfl ?_)
     intro g1 cap1 w2 hown2 hgrow2 hat2 hlt2
     have hB2:=HG.out.grown hgrow2 HG.out.size (by intro k hk;exact (HOWN.out.lt k hk).1)
     skip
     clear hgrow2 hat2 hlt2
     go_wp2
     go_roundw
     case rel=>exact ⟨hB2,g1,cap1,.inr (.inr (.inl ⟨rfl,by first|rfl|simp only [Nat.zero_add],by first|exact hown2|(have h:=hown2;simp only [Nat.zero_add,List.nil_append] at h;exact h)|(rw [List.append_assoc];exact hown2)⟩))⟩
     case measure=>simp [intOf]
    ·have HOWN:=Lib.hid hown
     clear hown
     go_wp2_with (at_builtin;refine wpList_append_lies _ rfl (.tmp 31) (.tmp 32) 22 rfl w.heap.size 35 _ (.agg #[.int .i64 0,.int .i64 0,.int .i64 0,.int .i64 0]) 4 32 Try.underlying22 rfl rfl rfl rfl rfl (by decide) _ (n1+n2) (x1 ++ x2) rfl HOWN.out a3 n3 c3 x3 rfl L3.out (fun j u hj=>(HG.out.cell (World.block_lt_of_cell? w _ (H3.out j u hj))).trans (H3.out j u hj)) O3.out NZ3.out (by unfold maxLen;omega) (by omega) HG.out.size _ rfl ?_)
     intro g1 cap1 w2 hown2 hgrow2 hat2 hlt2
     have hB2:=HG.out.grown hgrow2 HG.out.size (by intro k hk;exact (HOWN.out.lt k hk).1)
     skip
     clear hgrow2 hat2 hlt2
     go_wp2
     go_roundw
     case rel=>exact ⟨hB2,g1,cap1,.inr (.inr (.inr ⟨rfl,by first|rfl|simp only [Nat.zero_add],by first|exact hown2|(have h:=hown2;simp only [Nat.zero_add,List.nil_append] at h;exact h)|(rw [List.append_assoc];exact hown2)⟩))⟩
     case measure=>simp [intOf]
    ·go_wp2
     go_ret
     exact ⟨gv,cv,rfl,hown,HG.out⟩
theorem cloneK (ad:Addr) (n cap:Nat) (xs:List Value) (w:World) (h0:0<n) (h1:n≤1000000) (hl:xs.length=n*4) (hc:∀ j u,xs[j]?=some u → w.cell? (ad.add j)=some u) (ho:∀ u ∈ xs,u.oneCell'=true) :
  Calls Try.prog 48 #[.slice (some ad) n cap] w fun e w'=>∃ g c,e = .returned (.slice (some ⟨g,0,none⟩) n c)∧w'.ownsRow w.heap.size 35 4 (.slice (some ⟨g,0,none⟩) n c) n xs∧Below w.heap.size w w':=by
 have q22:∀ (w:World) (a:Option Addr) (n c n' c':Nat),(binOp .eql 22 (.slice a n c) (.slice none n' c')).run Try.prog w = .ok (.bool a.isNone) w:=fun w a n c n' c'=>Lib.run_eql_slice_nil w _ _ a n c n' c' Try.underlying22
 have HL:=Lib.hid hl
 have HC:=Lib.hid hc
 have HO:=Lib.hid ho
 clear hl hc ho
 go_enter Try.func48,Try.ntmps48
 go_wp2_with (at_builtin;refine wpList_append_lies _ rfl _ _ 22 rfl w.heap.size 35 _ (.agg #[.int .i64 0,.int .i64 0,.int .i64 0,.int .i64 0]) 4 32 Try.underlying22 rfl rfl rfl rfl rfl (by decide) _ _ _ rfl (World.ownsRow_made w #[] 0 (Nat.le_refl _) (Nat.zero_le _) rfl) ad n cap xs rfl HL.out (fun j u hj=>by rw [World.cell?_alloc_lt _ _ _ (World.block_lt_of_cell? w _ (HC.out j u hj))];exact HC.out j u hj) HO.out h0 (by unfold maxLen;omega) (by omega) (by simp) _ rfl ?_)
 intro g1 cap1 w2 hown2 hgrow2 hat2 hlt2
 have hB2:=((Below.refl _ w).alloc (Nat.le_refl _) _).grown hgrow2 (by simp) (by intro k hk;simp [Value.ownBlock] at hk;omega)
 try simp only [Nat.zero_add,List.nil_append] at hown2
 clear hgrow2 hat2 hlt2
 go_wp2
 go_ret
 exact ⟨_,_,by first|rfl|(simp only [Nat.zero_add]),hown2,hB2⟩
def elsC:Code → Code
 | .cond _ _ b=>b
 | c=>c
noncomputable def newD0:Code:=elsC (sndC (fstC newT10))
noncomputable def newD1:Code:=sndC newD0
noncomputable def newD2:Code:=sndC newD1
noncomputable def newD3:Code:=sndC newD2
theorem newDE0:newD0 = .seq (fstC newD0) newD1:=by kernel_rfl
theorem newDE1:newD1 = .seq (fstC newD1) newD2:=by kernel_rfl
theorem newDE2:newD2 = .seq (fstC newD2) newD3:=by kernel_rfl
theorem new_d3 (w:World) (h t:Kn) (e:Int) (Bk:List Kn) (Ss:List Rt) {s0 s1 s2 s3 s4 s5 s6 s9 s11 s12 s13 s16 s17 s18 s19 s20 s21 s22 s23 s24 s25 s26 s27 s28 s29 s30 s31 s32 s33 s34 s35 s36 s37 s38 s39 s40 s41 s42 s43 s44 s45 s46 s47 s48 s49 s50 s51 s52 s53 s54 s55 s56 s57 s58 s59 s60 s61 s62 s63 s64 s65 s66 s67 s68 s69 s70 s71 s72 s73 s74 s75 s76 s77 s78 s79 s80 s81 s82 s83 s84 s85 s86 s87 s88 s89 s90 s91 s92 s93 s94 s95 s96 s97 s98 s99 s100 s101 s102 s103 s104 s105 s106 s107 s108 s109 s110 s111 s112 s113 s114 s115 s116 s117 s118 s119 s120 s121 s122 s123 s124 s125 s126 s127 s128 s129 s130 s131 s132 s133 s134 s135 s136 s137 s138 s139 s140 s141 s142 s143 s144 s145 s146 s147 s148 s149 s150 s151 s152 s153 s154 s155 s156 s157 s158 s159 s160 s161 s162 s163 s164 s165 s166 s167 s168 s169:Value} {gm gs gb gh gt:Nat} {as_:Addr} {nb cb cs:Nat} {K:Act → World → Prop} {Qx:Exit → Act → World → Prop} {V:World} (hK:∀ a w',newT11.wp Try.prog (bodyPost Try.prog Try.f13 (NewQ w (endK e ⟨h :: (Bk ++ [t]),Ss,Bk.length⟩))) a w' → K a w') (hm:V.heap[gm]?=some (.cells #[.slice none 0 0,.slice (some as_) (nb+1) cs,.int .i64 nb] 70 (0,0))) (hs:V.heap[gs]?=some (stp e)) (hh:V.heap[gh]?=some (.cells #[.int .i64 h.1.1,.int .i64 h.1.2,.int .i64 h.2.1,.int .i64 h.2.2] 35 (0,0))) (ht:V.heap[gt]?=some (.cells #[.int .i64 t.1.1,.int .i64 t.1.2,.int .i64 t.2.1,.int .i64 t.2.2] 35 (0,0))) (hb:KnA V ⟨gb,0,none⟩ Bk) (hS:RtA V as_ Ss) (hB:Below w.heap.size w V) (hgm:w.heap.size≤gm) (has:w.heap.size≤as_.block) (n1:gm≠gs) (n2:gm≠as_.block) (e1:nb=Bk.length) (e2:nb+1=Ss.length) (hnb:0<nb) (hnb2:nb≤64) (hR:KnR (h :: (Bk ++ [t]))) :
  newD3.wp Try.prog (Exit.then K Qx) ⟨#[s0,s1,s2,s3,s4,s5,s6,.pointer (some ⟨gm,0,none⟩),.slice (some ⟨gb,0,none⟩) nb cb,s9,.pointer (some ⟨gs,0,none⟩),s11,s12,s13,.pointer (some ⟨gh,0,none⟩),.pointer (some ⟨gt,0,none⟩),s16,s17,s18,s19,s20,s21,s22,s23,s24,s25,s26,s27,s28,s29,s30,s31,s32,s33,s34,s35,s36,s37,s38,s39,s40,s41,s42,s43,s44,s45,s46,s47,s48,s49,s50,s51,s52,s53,s54,s55,s56,s57,s58,s59,s60,s61,s62,s63,s64,s65,s66,s67,s68,s69,s70,s71,s72,s73,s74,s75,s76,s77,s78,s79,s80,s81,s82,s83,s84,s85,s86,s87,s88,s89,s90,s91,s92,s93,s94,s95,s96,s97,s98,s99,s100,s101,s102,s103,s104,s105,s106,s107,s108,s109,s110,s111,s112,s113,s114,s115,s116,s117,s118,s119,s120,s121,s122,s123,s124,s125,s126,s127,s128,s129,s130,s131,s132,s133,s134,s135,s136,s137,s138,s139,s140,s141,s142,s143,s144,s145,s146,s147,s148,s149,s150,s151,s152,s153,s154,s155,s156,s157,s158,s159,s160,s161,s162,s163,s164,s165,s166,s167,s168,s169],[]⟩ V:=by
 obtain ⟨m0,fm0,m1,fm1,m2,fm2⟩:=Hand.hc3 hm
 obtain ⟨c0,f0,c1,f1,c2,f2,c3,f3⟩:=Hand.hc4 hh
 obtain ⟨d0,g0,d1,g1,d2,g2,d3,g3⟩:=Hand.hc4 ht
 have gmz:=(Hand.hz hm).1
 have ghz:=(Hand.hz hh).1
 have gtz:=(Hand.hz ht).1
 have gsz:=(Hand.hz hs).1
 obtain ⟨tz0,tz1,tz2,ty0,ty1⟩:=Hand.hz ht
 have HM:=Lib.hid hm
 have HS:=Lib.hid hs
 have HBK:=Lib.hid hb
 have HSL:=Lib.hid hS
 have HB:=Lib.hid hB
 have HK:=Lib.hid hK
 have HR:=Lib.hid hR
 have E1:=Lib.hid e1
 have E2:=Lib.hid e2
 clear hm hs hh ht hb hS hB hK hR e1 e2
 have CC:=Lib.hid (fun (u:World) (gq:Nat) (b1 b2:Nat) (hq:u.heap[gq]?=some (.cells #[.slice (some ⟨b1,0,none⟩) 1 1,.slice (some ⟨gb,0,none⟩) nb cb,.slice (some ⟨b2,0,none⟩) 1 1] 22 (0,0))) (q1:u.heap[b1]?=some (.cells #[.int .i64 h.1.1,.int .i64 h.1.2,.int .i64 h.2.1,.int .i64 h.2.2] 35 (0,0))) (q2:u.heap[b2]?=some (.cells #[.int .i64 t.1.1,.int .i64 t.1.2,.int .i64 t.2.1,.int .i64 t.2.2] 35 (0,0))) (q3:KnA u ⟨gb,0,none⟩ Bk)=>concatK gq ⟨b1,0,none⟩ ⟨gb,0,none⟩ ⟨b2,0,none⟩ 1 nb 1 1 cb 1 3 (flatK [h]) (flatK Bk) (flatK [t]) u hq (by decide) hnb (by decide) (by decide) (by omega) (by decide) (by rw [flatK_len];rfl) (by rw [flatK_len,E1.out]) (by rw [flatK_len];rfl) (World.news_of_block q1) (kna_flat q3) (World.news_of_block q2) (flatK_one _) (flatK_one _) (flatK_one _))
 conv=>arg 2;whnf
 go_wp2_with fail
 with_reducible refine (CC.out _ (V.heap.size+1+1) V.heap.size (V.heap.size+1) (Hand.q3 _ _ _ (by simp)) (by simp (disch:=try exact Hand.z) only [Hand.q4,Hand.q3]) (by simp (disch:=try exact Hand.z) only [Hand.q4,Hand.q3]) (HBK.out.below (by repeat (first|exact Below.refl _ _|refine Below.alloc ?_ Hand.z _)))).mono ?_
 rintro e_ w1 ⟨gx,cx,rfl,hox,hb1⟩
 have hV3:Below V.heap.size V w1:=Hand.stepB hb1 (by repeat (first|exact Below.refl _ _|refine Below.alloc ?_ Hand.z _)) (Nat.le_refl _)
 have gm1:=Hand.kb hV3 HM.out
 have gs1:=Hand.kb hV3 HS.out
 have bk1:=HBK.out.below hV3
 have sl1:=HSL.out.below hV3
 obtain ⟨mm0,fmm0,mm1,fmm1,mm2,fmm2⟩:=Hand.hc3 gm1
 have gx1:V.heap.size≤gx:=by have:=(hox.lt gx rfl).1;simp only [World.size_alloc] at this;omega
 have hox2:w1.ownsRow 0 35 4 (.slice (some ⟨gx,0,none⟩) (1+nb+1) cx) (1+nb+1) (flatK (h :: (Bk ++ [t]))):=by rw [show h :: (Bk ++ [t])=[h] ++ Bk ++ [t] by simp,flatK_app,flatK_app];exact own_base hox (Nat.zero_le _)
 have HO:=Lib.hid hox2
 have GM1:=Lib.hid gm1
 have GS1:=Lib.hid gs1
 have SL1:=Lib.hid sl1
 have HV3:=Lib.hid hV3
 clear hox hox2 gm1 gs1 bk1 sl1 hV3 hb1
 go_wp2
 refine HK.out _ _ ?_
 refine new_c w ⟨h :: (Bk ++ [t]),Ss,Bk.length⟩ e (ak:=⟨gx,0,none⟩) (as_:=as_) (ck:=cx) (cs:=cs) ⟨?_,?_,?_,(by have:=own_cap HO.out;rw [show (h :: (Bk ++ [t])).length=1+nb+1 by simp only [List.length_cons,List.length_append,List.length_nil,← E1.out];omega];exact this)⟩ ?_ ?_ hgm ?_ has HR.out (Nat.zero_lt_succ _) (by simp only [List.length_cons,List.length_append,List.length_nil];have:=E1.out;omega)
 ·rw [Hand.q1,GM1.out,← E2.out,← E1.out,show (h :: (Bk ++ [t])).length=1+nb+1 by simp only [List.length_cons,List.length_append,List.length_nil,← E1.out];omega];rfl
 ·exact (own_kna HO.out).f2 ((F2.refl gm gm _).set _ _ _ (Or.inl rfl)) Hand.d Hand.d
 ·exact SL1.out.f2 ((F2.refl gm gm _).set _ _ _ (Or.inl rfl)) (Ne.symm n2) (Ne.symm n2)
 ·rw [Hand.q2 _ _ _ _ _ n1,GS1.out]
 ·exact Below.setCell (HB.out.trans (Below.mono HV3.out HB.out.size)) Hand.d _
 ·have:=HB.out.size;show w.heap.size≤gx;omega
end Go.Proofs.Ythlpaglldhgmfaa.PA
