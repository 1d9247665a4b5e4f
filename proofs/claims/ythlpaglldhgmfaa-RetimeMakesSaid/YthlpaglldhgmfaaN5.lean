/- Chapter 6: the reference's New, walked from its end. Chapter 6: the reference's New: bends laid into its map. Chapter 6: the reference's New: its map made. Chapter 6: the reference's New: the last knot. Chapter 6: the reference's New: behind the last knot. -/
import Derived.Test.YthlpaglldhgmfaaN4
import Derived.Test.YthlpaglldhgmfaaM8
import Derived.Test.YthlpaglldhgmfaaMB
import Derived.Deep.RegionLaw
import Derived.Deep.RegionHeld3
import Derived.StillTailTactics
set_option maxHeartbeats 4000000
set_option maxRecDepth 100000
namespace Go.Proofs.Ythlpaglldhgmfaa.PA
open Go Go.RowKit Go.Proofs.YthlpaglldhgmfaaW.PrintWords Go.Proofs.YthlpaglldhgmfaaW.PrintLast Go.Proofs.YthlpaglldhgmfaaW.PrintMore
attribute [local go_sem high] eqA31 eqA35
set_option linter.unusedSimpArgs false
set_option linter.unusedVariables false
def NewS (w':World) (v:Value):Option MapV → Prop
 | none=>v = .pointer none
 | some m=>∃ p al as_ cl cs,v = .pointer (some ⟨p,0,none⟩)∧MapB w' p al as_ cl cs m
def NewSQ (w:World) (r:Option MapV × Int) (e:Ending) (w':World):Prop:=∃ v,e = .returned (.tuple #[v,.int .i64 r.2])∧NewS w' v r.1∧Below w.heap.size w w'
def finR (m:MapV):Option MapV × Int:=if (slpF m.knots 0).2=0 then (some m,0) else (none,(slpF m.knots 0).2)
theorem finR_q (m:MapV) (w w':World) (p:Nat) (al as_:Addr) (cl cs:Nat) (hm:MapB w' p al as_ cl cs m) (hb:Below w.heap.size w w') :
  NewSQ w (finR m) (.returned (.tuple #[if (slpF m.knots 0).2=0 then .pointer (some ⟨p,0,none⟩) else .pointer none,.int .i64 (slpF m.knots 0).2])) w':=by
 unfold finR
 by_cases h:(slpF m.knots 0).2=0
 ·rw [if_pos h,if_pos h,h];exact ⟨_,rfl,⟨_,_,_,_,_,rfl,hm⟩,hb⟩
 ·rw [if_neg h,if_neg h];exact ⟨_,rfl,rfl,hb⟩
noncomputable def rnT1:Code:=sndC (Try.f20.body.getD .skip)
noncomputable def rnT2:Code:=sndC rnT1
noncomputable def rnT3:Code:=sndC rnT2
noncomputable def rnT4:Code:=sndC rnT3
noncomputable def rnT5:Code:=sndC rnT4
noncomputable def rnT6:Code:=sndC rnT5
noncomputable def rnT7:Code:=sndC rnT6
noncomputable def rnT8:Code:=sndC rnT7
noncomputable def rnT9:Code:=sndC rnT8
noncomputable def rnT10:Code:=sndC rnT9
noncomputable def rnT11:Code:=sndC rnT10
noncomputable def rnT12:Code:=sndC rnT11
noncomputable def rnT13:Code:=sndC rnT12
noncomputable def rnT14:Code:=sndC rnT13
noncomputable def rnT15:Code:=sndC rnT14
noncomputable def rnT16:Code:=sndC rnT15
noncomputable def rnT17:Code:=sndC rnT16
noncomputable def rnT18:Code:=sndC rnT17
noncomputable def rnT19:Code:=sndC rnT18
noncomputable def rnT20:Code:=sndC rnT19
noncomputable def rnT21:Code:=sndC rnT20
noncomputable def rnT22:Code:=sndC rnT21
theorem rnE1:rnT1 = .seq (fstC rnT1) rnT2:=by kernel_rfl
theorem rnE2:rnT2 = .seq (fstC rnT2) rnT3:=by kernel_rfl
theorem rnE3:rnT3 = .seq (fstC rnT3) rnT4:=by kernel_rfl
theorem rnE4:rnT4 = .seq (fstC rnT4) rnT5:=by kernel_rfl
theorem rnE5:rnT5 = .seq (fstC rnT5) rnT6:=by kernel_rfl
theorem rnE6:rnT6 = .seq (fstC rnT6) rnT7:=by kernel_rfl
theorem rnE7:rnT7 = .seq (fstC rnT7) rnT8:=by kernel_rfl
theorem rnE9:rnT9 = .seq (fstC rnT9) rnT10:=by kernel_rfl
theorem rnE10:rnT10 = .seq (fstC rnT10) rnT11:=by kernel_rfl
theorem rnE11:rnT11 = .seq (fstC rnT11) rnT12:=by kernel_rfl
theorem rnE12:rnT12 = .seq (fstC rnT12) rnT13:=by kernel_rfl
theorem rnE13:rnT13 = .seq (fstC rnT13) rnT14:=by kernel_rfl
theorem rnE14:rnT14 = .seq (fstC rnT14) rnT15:=by kernel_rfl
theorem rnE15:rnT15 = .seq (fstC rnT15) rnT16:=by kernel_rfl
theorem rnE16:rnT16 = .seq (fstC rnT16) rnT17:=by kernel_rfl
theorem rnE17:rnT17 = .seq (fstC rnT17) rnT18:=by kernel_rfl
theorem rnE18:rnT18 = .seq (fstC rnT18) rnT19:=by kernel_rfl
theorem rnE19:rnT19 = .seq (fstC rnT19) rnT20:=by kernel_rfl
theorem rnE20:rnT20 = .seq (fstC rnT20) rnT21:=by kernel_rfl
theorem rnE21:rnT21 = .seq (fstC rnT21) rnT22:=by kernel_rfl
theorem rnE0:Try.f20.body.getD .skip = .seq (fstC (Try.f20.body.getD .skip)) rnT1:=by kernel_rfl
theorem rn_f (w:World) (R:Option MapV × Int) (K:List Kn) (t:Kn) (S:List Rt) {z0 z1 z2 z3 z4 z5 z6 z7 z8 z9 z10 z11 z12 z13 z14 z15 z16 z17 z18 z21 z22 z23 z24 z25 z26 z27 z28 z29 z30 z31 z32 z33 z34 z35 z36 z37 z38 z39 z40 z41 z42 z43 z44 z45 z46 z47 z48 z49 z50 z51 z52 z53 z54 z55 z56 z57 z58 z59 z60 z61 z62 z63 z64 z65 z66 z67 z68 z69 z70 z71 z72 z73 z74 z75 z76 z77 z78 z79 z80 z81 z82 z83 z84 z85 z86 z87 z88 z89 z90 z91 z92 z93 z94 z95 z96 z97 z98 z99 z100 z101 z102 z103 z104 z105 z106 z107 z108 z109 z110 z111 z112 z113 z114 z115 z116 z117 z118 z119 z120 z121 z122 z123 z124 z125 z126 z127 z128 z129 z130 z131 z132 z133 z134 z135 z136 z137 z138 z139 z140 z141 z142 z143 z144 z145 z146 z147 z148 z149 z150 z151 z152 z153 z154 z155 z156 z157 z158 z159 z160 z161 z162 z163 z164 z165 z166 z167 z168 z169 z170 z171 z172 z173 z174 z175 z176 z177 z178 z179 z180 z181 z182 z183 z184 z185 z186 z187 z188 z189 z190 z191 z192 z193 z194 z195 z196 z197 z198 z199 z200 z201 z202 z203 z204 z205 z206 z207 z208 z209 z210 z211 z212 z213 z214 z215 z216 z217 z218 z219 z220 z221 z222 z223 z224 z225 z226 z227 z228 z229 z230 z231 z232 z233 z234 z235 z236 z237 z238 z239 z240 z241 z242 z243 z244 z245 z246 z247 z248 z249 z250 z251 z252 z253:Value} {gb gm gl gs nk cL cS:Nat} {V:World} (hR:R=finR ⟨K ++ [t],S,0⟩) (hm:V.heap[gm]?=some (.cells #[.slice (some ⟨gl,0,none⟩) nk cL,.slice (some ⟨gs,0,none⟩) S.length cS] 97 (0,0))) (hL:V.ownsRow 0 35 4 (.slice (some ⟨gl,0,none⟩) nk cL) nk (flatK K)) (hS:RtA V ⟨gs,0,none⟩ S) (hb:V.heap[gb]?=some (.cells #[.int .i64 t.1.1,.int .i64 t.1.2,.int .i64 t.2.1,.int .i64 t.2.2] 35 (0,0))) (hB:Below w.heap.size w V) (hnk:nk=K.length) (hk100:nk+1≤100) (hKR:KnR (K ++ [t])) (hgm:w.heap.size≤gm) (hgl:w.heap.size≤gl) (hgs:gs<V.heap.size) (n1:gm≠gl) (n2:gm≠gs) (n3:gl≠gs) :
  rnT21.wp Try.prog (bodyPost Try.prog Try.f20 (NewSQ w R)) ⟨#[z0,z1,z2,z3,z4,z5,z6,z7,z8,z9,z10,z11,z12,z13,z14,z15,z16,z17,z18,.pointer (some ⟨gb,0,none⟩),.pointer (some ⟨gm,0,none⟩),z21,z22,z23,z24,z25,z26,z27,z28,z29,z30,z31,z32,z33,z34,z35,z36,z37,z38,z39,z40,z41,z42,z43,z44,z45,z46,z47,z48,z49,z50,z51,z52,z53,z54,z55,z56,z57,z58,z59,z60,z61,z62,z63,z64,z65,z66,z67,z68,z69,z70,z71,z72,z73,z74,z75,z76,z77,z78,z79,z80,z81,z82,z83,z84,z85,z86,z87,z88,z89,z90,z91,z92,z93,z94,z95,z96,z97,z98,z99,z100,z101,z102,z103,z104,z105,z106,z107,z108,z109,z110,z111,z112,z113,z114,z115,z116,z117,z118,z119,z120,z121,z122,z123,z124,z125,z126,z127,z128,z129,z130,z131,z132,z133,z134,z135,z136,z137,z138,z139,z140,z141,z142,z143,z144,z145,z146,z147,z148,z149,z150,z151,z152,z153,z154,z155,z156,z157,z158,z159,z160,z161,z162,z163,z164,z165,z166,z167,z168,z169,z170,z171,z172,z173,z174,z175,z176,z177,z178,z179,z180,z181,z182,z183,z184,z185,z186,z187,z188,z189,z190,z191,z192,z193,z194,z195,z196,z197,z198,z199,z200,z201,z202,z203,z204,z205,z206,z207,z208,z209,z210,z211,z212,z213,z214,z215,z216,z217,z218,z219,z220,z221,z222,z223,z224,z225,z226,z227,z228,z229,z230,z231,z232,z233,z234,z235,z236,z237,z238,z239,z240,z241,z242,z243,z244,z245,z246,z247,z248,z249,z250,z251,z252,z253],[]⟩ V:=by
 subst hR
 obtain ⟨⟨t1,t2⟩,t3,t4⟩:=t
 have HM:=Lib.hid hm
 have HL:=Lib.hid hL
 have HS:=Lib.hid hS
 have HB_:=Lib.hid hb
 have HB:=Lib.hid hB
 have HNK:=Lib.hid hnk
 have HKR:=Lib.hid hKR
 obtain ⟨sn,hsn⟩:∃ n,S.length=n:=⟨_,rfl⟩
 rw [hsn] at hm
 have HSN:=Lib.hid hsn
 obtain ⟨m0,fm0,m1,fm1⟩:=Hand.hc2 hm
 obtain ⟨b0,fb0,b1,fb1,b2,fb2,b3,fb3⟩:=Hand.hc4 hb
 obtain ⟨mz0,mz1,mz2,my0,my1⟩:=Hand.hz hm
 obtain ⟨bz0,bz1,bz2,by0,by1⟩:=Hand.hz hb
 have hglz:=(hL.lt gl rfl).2
 clear hL hS hB hnk hKR hsn hm hb
 rw [rnE21]
 refine wp_seq_k (fun K21 hK21=>?_)
 have HK21:=Lib.hid hK21
 clear hK21
 conv=>arg 2;whnf
 go_wp2_with fail
 go_region_law (first|(refine step_append_lies _ rfl (.tmp 244) (.tmp 246) 22 rfl 0 35 _ (.agg #[.int .i64 0,.int .i64 0,.int .i64 0,.int .i64 0]) 4 32 Try.underlying22 rfl rfl rfl rfl rfl (by decide) _ nk _ rfl (own_below HL.out (by repeat (with_reducible first|exact Below.refl _ _|apply Below.drew|refine Below.alloc ?_ (Nat.le_refl _) _))) ⟨V.heap.size,0,none⟩ 1 1 [.int .i64 t1,.int .i64 t2,.int .i64 t3,.int .i64 t4] rfl rfl (World.news_of_block (by first|exact Hand.q3 _ _ _ rfl|(rw [Hand.q5];exact Hand.q3 _ _ _ rfl))) (by intro u hu;simp at hu;rcases hu with rfl|rfl|rfl|rfl<;>rfl) (by decide) (by unfold maxLen;omega) (by omega) (Nat.zero_le _) _ rfl ?_;intro g3 c3 w3 hown hgrow hat hlt;have gm3:w3.heap[gm]?=some (.cells #[.slice (some ⟨gl,0,none⟩) nk cL,.slice (some ⟨gs,0,none⟩) sn cS] 97 (0,0)):=(by rw [hgrow.block _ (by simp only [World.size_alloc,World.size_drew];omega) (fun e=>n1 (Option.some.inj e))];simp (disch:=omega) only [Hand.q5,Hand.q4];exact (HSN.out ▸ HM.out));obtain ⟨t0_,ft0,t1_,ft1⟩:=Hand.hc2 gm3))
 all_goals ((have hg3:g3=gl ∨ g3=V.heap.size+1:=by rcases hat with h|h;exact Or.inl (Option.some.inj h).symm;exact Or.inr (h.trans (by simp)));(have hne3:gm≠g3:=by omega);(obtain ⟨Vn,hVn⟩:∃ V_,V_=w3.setCell ⟨gm,0,none⟩ (.slice (some ⟨g3,0,none⟩) (nk+1) c3):=⟨_,rfl⟩);(have hF:F2 gm gl V Vn:=by rw [hVn];exact (F2.grown (F2.of_below gm gl (by repeat (with_reducible first|exact Below.refl _ _|apply Below.drew|refine Below.alloc ?_ (Nat.le_refl _) _))) hgrow (fun q hq=>(by cases hq;exact Or.inr (Or.inl rfl)))).set _ _ _ (Or.inl rfl));(have hMB:MapB Vn gm ⟨g3,0,none⟩ ⟨gs,0,none⟩ c3 cS ⟨K ++ [((t1,t2),(t3,t4))],S,0⟩:=⟨by rw [hVn,Hand.q1,gm3,HSN.out,List.length_append,← HNK.out];rfl,own_kna (base:=0) (n:=nk+1) (cap:=c3) (e:=35) (by rw [hVn,flatK_snoc];exact own_keep hown (fun q hq=>(by cases hq;rw [Hand.q2 _ _ _ _ _ hne3]))),HS.out.f2 hF (Ne.symm n2) (Ne.symm n3)⟩);(have hBn:Below w.heap.size w Vn:=hF.below HB.out hgm hgl HB.out.size);(have MQ:=qown_any gm _ _ _ _ _ Vn hMB HKR.out (by simp only [List.length_append,List.length_singleton,← HNK.out];omega));(obtain ⟨v,hv⟩:∃ v:Value,(if (slpF (K ++ [((t1,t2),(t3,t4))]) 0).2=0 then .pointer (some ⟨gm,0,none⟩) else .pointer none)=v:=⟨_,rfl⟩);(obtain ⟨q,hq⟩:∃ q,(slpF (K ++ [((t1,t2),(t3,t4))]) 0).2=q:=⟨_,rfl⟩);(dsimp only at MQ);(rw [hv,hq] at MQ);(have HV:=Lib.hid hv);(have HQ:=Lib.hid hq);(have HMB:=Lib.hid hMB);(have HBN:=Lib.hid hBn);(have MQ_:=Lib.hid MQ);(rw [← hVn]);(clear hv hq hMB hBn MQ hF hVn hown hgrow hat);(refine HK21.out _ _ ?_);(conv=>arg 2;whnf);(go_wp2_with fail);(with_reducible refine (MQ_.out).mono ?_);(rintro e_ w4 ⟨rfl,hb4⟩);(go_wp2);(go_ret2);(rw [← HV.out,← HQ.out]);(exact finR_q ⟨K ++ [((t1,t2),(t3,t4))],S,0⟩ w w4 gm _ _ _ _ (HMB.out.below hb4) (Hand.stepB hb4 HBN.out (Nat.le_refl _))))
structure LoopS (B0:Nat) (gm:Nat) (K:List Kn) (S:List Rt) (gl cL gs cS:Nat) (wr:World):Prop where
 blk:wr.heap[gm]?=some (.cells #[.slice (some ⟨gl,0,none⟩) K.length cL,.slice (some ⟨gs,0,none⟩) S.length cS] 97 (0,0))
 kn:wr.ownsRow 0 35 4 (.slice (some ⟨gl,0,none⟩) K.length cL) K.length (flatK K)
 sl:wr.ownsRow 0 31 2 (.slice (some ⟨gs,0,none⟩) S.length cS) S.length (flatT S)
 n1:gm≠gl
 n2:gm≠gs
 n3:gl≠gs
 bl:B0≤gl
 bs:B0≤gs
theorem LoopS.knot {B0 gm gl cL gs cS:Nat} {K:List Kn} {S:List Rt} {wr w1 w3:World} {g3 c3:Nat} (h:LoopS B0 gm K S gl cL gs cS wr) (k:Kn) (hb:Below wr.heap.size wr w1) (hz:B0≤wr.heap.size)
  (hown:w3.ownsRow 0 35 4 (.slice (some ⟨g3,0,none⟩) (K.length+1) c3) (K.length+1) (flatK K ++ [.int .i64 k.1.1,.int .i64 k.1.2,.int .i64 k.2.1,.int .i64 k.2.2])) (hgrow:w1.grownBy w3 (some gl)) (hat:g3=gl ∨ wr.heap.size≤g3) :
  w3.heap[gm]?=wr.heap[gm]?∧LoopS B0 gm (K ++ [k]) S g3 c3 gs cS (w3.setCell ⟨gm,0,none⟩ (.slice (some ⟨g3,0,none⟩) (K.length+1) c3))∧F2 gm gl wr (w3.setCell ⟨gm,0,none⟩ (.slice (some ⟨g3,0,none⟩) (K.length+1) c3)):=by
 have zm:=(Hand.hz h.blk).1
 have zs:=(h.sl.lt gs rfl).2
 have hF:F2 gm gl wr w3:=F2.grown (F2.of_below gm gl hb) hgrow (fun q hq=>by cases hq;exact Or.inr (Or.inl rfl))
 have n1:=h.n1
 have n2:=h.n2
 have n3:=h.n3
 have ne3:gm≠g3:=by omega
 have ne4:gs≠g3:=by omega
 have hm3:w3.heap[gm]?=wr.heap[gm]?:=by rw [hgrow.block gm (by have:=hb.size;omega) (fun e=>n1 (Option.some.inj e)),hb.block gm zm]
 refine ⟨hm3,⟨?_,?_,?_,ne3,n2,fun e=>ne4 e.symm,?_,h.bs⟩,hF.set _ _ _ (Or.inl rfl)⟩
 ·rw [Hand.q1,hm3,h.blk,List.length_append];rfl
 ·rw [flatK_snoc,List.length_append]
  exact own_keep hown (fun q hq=>by cases hq;rw [Hand.q2 _ _ _ _ _ ne3])
 ·exact own_keep h.sl (fun q hq=>by cases hq;rw [Hand.q2 _ _ _ _ _ n2];exact hF.block gs zs (Ne.symm n2) (Ne.symm n3))
 ·rcases hat with e|e
  ·rw [e];exact h.bl
  ·omega
theorem LoopS.slope {B0 gm gl cL gs cS:Nat} {K:List Kn} {S:List Rt} {wr w1 w3:World} {g3 c3:Nat} (h:LoopS B0 gm K S gl cL gs cS wr) (s:Rt) (hb:Below wr.heap.size wr w1) (hz:B0≤wr.heap.size)
  (hown:w3.ownsRow 0 31 2 (.slice (some ⟨g3,0,none⟩) (S.length+1) c3) (S.length+1) (flatT S ++ [.int .i64 s.1,.int .i64 s.2])) (hgrow:w1.grownBy w3 (some gs)) (hat:g3=gs ∨ wr.heap.size≤g3) :
  w3.heap[gm]?=wr.heap[gm]?∧LoopS B0 gm K (S ++ [s]) gl cL g3 c3 (w3.setCell ⟨gm,1,none⟩ (.slice (some ⟨g3,0,none⟩) (S.length+1) c3))∧F2 gm gs wr (w3.setCell ⟨gm,1,none⟩ (.slice (some ⟨g3,0,none⟩) (S.length+1) c3)):=by
 have zm:=(Hand.hz h.blk).1
 have zl:=(h.kn.lt gl rfl).2
 have hF:F2 gm gs wr w3:=F2.grown (F2.of_below gm gs hb) hgrow (fun q hq=>by cases hq;exact Or.inr (Or.inl rfl))
 have n1:=h.n1
 have n2:=h.n2
 have n3:=h.n3
 have ne3:gm≠g3:=by omega
 have ne4:gl≠g3:=by omega
 have hm3:w3.heap[gm]?=wr.heap[gm]?:=by rw [hgrow.block gm (by have:=hb.size;omega) (fun e=>n2 (Option.some.inj e)),hb.block gm zm]
 refine ⟨hm3,⟨?_,?_,?_,n1,ne3,ne4,h.bl,?_⟩,hF.set _ _ _ (Or.inl rfl)⟩
 ·rw [Hand.q1,hm3,h.blk,List.length_append];rfl
 ·exact own_keep h.kn (fun q hq=>by cases hq;rw [Hand.q2 _ _ _ _ _ n1];exact hF.block gl zl (Ne.symm n1) n3)
 ·rw [flatT_snoc,List.length_append]
  exact own_keep hown (fun q hq=>by cases hq;rw [Hand.q2 _ _ _ _ _ ne3])
 ·rcases hat with e|e
  ·rw [e];exact h.bs
  ·omega
theorem rn_e (w:World) (R:Option MapV × Int) (l:List Kn) (sl:List Rt) (I:List Nat) (B:List (Kn × Rt)) (h t:Kn) (p0:Rt) {z1 z2 z3 z4 z6 z7 z8 z10 z11 z12 z13 z14 z15 z16 z17 z18 z21 z22 z23 z24 z25 z26 z27 z28 z29 z30 z31 z32 z33 z34 z35 z36 z37 z38 z39 z40 z41 z42 z43 z44 z45 z46 z47 z48 z49 z50 z51 z52 z53 z54 z55 z56 z57 z58 z59 z60 z61 z62 z63 z64 z65 z66 z67 z68 z69 z70 z71 z72 z73 z74 z75 z76 z77 z78 z79 z80 z81 z82 z83 z84 z85 z86 z87 z88 z89 z90 z91 z92 z93 z94 z95 z96 z97 z98 z99 z100 z101 z102 z103 z104 z105 z106 z107 z108 z109 z110 z111 z112 z113 z114 z115 z116 z117 z118 z119 z120 z121 z122 z123 z124 z125 z126 z127 z128 z129 z130 z131 z132 z133 z134 z135 z136 z137 z138 z139 z140 z141 z142 z143 z144 z145 z146 z147 z148 z149 z150 z151 z152 z153 z154 z155 z156 z157 z158 z159 z160 z161 z162 z163 z164 z165 z166 z167 z168 z169 z170 z171 z172 z173 z174 z175 z176 z177 z178 z179 z180 z181 z182 z183 z184 z185 z186 z187 z188 z189 z190 z191 z192 z193 z194 z195 z196 z197 z198 z199 z200 z201 z202 z203 z204 z205 z206 z207 z208 z209 z210 z211 z212 z213 z214 z215 z216 z217 z218 z219 z220 z221 z222 z223 z224 z225 z226 z227 z228 z229 z230 z231 z232 z233 z234 z235 z236 z237 z238 z239 z240 z241 z242 z243 z244 z245 z246 z247 z248 z249 z250 z251 z252 z253:Value} {al sa ba:Addr} {n cap ns csl ni cb gb gm gl cL gs cS:Nat} {V0 V:World} (hR:R=finR ⟨h :: (B.map (·.1) ++ [t]),p0 :: B.map (·.2),0⟩) (hn:n=l.length) (hns:ns=sl.length) (hni:ni=I.length) (hBI:B.length=I.length∧∀ j (hj:j<I.length) (hj':j<B.length),∃ (h1:I[j]<l.length) (h2:I[j]<sl.length),B[j]=(l[I[j]],sl[I[j]])) (hK:KnA V0 al l) (hS:RtA V0 sa sl) (hI:∀ j (hj:j<I.length),V0.cell? (ba.add j)=some (.int .i64 (I[j]:Int))) (hb:V0.heap[gb]?=some (.cells #[.int .i64 t.1.1,.int .i64 t.1.2,.int .i64 t.2.1,.int .i64 t.2.2] 35 (0,0))) (hV:Below V0.heap.size V0 V) (hL:LoopS V0.heap.size gm [h] [p0] gl cL gs cS V) (hB:Below w.heap.size w V0) (hgm:V0.heap.size≤gm) (h64:n≤64) (hni64:ni≤64) (hKR:KnR (h :: (B.map (·.1) ++ [t]))) :
  rnT20.wp Try.prog (bodyPost Try.prog Try.f20 (NewSQ w R)) ⟨#[.slice (some al) n cap,z1,z2,z3,z4,.slice (some sa) ns csl,z6,z7,z8,.slice (some ba) ni cb,z10,z11,z12,z13,z14,z15,z16,z17,z18,.pointer (some ⟨gb,0,none⟩),.pointer (some ⟨gm,0,none⟩),z21,z22,z23,z24,z25,z26,z27,z28,z29,z30,z31,z32,z33,z34,z35,z36,z37,z38,z39,z40,z41,z42,z43,z44,z45,z46,z47,z48,z49,z50,z51,z52,z53,z54,z55,z56,z57,z58,z59,z60,z61,z62,z63,z64,z65,z66,z67,z68,z69,z70,z71,z72,z73,z74,z75,z76,z77,z78,z79,z80,z81,z82,z83,z84,z85,z86,z87,z88,z89,z90,z91,z92,z93,z94,z95,z96,z97,z98,z99,z100,z101,z102,z103,z104,z105,z106,z107,z108,z109,z110,z111,z112,z113,z114,z115,z116,z117,z118,z119,z120,z121,z122,z123,z124,z125,z126,z127,z128,z129,z130,z131,z132,z133,z134,z135,z136,z137,z138,z139,z140,z141,z142,z143,z144,z145,z146,z147,z148,z149,z150,z151,z152,z153,z154,z155,z156,z157,z158,z159,z160,z161,z162,z163,z164,z165,z166,z167,z168,z169,z170,z171,z172,z173,z174,z175,z176,z177,z178,z179,z180,z181,z182,z183,z184,z185,z186,z187,z188,z189,z190,z191,z192,z193,z194,z195,z196,z197,z198,z199,z200,z201,z202,z203,z204,z205,z206,z207,z208,z209,z210,z211,z212,z213,z214,z215,z216,z217,z218,z219,z220,z221,z222,z223,z224,z225,z226,z227,z228,z229,z230,z231,z232,z233,z234,z235,z236,z237,z238,z239,z240,z241,z242,z243,z244,z245,z246,z247,z248,z249,z250,z251,z252,z253],[]⟩ V:=by
 have HR:=Lib.hid hR
 have HN:=Lib.hid hn
 have HNS:=Lib.hid hns
 have HNI:=Lib.hid hni
 have HBI:=Lib.hid hBI
 have HK:=Lib.hid hK
 have HS:=Lib.hid hS
 have HI:=Lib.hid hI
 have HGB:=Lib.hid hb
 have HV:=Lib.hid hV
 have HL:=Lib.hid hL
 have HB:=Lib.hid hB
 have HKR:=Lib.hid hKR
 clear hR hn hns hni hBI hK hS hI hb hV hL hB hKR
 rw [rnE20]
 refine wp_seq_k (fun K20 hK20=>?_)
 have HK20:=Lib.hid hK20
 clear hK20
 conv=>arg 2;whnf
 go_wp2_with fail
 go_loopw [21] (fun i wr=>∃ (j gl cL gs cS:Nat),j≤ni∧i = .int .i64 (j:Int)∧LoopS V0.heap.size gm (h :: (B.take j).map (·.1)) (p0 :: (B.take j).map (·.2)) gl cL gs cS wr∧Below V0.heap.size V0 wr) (fun i _=>ni - (intOf i).toNat)
 case atStart=>exact ⟨0,_,_,_,_,Nat.zero_le _,rfl,HL.out,HV.out⟩
 case round =>
  obtain ⟨j,gl,cL,gs,cS,hj,rfl,hLS,hBr⟩:=hrel
  have HLS:=Lib.hid hLS
  have HBr:=Lib.hid hBr
  have hzr:=hBr.size
  clear hLS hBr
  by_cases hjn:j<ni
  ·have p1:((j:Int)<(ni:Int))=True:=eq_true (by omega)
   have p6:(j<ni)=True:=eq_true (by omega)
   have p5:(0:Int)≤(j:Int):=by omega
   have w2:IntKind.i64.wrap (j:Int)=(j:Int):=by rw [IntKind.wrap_i64];omega
   have hjI:j<I.length:=by have:=HNI.out;omega
   have hjB:j<B.length:=by have:=HBI.out.1;omega
   obtain ⟨hi1,hi2,hBj⟩:=HBI.out.2 j hjI hjB
   have hci:=fun (w_:World) (h_:Below V0.heap.size V0 w_)=>(h_.cell (World.block_lt_of_cell? V0 _ (HI.out j hjI))).trans (HI.out j hjI)
   obtain ⟨i,hi⟩:∃ i,I[j]=i:=⟨_,rfl⟩
   simp only [hi] at hi1 hi2 hBj hci
   obtain ⟨⟨⟨k1,k2⟩,k3,k4⟩,hk⟩:∃ k,l[i]=k:=⟨_,rfl⟩
   obtain ⟨⟨s1,s2⟩,hs⟩:∃ s,sl[i]=s:=⟨_,rfl⟩
   rw [hk,hs] at hBj
   have HBJ:=Lib.hid hBj
   have HCI:=Lib.hid hci
   have CK:=Lib.hid (fun (w_:World) (h_:Below V0.heap.size V0 w_)=>(by have x:=(HK.out.below h_) i hi1;rw [hk] at x;exact x:w_.cell? (al.add (i*4))=some (.int .i64 k1)∧w_.cell? ⟨(al.add (i*4)).block,(al.add (i*4)).off+1,none⟩=some (.int .i64 k2)∧w_.cell? ⟨(al.add (i*4)).block,(al.add (i*4)).off+2,none⟩=some (.int .i64 k3)∧w_.cell? ⟨(al.add (i*4)).block,(al.add (i*4)).off+3,none⟩=some (.int .i64 k4)))
   have CS:=Lib.hid (fun (w_:World) (h_:Below V0.heap.size V0 w_)=>(by have x:=(HS.out.below h_) i hi2;rw [hs] at x;exact x:w_.cell? (sa.add (i*2))=some (.int .i64 s1)∧w_.cell? ⟨(sa.add (i*2)).block,(sa.add (i*2)).off+1,none⟩=some (.int .i64 s2)))
   have q1:(0:Int)≤(i:Int):=by omega
   have q2:((i:Int)<(n:Int))=True:=eq_true (by have:=HN.out;omega)
   have q3:(i<n)=True:=eq_true (by have:=HN.out;omega)
   have q4:((i:Int)<(ns:Int))=True:=eq_true (by have:=HNS.out;omega)
   have q5:(i<ns)=True:=eq_true (by have:=HNS.out;omega)
   clear hBj hci hk hs hi
   obtain ⟨Kj,hKj⟩:∃ x,h :: (B.take j).map (·.1)=x:=⟨_,rfl⟩
   obtain ⟨Sj,hSj⟩:∃ x,p0 :: (B.take j).map (·.2)=x:=⟨_,rfl⟩
   have hls:=HLS.out
   rw [hKj,hSj] at hls
   have hkl:Kj.length=j+1:=by rw [← hKj];simp;omega
   have hsl_:Sj.length=j+1:=by rw [← hSj];simp;omega
   have HKJ:=Lib.hid hKj
   have HSJ:=Lib.hid hSj
   obtain ⟨nk,hnk⟩:∃ n,Kj.length=n:=⟨_,rfl⟩
   obtain ⟨nj,hnj⟩:∃ n,Sj.length=n:=⟨_,rfl⟩
   have hb0:=hls.blk
   have ho0:=hls.kn
   rw [hnk,hnj] at hb0
   rw [hnk] at ho0
   have hnk64:nk≤65:=by omega
   have hnj64:nj≤65:=by omega
   have HNKJ:=Lib.hid hnk
   have HNJ:=Lib.hid hnj
   have HLS2:=Lib.hid hls
   have HO0:=Lib.hid ho0
   obtain ⟨m0,fm0,m1,fm1⟩:=Hand.hc2 hb0
   obtain ⟨mz0,mz1,mz2,my0,my1⟩:=Hand.hz hb0
   have HB0:=Lib.hid hb0
   have n1_:=hls.n1
   clear hKj hSj hls hkl hsl_ hnk hnj hb0 ho0
   have ci:=HCI.out _ HBr.out
   obtain ⟨c0,c1,c2,c3⟩:=CK.out _ HBr.out
   go_wp2_with fail
   go_region_law (first|(refine step_append_lies _ rfl (.tmp 212) (.tmp 220) 22 rfl 0 35 _ (.agg #[.int .i64 0,.int .i64 0,.int .i64 0,.int .i64 0]) 4 32 Try.underlying22 rfl rfl rfl rfl rfl (by decide) _ nk _ rfl (own_below HO0.out (by repeat (with_reducible first|exact Below.refl _ _|apply Below.drew|refine Below.alloc ?_ (Nat.le_refl _) _))) ⟨wr.heap.size,0,none⟩ 1 1 [.int .i64 k1,.int .i64 k2,.int .i64 k3,.int .i64 k4] rfl rfl (World.news_of_block (by first|exact Hand.q3 _ _ _ rfl|(rw [Hand.q5];exact Hand.q3 _ _ _ rfl))) (by intro u hu;simp at hu;rcases hu with rfl|rfl|rfl|rfl<;>rfl) (by decide) (by unfold maxLen;omega) (by omega) (Nat.zero_le _) _ rfl ?_;intro g3 c3_ w3 hown hgrow hat hlt;have gm3:w3.heap[gm]?=some (.cells #[.slice (some ⟨gl,0,none⟩) nk cL,.slice (some ⟨gs,0,none⟩) nj cS] 97 (0,0)):=(by rw [hgrow.block _ (by simp only [World.size_alloc,World.size_drew];omega) (fun e=>n1_ (Option.some.inj e))];simp (disch:=omega) only [Hand.q5,Hand.q4];exact HB0.out);obtain ⟨t0_,ft0,t1_,ft1⟩:=Hand.hc2 gm3))
   all_goals ((have st:=HLS2.out.knot ((k1,k2),(k3,k4)) (w1:=(wr.alloc (.cells #[.int .i64 k1,.int .i64 k2,.int .i64 k3,.int .i64 k4] 35)).drew) (by repeat (with_reducible first|exact Below.refl _ _|apply Below.drew|refine Below.alloc ?_ (Nat.le_refl _) _)) hzr (by rw [HNKJ.out];exact hown) hgrow (by rcases hat with h|h;exact Or.inl (Option.some.inj h).symm;exact Or.inr (by rw [h];simp)));(rw [HNKJ.out] at st);(obtain ⟨V1,hV1⟩:∃ V_,V_=w3.setCell ⟨gm,0,none⟩ (.slice (some ⟨g3,0,none⟩) (nk+1) c3_):=⟨_,rfl⟩);(rw [← hV1] at st ⊢);(obtain ⟨_,hl1,hf1⟩:=st);(have hB1:Below V0.heap.size V0 V1:=hf1.below HBr.out (by omega) (by have:=HLS2.out.bl;omega) hzr);(have HB1:=Lib.hid hB1);(have HL1:=Lib.hid hl1);(have hz1:=hB1.size);(clear hV1 hf1 hB1 hown hgrow hat gm3 t0_ ft0 t1_ ft1 m0 fm0 m1 fm1 mz0 mz1 mz2 my0 my1 ci c0 c1 c2 c3 hlt);(have hb1:=hl1.blk);(have ho1:=hl1.sl);(rw [HNJ.out] at hb1 ho1);(rw [List.length_append,HNKJ.out] at hb1);(have n2_:=hl1.n2);(have HO1:=Lib.hid ho1);(have HBB:=Lib.hid hb1);(obtain ⟨m0,fm0,m1,fm1⟩:=Hand.hc2 hb1);(obtain ⟨mz0,mz1,mz2,my0,my1⟩:=Hand.hz hb1);(clear hl1 hb1 ho1);(have ci:=HCI.out _ HB1.out);(obtain ⟨c0,c1⟩:=CS.out _ HB1.out);(go_wp2_with fail))
   all_goals (go_region_law (first|(refine step_append_lies _ rfl (.tmp 228) (.tmp 236) 23 rfl 0 31 _ (.agg #[.int .i64 0,.int .i64 0]) 2 16 Try.underlying23 rfl rfl rfl rfl rfl (by decide) _ nj _ rfl (own_below HO1.out (by repeat (with_reducible first|exact Below.refl _ _|apply Below.drew|refine Below.alloc ?_ (Nat.le_refl _) _))) ⟨V1.heap.size,0,none⟩ 1 1 [.int .i64 s1,.int .i64 s2] rfl rfl (World.news_of_block (by first|exact Hand.q3 _ _ _ rfl|(rw [Hand.q5];exact Hand.q3 _ _ _ rfl))) (by intro u hu;simp at hu;rcases hu with rfl|rfl<;>rfl) (by decide) (by unfold maxLen;omega) (by omega) (Nat.zero_le _) _ rfl ?_;intro g4 c4_ w4 hown hgrow hat hlt;have gm4:w4.heap[gm]?=some (.cells #[.slice (some ⟨g3,0,none⟩) (nk+1) c3_,.slice (some ⟨gs,0,none⟩) nj cS] 97 (0,0)):=(by rw [hgrow.block _ (by simp only [World.size_alloc,World.size_drew];omega) (fun e=>n2_ (Option.some.inj e))];simp (disch:=omega) only [Hand.q5,Hand.q4];exact HBB.out);obtain ⟨t0_,ft0,t1_,ft1⟩:=Hand.hc2 gm4)))
   all_goals ((go_wp2);(have st:=HL1.out.slope (s1,s2) (w1:=(V1.alloc (.cells #[.int .i64 s1,.int .i64 s2] 31)).drew) (by repeat (with_reducible first|exact Below.refl _ _|apply Below.drew|refine Below.alloc ?_ (Nat.le_refl _) _)) hz1 (by rw [HNJ.out];exact hown) hgrow (by rcases hat with h|h;exact Or.inl (Option.some.inj h).symm;exact Or.inr (by rw [h];simp)));(rw [HNJ.out] at st);(obtain ⟨_,hl2,hf2⟩:=st);(have hB2:=hf2.below HB1.out (by omega) (by have:=HL1.out.bs;omega) hz1);(have HL2:=Lib.hid hl2);(have HB2:=Lib.hid hB2);(clear hl2 hf2 hB2 hown hgrow hat);(go_roundw);((first|(simp [intOf];omega)|exact ⟨j+1,_,_,_,_,by omega,by rw [Int.natCast_add];rfl,by have e:=HL2.out;rw [← HKJ.out,← HSJ.out] at e;rw [List.take_succ_eq_append_getElem hjB,HBJ.out];simp only [List.map_append,List.map_cons,List.map_nil] ; exact e,HB2.out⟩)))
   all_goals (first|(simp [intOf];omega)|skip)
  ·have p1:((j:Int)<(ni:Int))=False:=eq_false (by omega)
   have htk:B.take j=B:=List.take_of_length_le (by have:=HBI.out.1;have:=HNI.out;omega)
   have hls:=HLS.out
   rw [htk] at hls
   have hbl:B.length=ni:=by rw [HBI.out.1,HNI.out]
   have HLS3:=Lib.hid hls
   have HBL:=Lib.hid hbl
   clear htk hls hbl
   go_wp2
   refine HK20.out _ _ ?_
   exact rn_f w R (h :: B.map (fun x:Kn × Rt=>x.1)) t (p0 :: B.map (fun x:Kn × Rt=>x.2)) HR.out HLS3.out.blk HLS3.out.kn (own_rta HLS3.out.sl) (Hand.kb HBr.out HGB.out) (HB.out.trans (Below.mono HBr.out HB.out.size)) rfl (by simp only [List.length_cons,List.length_map,HBL.out];omega) HKR.out (by have:=HB.out.size;omega) (by have:=HB.out.size;have:=HLS3.out.bl;omega) (HLS3.out.sl.lt gs rfl).2 HLS3.out.n1 HLS3.out.n2 HLS3.out.n3
structure RCtx (V:World) (al sa ba:Addr) (l:List Kn) (sl:List Rt) (I:List Nat):Prop where
 kn:KnA V al l
 sl:RtA V sa sl
 bi:∀ j (hj:j<I.length),V.cell? (ba.add j)=some (.int .i64 (I[j]:Int))
theorem RCtx.below {V W:World} {al sa ba:Addr} {l:List Kn} {sl:List Rt} {I:List Nat} (h:RCtx V al sa ba l sl I) (hb:Below V.heap.size V W):RCtx W al sa ba l sl I :=
 ⟨h.kn.below hb,h.sl.below hb,fun j hj=>(hb.cell (World.block_lt_of_cell? V _ (h.bi j hj))).trans (h.bi j hj)⟩
theorem rn_d (w:World) (R:Option MapV × Int) (l:List Kn) (sl:List Rt) (I:List Nat) (B:List (Kn × Rt)) (h t:Kn) (p0:Rt) {z1 z2 z3 z4 z6 z7 z8 z10 z11 z12 z13 z15 z16 z17 z20 z21 z22 z23 z24 z25 z26 z27 z28 z29 z30 z31 z32 z33 z34 z35 z36 z37 z38 z39 z40 z41 z42 z43 z44 z45 z46 z47 z48 z49 z50 z51 z52 z53 z54 z55 z56 z57 z58 z59 z60 z61 z62 z63 z64 z65 z66 z67 z68 z69 z70 z71 z72 z73 z74 z75 z76 z77 z78 z79 z80 z81 z82 z83 z84 z85 z86 z87 z88 z89 z90 z91 z92 z93 z94 z95 z96 z97 z98 z99 z100 z101 z102 z103 z104 z105 z106 z107 z108 z109 z110 z111 z112 z113 z114 z115 z116 z117 z118 z119 z120 z121 z122 z123 z124 z125 z126 z127 z128 z129 z130 z131 z132 z133 z134 z135 z136 z137 z138 z139 z140 z141 z142 z143 z144 z145 z146 z147 z148 z149 z150 z151 z152 z153 z154 z155 z156 z157 z158 z159 z160 z161 z162 z163 z164 z165 z166 z167 z168 z169 z170 z171 z172 z173 z174 z175 z176 z177 z178 z179 z180 z181 z182 z183 z184 z185 z186 z187 z188 z189 z190 z191 z192 z193 z194 z195 z196 z197 z198 z199 z200 z201 z202 z203 z204 z205 z206 z207 z208 z209 z210 z211 z212 z213 z214 z215 z216 z217 z218 z219 z220 z221 z222 z223 z224 z225 z226 z227 z228 z229 z230 z231 z232 z233 z234 z235 z236 z237 z238 z239 z240 z241 z242 z243 z244 z245 z246 z247 z248 z249 z250 z251 z252 z253:Value} {al sa ba:Addr} {n cap ns csl ni cb f ga gb:Nat} {V:World} (hR:R=finR ⟨h :: (B.map (·.1) ++ [t]),p0 :: B.map (·.2),0⟩) (hn:n=l.length) (hns:ns=sl.length) (hni:ni=I.length) (hBI:B.length=I.length∧∀ j (hj:j<I.length) (hj':j<B.length),∃ (h1:I[j]<l.length) (h2:I[j]<sl.length),B[j]=(l[I[j]],sl[I[j]])) (hc:RCtx V al sa ba l sl I) (hB:Below w.heap.size w V) (h64:n≤64) (hs64:ns≤64) (hni64:ni≤64) (hKRl:KnR l) (hSR:∀ s ∈ sl,R64 s) (hf:1≤f) (hf2:∃ q:f - 1<sl.length,sl[f - 1]=p0) (ga_:V.heap[ga]?=some (.cells #[.int .i64 h.1.1,.int .i64 h.1.2,.int .i64 h.2.1,.int .i64 h.2.2] 35 (0,0))) (gb_:V.heap[gb]?=some (.cells #[.int .i64 t.1.1,.int .i64 t.1.2,.int .i64 t.2.1,.int .i64 t.2.2] 35 (0,0))) (hKR:KnR (h :: (B.map (·.1) ++ [t]))) :
  rnT19.wp Try.prog (bodyPost Try.prog Try.f20 (NewSQ w R)) ⟨#[.slice (some al) n cap,z1,z2,z3,z4,.slice (some sa) ns csl,z6,z7,z8,.slice (some ba) ni cb,z10,z11,z12,z13,.int .i64 (f:Int),z15,z16,z17,.pointer (some ⟨ga,0,none⟩),.pointer (some ⟨gb,0,none⟩),z20,z21,z22,z23,z24,z25,z26,z27,z28,z29,z30,z31,z32,z33,z34,z35,z36,z37,z38,z39,z40,z41,z42,z43,z44,z45,z46,z47,z48,z49,z50,z51,z52,z53,z54,z55,z56,z57,z58,z59,z60,z61,z62,z63,z64,z65,z66,z67,z68,z69,z70,z71,z72,z73,z74,z75,z76,z77,z78,z79,z80,z81,z82,z83,z84,z85,z86,z87,z88,z89,z90,z91,z92,z93,z94,z95,z96,z97,z98,z99,z100,z101,z102,z103,z104,z105,z106,z107,z108,z109,z110,z111,z112,z113,z114,z115,z116,z117,z118,z119,z120,z121,z122,z123,z124,z125,z126,z127,z128,z129,z130,z131,z132,z133,z134,z135,z136,z137,z138,z139,z140,z141,z142,z143,z144,z145,z146,z147,z148,z149,z150,z151,z152,z153,z154,z155,z156,z157,z158,z159,z160,z161,z162,z163,z164,z165,z166,z167,z168,z169,z170,z171,z172,z173,z174,z175,z176,z177,z178,z179,z180,z181,z182,z183,z184,z185,z186,z187,z188,z189,z190,z191,z192,z193,z194,z195,z196,z197,z198,z199,z200,z201,z202,z203,z204,z205,z206,z207,z208,z209,z210,z211,z212,z213,z214,z215,z216,z217,z218,z219,z220,z221,z222,z223,z224,z225,z226,z227,z228,z229,z230,z231,z232,z233,z234,z235,z236,z237,z238,z239,z240,z241,z242,z243,z244,z245,z246,z247,z248,z249,z250,z251,z252,z253],[]⟩ V:=by
 obtain ⟨⟨h1,h2⟩,h3,h4⟩:=h
 obtain ⟨q1,q2⟩:=p0
 have HN:=Lib.hid hn
 have HNS:=Lib.hid hns
 have HNI:=Lib.hid hni
 have HBI:=Lib.hid hBI
 have HC0:=Lib.hid hc
 have HB:=Lib.hid hB
 have HKR:=Lib.hid hKRl
 have HSR:=Lib.hid hSR
 clear hn hns hni hBI hc hB hKRl hSR
 have HR:=Lib.hid hR
 have HK:=Lib.hid hKR
 have GB:=Lib.hid gb_
 obtain ⟨fm,hfm⟩:∃ x,f - 1=x:=⟨_,rfl⟩
 obtain ⟨hq,hqe⟩:=hf2
 simp only [hfm] at hq hqe
 have hns64:fm<ns:=by have:=HNS.out;omega
 have wf:IntKind.i64.wrap ((f:Int) - 1)=(fm:Int):=by rw [IntKind.wrap_i64];omega
 have pfa:(0:Int)≤(fm:Int):=by omega
 have pfb:((fm:Int)<(ns:Int))=True:=eq_true (by omega)
 have pfc:(fm<ns)=True:=eq_true (by omega)
 have gaz:=(Hand.hz ga_).1
 have HC:=Lib.hid (fun (w_:World) (hb:Below V.heap.size V w_)=>(by obtain ⟨x0,_,x1,_,x2,_,x3,_⟩:=Hand.hc4 (Hand.kb hb ga_);have y:=(HC0.out.below hb).sl fm hq;rw [hqe] at y;exact ⟨hb,x0,x1,x2,x3,y.1,y.2⟩:Below V.heap.size V w_∧w_.cell? ⟨ga,0,none⟩=some (.int .i64 h1)∧w_.cell? ⟨ga,1,none⟩=some (.int .i64 h2)∧w_.cell? ⟨ga,2,none⟩=some (.int .i64 h3)∧w_.cell? ⟨ga,3,none⟩=some (.int .i64 h4)∧w_.cell? (sa.add (fm*2))=some (.int .i64 q1)∧w_.cell? ⟨(sa.add (fm*2)).block,(sa.add (fm*2)).off+1,none⟩=some (.int .i64 q2)))
 have BR:Below V.heap.size V V:=Below.refl _ _
 clear hR hKR gb_ ga_ hqe hfm
 rw [rnE19]
 refine wp_seq_k (fun K19 hK19=>?_)
 have HK19:=Lib.hid hK19
 clear hK19
 conv=>arg 2;whnf
 go_wp2_with fail
 go_region_held3 (fun w_=>Below V.heap.size V w_∧w_.cell? ⟨ga,0,none⟩=some (.int .i64 h1)∧w_.cell? ⟨ga,1,none⟩=some (.int .i64 h2)∧w_.cell? ⟨ga,2,none⟩=some (.int .i64 h3)∧w_.cell? ⟨ga,3,none⟩=some (.int .i64 h4)∧w_.cell? (sa.add (fm*2))=some (.int .i64 q1)∧w_.cell? ⟨(sa.add (fm*2)).block,(sa.add (fm*2)).off+1,none⟩=some (.int .i64 q2)) (first|(refine HC.out _ ?_;repeat (with_reducible first|assumption|apply Below.drew|refine Below.setCell ?_ (by dsimp only;exact Hand.z) _|refine Below.alloc ?_ Hand.z _))) (first|fail)
 all_goals (refine HK19.out _ _ ?_)
 all_goals (first|((refine rn_e w R l sl I B ((h1,h2),(h3,h4)) t (q1,q2) (V0:=V) (gl:=V.heap.size) (gs:=V.heap.size+1) (cL:=1) (cS:=1) HR.out HN.out HNS.out HNI.out HBI.out HC0.out.kn HC0.out.sl HC0.out.bi GB.out Hand.b ⟨?_,⟨rfl,.inr ⟨_,1,#[.int .i64 h1,.int .i64 h2,.int .i64 h3,.int .i64 h4],rfl,Nat.zero_le _,?_,Nat.le_refl 1,by decide,rfl,rfl⟩⟩,⟨rfl,.inr ⟨_,1,#[.int .i64 q1,.int .i64 q2],rfl,Nat.zero_le _,?_,Nat.le_refl 1,by decide,rfl,rfl⟩⟩,?_,?_,?_,?_,?_⟩ HB.out ?_ h64 hni64 HK.out);(all_goals (first|omega|(simp (disch:=try exact Hand.z) only [Hand.q5,Hand.q4,Hand.q3];done)|(simp (disch:=try exact Hand.z) only [Hand.q5,Hand.q4,Hand.q3];rfl)|(simp only [World.size_alloc,World.size_drew];omega)));done)|((refine rn_e w R l sl I B ((h1,h2),(h3,h4)) t (q1,q2) (V0:=V) (gl:=V.heap.size+1) (gs:=V.heap.size) (cL:=1) (cS:=1) HR.out HN.out HNS.out HNI.out HBI.out HC0.out.kn HC0.out.sl HC0.out.bi GB.out Hand.b ⟨?_,⟨rfl,.inr ⟨_,1,#[.int .i64 h1,.int .i64 h2,.int .i64 h3,.int .i64 h4],rfl,Nat.zero_le _,?_,Nat.le_refl 1,by decide,rfl,rfl⟩⟩,⟨rfl,.inr ⟨_,1,#[.int .i64 q1,.int .i64 q2],rfl,Nat.zero_le _,?_,Nat.le_refl 1,by decide,rfl,rfl⟩⟩,?_,?_,?_,?_,?_⟩ HB.out ?_ h64 hni64 HK.out);(all_goals (first|omega|(simp (disch:=try exact Hand.z) only [Hand.q5,Hand.q4,Hand.q3];done)|(simp (disch:=try exact Hand.z) only [Hand.q5,Hand.q4,Hand.q3];rfl)|(simp only [World.size_alloc,World.size_drew];omega)));done))
theorem qone_any (w:World):Calls Try.prog 55 #[] w fun e w'=>e = .returned (.agg #[.int .i64 1,.int .i64 1])∧Below w.heap.size w w':=by
 go_enter Try.func55,Try.ntmps55
 go_wp2
 refine bodyPost_ret (results_cell_row rfl _ _ (w.heap.size) 31 #[.int .i64 1,.int .i64 1] (0,0) _ rfl (Hand.q3 _ _ _ (by simp)) Try.underlying31 rfl (by kernel_rfl)) rfl ⟨rfl,?_⟩
 exact (Below.refl _ _).alloc (Nat.le_refl _) _
theorem qnought_any (w:World):Calls Try.prog 57 #[] w fun e w'=>e = .returned (.agg #[.int .i64 0,.int .i64 1])∧Below w.heap.size w w':=by
 go_enter Try.func57,Try.ntmps57
 go_wp2
 refine bodyPost_ret (results_cell_row rfl _ _ (w.heap.size) 31 #[.int .i64 0,.int .i64 1] (0,0) _ rfl (Hand.q3 _ _ _ (by simp)) Try.underlying31 rfl (by kernel_rfl)) rfl ⟨rfl,?_⟩
 exact (Below.refl _ _).alloc (Nat.le_refl _) _
theorem rn_18 (w:World) (R:Option MapV × Int) (l:List Kn) (sl:List Rt) (I:List Nat) (B:List (Kn × Rt)) (h:Kn) (p0 y z:Rt) (ez:Int) {z1 z2 z3 z4 z6 z7 z8 z10 z11 z12 z13 z15 z16 z20 z21 z22 z23 z24 z25 z26 z27 z28 z29 z30 z31 z32 z33 z34 z35 z36 z37 z38 z39 z40 z41 z42 z43 z44 z45 z46 z47 z48 z49 z50 z51 z52 z53 z54 z55 z56 z57 z58 z59 z60 z61 z62 z63 z64 z65 z66 z67 z68 z69 z70 z71 z72 z73 z74 z75 z76 z77 z78 z79 z80 z81 z82 z83 z84 z85 z86 z87 z88 z89 z90 z91 z92 z93 z94 z95 z96 z97 z98 z99 z100 z101 z102 z103 z104 z105 z106 z107 z108 z109 z110 z111 z112 z113 z114 z115 z116 z117 z118 z119 z120 z121 z122 z123 z124 z125 z126 z127 z128 z129 z130 z131 z132 z133 z134 z135 z136 z137 z138 z139 z140 z141 z142 z143 z144 z145 z146 z147 z148 z149 z150 z151 z152 z153 z154 z155 z156 z157 z158 z159 z160 z161 z162 z163 z164 z165 z166 z167 z168 z169 z170 z171 z172 z173 z174 z175 z176 z177 z178 z179 z180 z181 z182 z183 z184 z185 z186 z187 z188 z189 z190 z191 z192 z193 z194 z195 z196 z197 z198 z199 z200 z201 z202 z203 z204 z205 z206 z207 z208 z209 z210 z211 z212 z213 z214 z215 z216 z217 z218 z219 z220 z221 z222 z223 z224 z225 z226 z227 z228 z229 z230 z231 z232 z233 z234 z235 z236 z237 z238 z239 z240 z241 z242 z243 z244 z245 z246 z247 z248 z249 z250 z251 z252 z253:Value} {al sa ba:Addr} {n cap ns csl ni cb f la ga gb:Nat} {V:World} (hR0:ez≠0 → R=(none,ez)) (hR1:ez=0 → R=finR ⟨h :: (B.map (·.1) ++ [(y,z)]),p0 :: B.map (·.2),0⟩) (hn:n=l.length) (hns:ns=sl.length) (hni:ni=I.length) (hBI:B.length=I.length∧∀ j (hj:j<I.length) (hj':j<B.length),∃ (h1:I[j]<l.length) (h2:I[j]<sl.length),B[j]=(l[I[j]],sl[I[j]])) (hc:RCtx V al sa ba l sl I) (hB:Below w.heap.size w V) (h64:n≤64) (hs64:ns≤64) (hni64:ni≤64) (hKRl:KnR l) (hSR:∀ s ∈ sl,R64 s) (hf:1≤f) (hf2:∃ q:f - 1<sl.length,sl[f - 1]=p0) (ga_:V.heap[ga]?=some (.cells #[.int .i64 h.1.1,.int .i64 h.1.2,.int .i64 h.2.1,.int .i64 h.2.2] 35 (0,0))) (gb_:V.heap[gb]?=some (.cells #[.int .i64 y.1,.int .i64 y.2,.int .i64 z.1,.int .i64 z.2] 35 (0,0))) (hhR:R64 h.1∧R64 h.2) (hyR:R64 y) (hzR:R64 z) :
  rnT18.wp Try.prog (bodyPost Try.prog Try.f20 (NewSQ w R)) ⟨#[.slice (some al) n cap,z1,z2,z3,z4,.slice (some sa) ns csl,z6,z7,z8,.slice (some ba) ni cb,z10,z11,z12,z13,.int .i64 (f:Int),z15,z16,.int .i64 ez,.pointer (some ⟨ga,0,none⟩),.pointer (some ⟨gb,0,none⟩),z20,z21,z22,z23,z24,z25,z26,z27,z28,z29,z30,z31,z32,z33,z34,z35,z36,z37,z38,z39,z40,z41,z42,z43,z44,z45,z46,z47,z48,z49,z50,z51,z52,z53,z54,z55,z56,z57,z58,z59,z60,z61,z62,z63,z64,z65,z66,z67,z68,z69,z70,z71,z72,z73,z74,z75,z76,z77,z78,z79,z80,z81,z82,z83,z84,z85,z86,z87,z88,z89,z90,z91,z92,z93,z94,z95,z96,z97,z98,z99,z100,z101,z102,z103,z104,z105,z106,z107,z108,z109,z110,z111,z112,z113,z114,z115,z116,z117,z118,z119,z120,z121,z122,z123,z124,z125,z126,z127,z128,z129,z130,z131,z132,z133,z134,z135,z136,z137,z138,z139,z140,z141,z142,z143,z144,z145,z146,z147,z148,z149,z150,z151,z152,z153,z154,z155,z156,z157,z158,z159,z160,z161,z162,z163,z164,z165,z166,z167,z168,z169,z170,z171,z172,z173,z174,z175,z176,z177,z178,z179,z180,z181,z182,z183,z184,z185,z186,z187,z188,z189,z190,z191,z192,z193,z194,z195,z196,z197,z198,z199,z200,z201,z202,z203,z204,z205,z206,z207,z208,z209,z210,z211,z212,z213,z214,z215,z216,z217,z218,z219,z220,z221,z222,z223,z224,z225,z226,z227,z228,z229,z230,z231,z232,z233,z234,z235,z236,z237,z238,z239,z240,z241,z242,z243,z244,z245,z246,z247,z248,z249,z250,z251,z252,z253],[]⟩ V:=by
 have HN:=Lib.hid hn
 have HNS:=Lib.hid hns
 have HNI:=Lib.hid hni
 have HBI:=Lib.hid hBI
 have HC0:=Lib.hid hc
 have HB:=Lib.hid hB
 have HKR:=Lib.hid hKRl
 have HSR:=Lib.hid hSR
 clear hn hns hni hBI hc hB hKRl hSR
 have HR0:=Lib.hid hR0
 have HR1:=Lib.hid hR1
 have GA:=Lib.hid ga_
 have GB:=Lib.hid gb_
 have HF2:=Lib.hid hf2
 clear hR0 hR1 ga_ gb_ hf2
 have hKR:KnR (h :: (B.map (·.1) ++ [(y,z)])):=by intro k hk;rcases List.mem_cons.1 hk with e|hk;(rw [e];exact hhR);rcases List.mem_append.1 hk with hk|hk;(obtain ⟨x,hx,rfl⟩:=List.mem_map.1 hk;obtain ⟨j,hj,rfl⟩:=List.getElem_of_mem hx;obtain ⟨h1,h2,h3⟩:=HBI.out.2 j (by rw [← HBI.out.1];exact hj) hj;rw [h3];exact HKR.out _ (List.getElem_mem h1));have e:k=(y,z):=(by simpa using hk);rw [e];exact ⟨hyR,hzR⟩
 have HKK:=Lib.hid hKR
 clear hKR
 rw [rnE18]
 refine wp_seq_k (fun K18 hK18=>?_)
 have HK18:=Lib.hid hK18
 clear hK18
 conv=>arg 2;whnf
 by_cases he:ez=0
 ·have j0:(ez != 0)=false:=by simpa using he
  have HE:=Lib.hid he
  clear he
  go_wp2
  refine HK18.out _ _ ?_
  exact rn_d w R l sl I B h (y,z) p0 (HR1.out HE.out) HN.out HNS.out HNI.out HBI.out HC0.out HB.out h64 hs64 hni64 HKR.out HSR.out hf HF2.out GA.out GB.out HKK.out
 ·have j0:(ez != 0)=true:=by simpa using he
  have HE:=Lib.hid he
  clear he
  go_wp2
  go_ret2
  rw [HR0.out HE.out]
  exact ⟨_,rfl,rfl,HB.out⟩
theorem rn_17 (w:World) (R:Option MapV × Int) (l:List Kn) (sl:List Rt) (I:List Nat) (B:List (Kn × Rt)) (h kl:Kn) (p0 ql y z:Rt) (ez:Int) {z1 z2 z3 z4 z6 z7 z8 z10 z11 z12 z13 z17 z19 z20 z21 z22 z23 z24 z25 z26 z27 z28 z29 z30 z31 z32 z33 z34 z35 z36 z37 z38 z39 z40 z41 z42 z43 z44 z45 z46 z47 z48 z49 z50 z51 z52 z53 z54 z55 z56 z57 z58 z59 z60 z61 z62 z63 z64 z65 z66 z67 z68 z69 z70 z71 z72 z73 z74 z75 z76 z77 z78 z79 z80 z81 z82 z83 z84 z85 z86 z87 z88 z89 z90 z91 z92 z93 z94 z95 z96 z97 z98 z99 z100 z101 z102 z103 z104 z105 z106 z107 z108 z109 z110 z111 z112 z113 z114 z115 z116 z117 z118 z119 z120 z121 z122 z123 z124 z125 z126 z127 z128 z129 z130 z131 z132 z133 z134 z135 z136 z137 z138 z139 z140 z141 z142 z143 z144 z145 z146 z147 z148 z149 z150 z151 z152 z153 z154 z155 z156 z157 z158 z159 z160 z161 z162 z163 z164 z165 z166 z167 z168 z169 z170 z171 z172 z173 z174 z175 z176 z177 z178 z179 z180 z181 z182 z183 z184 z185 z186 z187 z188 z189 z190 z191 z192 z193 z194 z195 z196 z197 z198 z199 z200 z201 z202 z203 z204 z205 z206 z207 z208 z209 z210 z211 z212 z213 z214 z215 z216 z217 z218 z219 z220 z221 z222 z223 z224 z225 z226 z227 z228 z229 z230 z231 z232 z233 z234 z235 z236 z237 z238 z239 z240 z241 z242 z243 z244 z245 z246 z247 z248 z249 z250 z251 z252 z253:Value} {al sa ba:Addr} {n cap ns csl ni cb f la ga gt:Nat} {V:World} (hal:alongS kl ql y=(z,ez)) (hR0:ez≠0 → R=(none,ez)) (hR1:ez=0 → R=finR ⟨h :: (B.map (·.1) ++ [(y,z)]),p0 :: B.map (·.2),0⟩) (hn:n=l.length) (hns:ns=sl.length) (hni:ni=I.length) (hBI:B.length=I.length∧∀ j (hj:j<I.length) (hj':j<B.length),∃ (h1:I[j]<l.length) (h2:I[j]<sl.length),B[j]=(l[I[j]],sl[I[j]])) (hc:RCtx V al sa ba l sl I) (hB:Below w.heap.size w V) (h64:n≤64) (hs64:ns≤64) (hni64:ni≤64) (hKRl:KnR l) (hSR:∀ s ∈ sl,R64 s) (hf:1≤f) (hf2:∃ q:f - 1<sl.length,sl[f - 1]=p0) (hla:∃ q:la<l.length,l[la]=kl) (hla2:∃ q:la<sl.length,sl[la]=ql) (ga_:V.heap[ga]?=some (.cells #[.int .i64 h.1.1,.int .i64 h.1.2,.int .i64 h.2.1,.int .i64 h.2.2] 35 (0,0))) (gt_:V.heap[gt]?=some (.cells #[.int .i64 y.1,.int .i64 y.2] 31 (0,0))) (hhR:R64 h.1∧R64 h.2) (hyR:R64 y) :
  rnT17.wp Try.prog (bodyPost Try.prog Try.f20 (NewSQ w R)) ⟨#[.slice (some al) n cap,z1,z2,z3,z4,.slice (some sa) ns csl,z6,z7,z8,.slice (some ba) ni cb,z10,z11,z12,z13,.int .i64 (f:Int),.int .i64 (la:Int),.pointer (some ⟨gt,0,none⟩),z17,.pointer (some ⟨ga,0,none⟩),z19,z20,z21,z22,z23,z24,z25,z26,z27,z28,z29,z30,z31,z32,z33,z34,z35,z36,z37,z38,z39,z40,z41,z42,z43,z44,z45,z46,z47,z48,z49,z50,z51,z52,z53,z54,z55,z56,z57,z58,z59,z60,z61,z62,z63,z64,z65,z66,z67,z68,z69,z70,z71,z72,z73,z74,z75,z76,z77,z78,z79,z80,z81,z82,z83,z84,z85,z86,z87,z88,z89,z90,z91,z92,z93,z94,z95,z96,z97,z98,z99,z100,z101,z102,z103,z104,z105,z106,z107,z108,z109,z110,z111,z112,z113,z114,z115,z116,z117,z118,z119,z120,z121,z122,z123,z124,z125,z126,z127,z128,z129,z130,z131,z132,z133,z134,z135,z136,z137,z138,z139,z140,z141,z142,z143,z144,z145,z146,z147,z148,z149,z150,z151,z152,z153,z154,z155,z156,z157,z158,z159,z160,z161,z162,z163,z164,z165,z166,z167,z168,z169,z170,z171,z172,z173,z174,z175,z176,z177,z178,z179,z180,z181,z182,z183,z184,z185,z186,z187,z188,z189,z190,z191,z192,z193,z194,z195,z196,z197,z198,z199,z200,z201,z202,z203,z204,z205,z206,z207,z208,z209,z210,z211,z212,z213,z214,z215,z216,z217,z218,z219,z220,z221,z222,z223,z224,z225,z226,z227,z228,z229,z230,z231,z232,z233,z234,z235,z236,z237,z238,z239,z240,z241,z242,z243,z244,z245,z246,z247,z248,z249,z250,z251,z252,z253],[]⟩ V:=by
 obtain ⟨y1,y2⟩:=y
 obtain ⟨⟨k1,k2⟩,k3,k4⟩:=kl
 obtain ⟨q1,q2⟩:=ql
 have hzR:R64 z:=by have:=congrArg (fun x=>x.1) hal;dsimp only at this;rw [← this];unfold alongS;exact do_R add_R _ _ _
 obtain ⟨z1,z2⟩:=z
 obtain ⟨hl1,hle⟩:=hla
 obtain ⟨hs1,hse⟩:=hla2
 have hkr:=hKRl _ (List.getElem_mem hl1)
 rw [hle] at hkr
 have MAT:=Lib.hid (fun u=>(by have:=qat_any ((k1,k2),(k3,k4)) (q1,q2) (y1,y2) u hkr.1;rw [hal] at this;exact this:Calls Try.prog 56 #[.agg #[.int .i64 k1,.int .i64 k2,.int .i64 k3,.int .i64 k4],.agg #[.int .i64 q1,.int .i64 q2],.agg #[.int .i64 y1,.int .i64 y2]] u fun e w'=>e = .returned (.tuple #[.agg #[.int .i64 y1,.int .i64 y2,.int .i64 z1,.int .i64 z2],.int .i64 ez])∧Below u.heap.size u w'))
 have hlan:la<n:=by omega
 have hlas:la<ns:=by omega
 have pla:(0:Int)≤(la:Int):=by omega
 have plb:((la:Int)<(n:Int))=True:=eq_true (by omega)
 have plc:(la<n)=True:=eq_true (by omega)
 have psb:((la:Int)<(ns:Int))=True:=eq_true (by omega)
 have psc:(la<ns)=True:=eq_true (by omega)
 have HN:=Lib.hid hn
 have HNS:=Lib.hid hns
 have HNI:=Lib.hid hni
 have HBI:=Lib.hid hBI
 have HC0:=Lib.hid hc
 have HB:=Lib.hid hB
 have HKR:=Lib.hid hKRl
 have HSR:=Lib.hid hSR
 clear hn hns hni hBI hc hB hKRl hSR
 have HR0:=Lib.hid hR0
 have HR1:=Lib.hid hR1
 have GA:=Lib.hid ga_
 have HF2:=Lib.hid hf2
 have HHR:=Lib.hid hhR
 have HYR:=Lib.hid hyR
 have HZR:=Lib.hid hzR
 have gtz:=(Hand.hz gt_).1
 have HC:=Lib.hid (fun (w_:World) (hb:Below V.heap.size V w_)=>(by have x:=(HC0.out.below hb).kn la hl1;have y:=(HC0.out.below hb).sl la hs1;rw [hle] at x;rw [hse] at y;have g:=Hand.hc2 (Hand.kb hb gt_);exact ⟨hb,x.1,x.2.1,x.2.2.1,x.2.2.2,y.1,y.2,g.1,g.2.2.1⟩:Below V.heap.size V w_∧w_.cell? (al.add (la*4))=some (.int .i64 k1)∧w_.cell? ⟨(al.add (la*4)).block,(al.add (la*4)).off+1,none⟩=some (.int .i64 k2)∧w_.cell? ⟨(al.add (la*4)).block,(al.add (la*4)).off+2,none⟩=some (.int .i64 k3)∧w_.cell? ⟨(al.add (la*4)).block,(al.add (la*4)).off+3,none⟩=some (.int .i64 k4)∧w_.cell? (sa.add (la*2))=some (.int .i64 q1)∧w_.cell? ⟨(sa.add (la*2)).block,(sa.add (la*2)).off+1,none⟩=some (.int .i64 q2)∧w_.cell? ⟨gt,0,none⟩=some (.int .i64 y1)∧w_.cell? ⟨gt,1,none⟩=some (.int .i64 y2)))
 have BR:Below V.heap.size V V:=Below.refl _ _
 clear hR0 hR1 ga_ gt_ hf2 hhR hyR hzR hle hse hkr hal hlan hlas
 rw [rnE17]
 refine wp_seq_k (fun K17 hK17=>?_)
 have HK17:=Lib.hid hK17
 clear hK17
 conv=>arg 2;whnf
 go_wp2_with fail
 go_region_held3 (fun w_=>Below V.heap.size V w_∧w_.cell? (al.add (la*4))=some (.int .i64 k1)∧w_.cell? ⟨(al.add (la*4)).block,(al.add (la*4)).off+1,none⟩=some (.int .i64 k2)∧w_.cell? ⟨(al.add (la*4)).block,(al.add (la*4)).off+2,none⟩=some (.int .i64 k3)∧w_.cell? ⟨(al.add (la*4)).block,(al.add (la*4)).off+3,none⟩=some (.int .i64 k4)∧w_.cell? (sa.add (la*2))=some (.int .i64 q1)∧w_.cell? ⟨(sa.add (la*2)).block,(sa.add (la*2)).off+1,none⟩=some (.int .i64 q2)∧w_.cell? ⟨gt,0,none⟩=some (.int .i64 y1)∧w_.cell? ⟨gt,1,none⟩=some (.int .i64 y2)) (first|(refine HC.out _ ?_;repeat (with_reducible first|assumption|apply Below.drew|refine Below.setCell ?_ (by dsimp only;exact Hand.z) _|refine Below.alloc ?_ Hand.z _))) (first|(go_at_call 56;((with_reducible refine (MAT.out _).mono ?_);rintro e_ w5 ⟨rfl,hb5⟩;have BB:Below V.heap.size V w5:=Hand.stepB hb5 Hand.b (Nat.le_refl _);have zBB:=BB.size;(try (have nx:=Hand.kb (i:=V.heap.size) (x:=.cells #[.int .i64 0,.int .i64 0,.int .i64 0,.int .i64 0] 35 (0,0)) hb5 (by first|exact Hand.q3 _ _ _ rfl|(rw [Hand.q5];exact Hand.q3 _ _ _ rfl)|exact Hand.q3 _ _ _ (by simp));obtain ⟨nc0,nf0,nc1,nf1,nc2,nf2,nc3,nf3⟩:=Hand.hc4 nx;obtain ⟨nz0,nz1,nz2,ny0,ny1⟩:=Hand.hz nx)))))
 all_goals (refine HK17.out _ _ ?_)
 all_goals (refine rn_18 w R l sl I B h p0 (y1,y2) (z1,z2) ez (la:=la) HR0.out HR1.out HN.out HNS.out HNI.out HBI.out (HC0.out.below ?_) (HB.out.trans (Below.mono ?_ HB.out.size)) h64 hs64 hni64 HKR.out HSR.out hf HF2.out (Hand.kb ?_ GA.out) ?_ HHR.out HYR.out HZR.out)
 all_goals (first|((repeat (with_reducible first|assumption|apply Below.drew|refine Below.setCell ?_ (by dsimp only;exact Hand.z) _|refine Below.alloc ?_ Hand.z _));done)|(first|omega|(simp (disch:=try exact Hand.z) only [Hand.q5,Hand.q4,Hand.q3];done)|(simp (disch:=try exact Hand.z) only [Hand.q5,Hand.q1,Hand.q2,Hand.q4,Hand.q3,nx];first|done|rfl)))
theorem rn_16 (w:World) (R:Option MapV × Int) (l:List Kn) (sl:List Rt) (I:List Nat) (B:List (Kn × Rt)) (h kl:Kn) (p0 ql y z:Rt) (ey ez:Int) {z1 z2 z3 z4 z6 z7 z8 z10 z11 z12 z13 z19 z20 z21 z22 z23 z24 z25 z26 z27 z28 z29 z30 z31 z32 z33 z34 z35 z36 z37 z38 z39 z40 z41 z42 z43 z44 z45 z46 z47 z48 z49 z50 z51 z52 z53 z54 z55 z56 z57 z58 z59 z60 z61 z62 z63 z64 z65 z66 z67 z68 z69 z70 z71 z72 z73 z74 z75 z76 z77 z78 z79 z80 z81 z82 z83 z84 z85 z86 z87 z88 z89 z90 z91 z92 z93 z94 z95 z96 z97 z98 z99 z100 z101 z102 z103 z104 z105 z106 z107 z108 z109 z110 z111 z112 z113 z114 z115 z116 z117 z118 z119 z120 z121 z122 z123 z124 z125 z126 z127 z128 z129 z130 z131 z132 z133 z134 z135 z136 z137 z138 z139 z140 z141 z142 z143 z144 z145 z146 z147 z148 z149 z150 z151 z152 z153 z154 z155 z156 z157 z158 z159 z160 z161 z162 z163 z164 z165 z166 z167 z168 z169 z170 z171 z172 z173 z174 z175 z176 z177 z178 z179 z180 z181 z182 z183 z184 z185 z186 z187 z188 z189 z190 z191 z192 z193 z194 z195 z196 z197 z198 z199 z200 z201 z202 z203 z204 z205 z206 z207 z208 z209 z210 z211 z212 z213 z214 z215 z216 z217 z218 z219 z220 z221 z222 z223 z224 z225 z226 z227 z228 z229 z230 z231 z232 z233 z234 z235 z236 z237 z238 z239 z240 z241 z242 z243 z244 z245 z246 z247 z248 z249 z250 z251 z252 z253:Value} {al sa ba:Addr} {n cap ns csl ni cb f la ga gt:Nat} {V:World} (hR0_:ey≠0 → R=(none,ey)) (hal:ey=0 → alongS kl ql y=(z,ez)) (hR0:ey=0 → ez≠0 → R=(none,ez)) (hR1:ey=0 → ez=0 → R=finR ⟨h :: (B.map (·.1) ++ [(y,z)]),p0 :: B.map (·.2),0⟩) (hn:n=l.length) (hns:ns=sl.length) (hni:ni=I.length) (hBI:B.length=I.length∧∀ j (hj:j<I.length) (hj':j<B.length),∃ (h1:I[j]<l.length) (h2:I[j]<sl.length),B[j]=(l[I[j]],sl[I[j]])) (hc:RCtx V al sa ba l sl I) (hB:Below w.heap.size w V) (h64:n≤64) (hs64:ns≤64) (hni64:ni≤64) (hKRl:KnR l) (hSR:∀ s ∈ sl,R64 s) (hf:1≤f) (hf2:∃ q:f - 1<sl.length,sl[f - 1]=p0) (hla:∃ q:la<l.length,l[la]=kl) (hla2:∃ q:la<sl.length,sl[la]=ql) (ga_:V.heap[ga]?=some (.cells #[.int .i64 h.1.1,.int .i64 h.1.2,.int .i64 h.2.1,.int .i64 h.2.2] 35 (0,0))) (gt_:V.heap[gt]?=some (.cells #[.int .i64 y.1,.int .i64 y.2] 31 (0,0))) (hhR:R64 h.1∧R64 h.2) (hyR:R64 y) :
  rnT16.wp Try.prog (bodyPost Try.prog Try.f20 (NewSQ w R)) ⟨#[.slice (some al) n cap,z1,z2,z3,z4,.slice (some sa) ns csl,z6,z7,z8,.slice (some ba) ni cb,z10,z11,z12,z13,.int .i64 (f:Int),.int .i64 (la:Int),.pointer (some ⟨gt,0,none⟩),.int .i64 ey,.pointer (some ⟨ga,0,none⟩),z19,z20,z21,z22,z23,z24,z25,z26,z27,z28,z29,z30,z31,z32,z33,z34,z35,z36,z37,z38,z39,z40,z41,z42,z43,z44,z45,z46,z47,z48,z49,z50,z51,z52,z53,z54,z55,z56,z57,z58,z59,z60,z61,z62,z63,z64,z65,z66,z67,z68,z69,z70,z71,z72,z73,z74,z75,z76,z77,z78,z79,z80,z81,z82,z83,z84,z85,z86,z87,z88,z89,z90,z91,z92,z93,z94,z95,z96,z97,z98,z99,z100,z101,z102,z103,z104,z105,z106,z107,z108,z109,z110,z111,z112,z113,z114,z115,z116,z117,z118,z119,z120,z121,z122,z123,z124,z125,z126,z127,z128,z129,z130,z131,z132,z133,z134,z135,z136,z137,z138,z139,z140,z141,z142,z143,z144,z145,z146,z147,z148,z149,z150,z151,z152,z153,z154,z155,z156,z157,z158,z159,z160,z161,z162,z163,z164,z165,z166,z167,z168,z169,z170,z171,z172,z173,z174,z175,z176,z177,z178,z179,z180,z181,z182,z183,z184,z185,z186,z187,z188,z189,z190,z191,z192,z193,z194,z195,z196,z197,z198,z199,z200,z201,z202,z203,z204,z205,z206,z207,z208,z209,z210,z211,z212,z213,z214,z215,z216,z217,z218,z219,z220,z221,z222,z223,z224,z225,z226,z227,z228,z229,z230,z231,z232,z233,z234,z235,z236,z237,z238,z239,z240,z241,z242,z243,z244,z245,z246,z247,z248,z249,z250,z251,z252,z253],[]⟩ V:=by
 have HN:=Lib.hid hn
 have HNS:=Lib.hid hns
 have HNI:=Lib.hid hni
 have HBI:=Lib.hid hBI
 have HC0:=Lib.hid hc
 have HB:=Lib.hid hB
 have HKR:=Lib.hid hKRl
 have HSR:=Lib.hid hSR
 clear hn hns hni hBI hc hB hKRl hSR
 have HR0:=Lib.hid hR0_
 have HR1:=Lib.hid hR0
 have HR2:=Lib.hid hR1
 have HAL:=Lib.hid hal
 have GA:=Lib.hid ga_
 have GT:=Lib.hid gt_
 have HF2:=Lib.hid hf2
 have HLA:=Lib.hid hla
 have HLA2:=Lib.hid hla2
 have HHR:=Lib.hid hhR
 have HYR:=Lib.hid hyR
 clear hR0_ hR0 hR1 hal ga_ gt_ hf2 hla hla2 hhR hyR
 rw [rnE16]
 refine wp_seq_k (fun K16 hK16=>?_)
 have HK16:=Lib.hid hK16
 clear hK16
 conv=>arg 2;whnf
 by_cases he:ey=0
 ·have j0:(ey != 0)=false:=by simpa using he
  have HE:=Lib.hid he
  clear he
  go_wp2
  refine HK16.out _ _ ?_
  exact rn_17 w R l sl I B h kl p0 ql y z ez (HAL.out HE.out) (HR1.out HE.out) (HR2.out HE.out) HN.out HNS.out HNI.out HBI.out HC0.out HB.out h64 hs64 hni64 HKR.out HSR.out hf HF2.out HLA.out HLA2.out GA.out GT.out HHR.out HYR.out
 ·have j0:(ey != 0)=true:=by simpa using he
  have HE:=Lib.hid he
  clear he
  go_wp2
  go_ret2
  rw [HR0.out HE.out]
  exact ⟨_,rfl,rfl,HB.out⟩
theorem rn_15 (w:World) (R:Option MapV × Int) (l:List Kn) (sl:List Rt) (I:List Nat) (B:List (Kn × Rt)) (h kl:Kn) (p0 ql x y z:Rt) (ey ez:Int) {z1 z2 z3 z4 z6 z7 z8 z10 z11 z12 z13 z17 z19 z20 z21 z22 z23 z24 z25 z26 z27 z28 z29 z30 z31 z32 z33 z34 z35 z36 z37 z38 z39 z40 z41 z42 z43 z44 z45 z46 z47 z48 z49 z50 z51 z52 z53 z54 z55 z56 z57 z58 z59 z60 z61 z62 z63 z64 z65 z66 z67 z68 z69 z70 z71 z72 z73 z74 z75 z76 z77 z78 z79 z80 z81 z82 z83 z84 z85 z86 z87 z88 z89 z90 z91 z92 z93 z94 z95 z96 z97 z98 z99 z100 z101 z102 z103 z104 z105 z106 z107 z108 z109 z110 z111 z112 z113 z114 z115 z116 z117 z118 z119 z120 z121 z122 z123 z124 z125 z126 z127 z128 z129 z130 z131 z132 z133 z134 z135 z136 z137 z138 z139 z140 z141 z142 z143 z144 z145 z146 z147 z148 z149 z150 z151 z152 z153 z154 z155 z156 z157 z158 z159 z160 z161 z162 z163 z164 z165 z166 z167 z168 z169 z170 z171 z172 z173 z174 z175 z176 z177 z178 z179 z180 z181 z182 z183 z184 z185 z186 z187 z188 z189 z190 z191 z192 z193 z194 z195 z196 z197 z198 z199 z200 z201 z202 z203 z204 z205 z206 z207 z208 z209 z210 z211 z212 z213 z214 z215 z216 z217 z218 z219 z220 z221 z222 z223 z224 z225 z226 z227 z228 z229 z230 z231 z232 z233 z234 z235 z236 z237 z238 z239 z240 z241 z242 z243 z244 z245 z246 z247 z248 z249 z250 z251 z252 z253:Value} {al sa ba:Addr} {n cap ns csl ni cb f la ga gt:Nat} {V0 V:World} (hX:rAdd kl.1 (1,1)=(y,ey)) (hE:ey≠0 → R=(none,ey)) (hal:ey=0 → alongS kl ql y=(z,ez)) (hR0:ey=0 → ez≠0 → R=(none,ez)) (hR1:ey=0 → ez=0 → R=finR ⟨h :: (B.map (·.1) ++ [(y,z)]),p0 :: B.map (·.2),0⟩) (hn:n=l.length) (hns:ns=sl.length) (hni:ni=I.length) (hBI:B.length=I.length∧∀ j (hj:j<I.length) (hj':j<B.length),∃ (h1:I[j]<l.length) (h2:I[j]<sl.length),B[j]=(l[I[j]],sl[I[j]])) (hc:RCtx V0 al sa ba l sl I) (hB:Below w.heap.size w V0) (h64:n≤64) (hs64:ns≤64) (hni64:ni≤64) (hKRl:KnR l) (hSR:∀ s ∈ sl,R64 s) (hf:1≤f) (hf2:∃ q:f - 1<sl.length,sl[f - 1]=p0) (hla:∃ q:la<l.length,l[la]=kl) (hla2:∃ q:la<sl.length,sl[la]=ql) (hV:Below V0.heap.size V0 V) (hgt:V0.heap.size≤gt) (hne:ga≠gt) (ga_:V.heap[ga]?=some (.cells #[.int .i64 h.1.1,.int .i64 h.1.2,.int .i64 h.2.1,.int .i64 h.2.2] 35 (0,0))) (gt_:V.heap[gt]?=some (.cells #[.int .i64 x.1,.int .i64 x.2] 31 (0,0))) (hhR:R64 h.1∧R64 h.2) :
  rnT15.wp Try.prog (bodyPost Try.prog Try.f20 (NewSQ w R)) ⟨#[.slice (some al) n cap,z1,z2,z3,z4,.slice (some sa) ns csl,z6,z7,z8,.slice (some ba) ni cb,z10,z11,z12,z13,.int .i64 (f:Int),.int .i64 (la:Int),.pointer (some ⟨gt,0,none⟩),z17,.pointer (some ⟨ga,0,none⟩),z19,z20,z21,z22,z23,z24,z25,z26,z27,z28,z29,z30,z31,z32,z33,z34,z35,z36,z37,z38,z39,z40,z41,z42,z43,z44,z45,z46,z47,z48,z49,z50,z51,z52,z53,z54,z55,z56,z57,z58,z59,z60,z61,z62,z63,z64,z65,z66,z67,z68,z69,z70,z71,z72,z73,z74,z75,z76,z77,z78,z79,z80,z81,z82,z83,z84,z85,z86,z87,z88,z89,z90,z91,z92,z93,z94,z95,z96,z97,z98,z99,z100,z101,z102,z103,z104,z105,z106,z107,z108,z109,z110,z111,z112,z113,z114,z115,z116,z117,z118,z119,z120,z121,z122,z123,z124,z125,z126,z127,z128,z129,z130,z131,z132,z133,z134,z135,z136,z137,z138,z139,z140,z141,z142,z143,z144,z145,z146,z147,z148,z149,z150,z151,z152,z153,z154,z155,z156,z157,z158,z159,z160,z161,z162,z163,z164,z165,z166,z167,z168,z169,z170,z171,z172,z173,z174,z175,z176,z177,z178,z179,z180,z181,z182,z183,z184,z185,z186,z187,z188,z189,z190,z191,z192,z193,z194,z195,z196,z197,z198,z199,z200,z201,z202,z203,z204,z205,z206,z207,z208,z209,z210,z211,z212,z213,z214,z215,z216,z217,z218,z219,z220,z221,z222,z223,z224,z225,z226,z227,z228,z229,z230,z231,z232,z233,z234,z235,z236,z237,z238,z239,z240,z241,z242,z243,z244,z245,z246,z247,z248,z249,z250,z251,z252,z253],[]⟩ V:=by
 obtain ⟨x1,x2⟩:=x
 obtain ⟨⟨k1,k2⟩,k3,k4⟩:=kl
 have hyR:R64 y:=by have:=congrArg (fun x=>x.1) hX;dsimp only at this;rw [← this];exact add_R _ _
 obtain ⟨y1,y2⟩:=y
 obtain ⟨hl1,hle⟩:=hla
 have MAD:=Lib.hid (fun u=>(by have:=qadd_any (k1,k2) (1,1) u;rw [hX] at this;exact this:Calls Try.prog 60 #[.agg #[.int .i64 k1,.int .i64 k2],.agg #[.int .i64 1,.int .i64 1]] u fun e w'=>e = .returned (.tuple #[.agg #[.int .i64 y1,.int .i64 y2],.int .i64 ey])∧Below u.heap.size u w'))
 have M1:=Lib.hid qone_any
 have hlan:la<n:=by omega
 have pla:(0:Int)≤(la:Int):=by omega
 have plb:((la:Int)<(n:Int))=True:=eq_true (by omega)
 have plc:(la<n)=True:=eq_true (by omega)
 have HN:=Lib.hid hn
 have HNS:=Lib.hid hns
 have HNI:=Lib.hid hni
 have HBI:=Lib.hid hBI
 have HC0:=Lib.hid hc
 have HB:=Lib.hid hB
 have HKR:=Lib.hid hKRl
 have HSR:=Lib.hid hSR
 clear hn hns hni hBI hc hB hKRl hSR
 have HE_:=Lib.hid hE
 have HAL:=Lib.hid hal
 have HR0:=Lib.hid hR0
 have HR1:=Lib.hid hR1
 have GA:=Lib.hid ga_
 have GT:=Lib.hid gt_
 have HF2:=Lib.hid hf2
 have HLA:=Lib.hid (show ∃ q:la<l.length,l[la]=((k1,k2),(k3,k4)) from ⟨hl1,hle⟩)
 have HLA2:=Lib.hid hla2
 have HHR:=Lib.hid hhR
 have HYR:=Lib.hid hyR
 have HV:=Lib.hid hV
 have gtz:=(Hand.hz gt_).1
 have gaz:=(Hand.hz ga_).1
 have HC:=Lib.hid (fun (w_:World) (hb:Below V0.heap.size V0 w_)=>(by have x:=(HC0.out.below hb).kn la hl1;rw [hle] at x;exact ⟨hb,x.1,x.2.1⟩:Below V0.heap.size V0 w_∧w_.cell? (al.add (la*4))=some (.int .i64 k1)∧w_.cell? ⟨(al.add (la*4)).block,(al.add (la*4)).off+1,none⟩=some (.int .i64 k2)))
 have BR:Below V.heap.size V V:=Below.refl _ _
 have B0:=hV
 have zV:=hV.size
 clear hX hE hal hR0 hR1 ga_ gt_ hf2 hle hla2 hhR hyR hV
 rw [rnE15]
 refine wp_seq_k (fun K15 hK15=>?_)
 have HK15:=Lib.hid hK15
 clear hK15
 conv=>arg 2;whnf
 go_wp2_with fail
 go_region_held3 (fun w_=>Below V0.heap.size V0 w_∧w_.cell? (al.add (la*4))=some (.int .i64 k1)∧w_.cell? ⟨(al.add (la*4)).block,(al.add (la*4)).off+1,none⟩=some (.int .i64 k2)) (first|(refine HC.out _ ?_;repeat (with_reducible first|assumption|apply Below.drew|refine Below.setCell ?_ (by dsimp only;exact Hand.z) _|refine Below.alloc ?_ Hand.z _))) (first|(go_at_call 55;((with_reducible refine (M1.out _).mono ?_);rintro e_ w5 ⟨rfl,hb5⟩;have BB:Below V.heap.size V w5:=Hand.stepB hb5 Hand.b (Nat.le_refl _);have zBB:=BB.size;have B1:Below V0.heap.size V0 w5:=Hand.stepB hb5 Hand.b (Nat.le_refl _)))|(go_at_call 60;((with_reducible refine (MAD.out _).mono ?_);rintro e_ w6 ⟨rfl,hb6⟩;have BC:Below V.heap.size V w6:=Hand.stepB hb6 Hand.b (Nat.le_refl _);have zBC:=BC.size;have B2:Below V0.heap.size V0 w6:=Hand.stepB hb6 Hand.b (Nat.le_refl _);obtain ⟨tc0,tf0,tc1,tf1⟩:=Hand.hc2 (Hand.kb BC GT.out))))
 all_goals (refine HK15.out _ _ ?_)
 all_goals (refine rn_16 w R l sl I B h ((k1,k2),(k3,k4)) p0 ql (y1,y2) z ey ez (ga:=ga) (gt:=gt) HE_.out HAL.out HR0.out HR1.out HN.out HNS.out HNI.out HBI.out (HC0.out.below Hand.b) (HB.out.trans (Below.mono Hand.b HB.out.size)) h64 hs64 hni64 HKR.out HSR.out hf HF2.out HLA.out HLA2.out ?_ ?_ HHR.out HYR.out)
 all_goals (first|(rw [Hand.q2 _ _ _ _ _ (Ne.symm hne),Hand.q2 _ _ _ _ _ (Ne.symm hne)];exact Hand.kb BC GA.out)|(rw [Hand.q1,Hand.q1,Hand.kb BC GT.out];rfl))
end Go.Proofs.Ythlpaglldhgmfaa.PA
