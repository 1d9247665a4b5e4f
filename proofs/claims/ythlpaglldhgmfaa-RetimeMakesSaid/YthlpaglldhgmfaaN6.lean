/- Chapter 6: the reference's New: the first knot. Chapter 6: the reference's New: ahead of the first knot. Chapter 6: the reference's New: the bends' ends; no bends. Chapter 6: the reference's New: no bends, from its head. -/
import Derived.Test.YthlpaglldhgmfaaN5
import Derived.Deep.RegionHeld3
import Derived.Test.YthlpaglldhgmfaaM7
set_option maxHeartbeats 4000000
set_option maxRecDepth 100000
namespace Go.Proofs.Ythlpaglldhgmfaa.PA
open Go Go.RowKit Go.Proofs.YthlpaglldhgmfaaW.PrintWords Go.Proofs.YthlpaglldhgmfaaW.PrintLast Go.Proofs.YthlpaglldhgmfaaW.PrintMore
attribute [local go_sem high] eqA31 eqA35
set_option linter.unusedSimpArgs false
set_option linter.unusedVariables false
theorem rn_14 (w:World) (R:Option MapV × Int) (l:List Kn) (sl:List Rt) (I:List Nat) (B:List (Kn × Rt)) (h kl:Kn) (p0 ql x y z:Rt) (eh ey ez:Int) {z1 z2 z3 z4 z6 z7 z8 z10 z11 z12 z13 z19 z20 z21 z22 z23 z24 z25 z26 z27 z28 z29 z30 z31 z32 z33 z34 z35 z36 z37 z38 z39 z40 z41 z42 z43 z44 z45 z46 z47 z48 z49 z50 z51 z52 z53 z54 z55 z56 z57 z58 z59 z60 z61 z62 z63 z64 z65 z66 z67 z68 z69 z70 z71 z72 z73 z74 z75 z76 z77 z78 z79 z80 z81 z82 z83 z84 z85 z86 z87 z88 z89 z90 z91 z92 z93 z94 z95 z96 z97 z98 z99 z100 z101 z102 z103 z104 z105 z106 z107 z108 z109 z110 z111 z112 z113 z114 z115 z116 z117 z118 z119 z120 z121 z122 z123 z124 z125 z126 z127 z128 z129 z130 z131 z132 z133 z134 z135 z136 z137 z138 z139 z140 z141 z142 z143 z144 z145 z146 z147 z148 z149 z150 z151 z152 z153 z154 z155 z156 z157 z158 z159 z160 z161 z162 z163 z164 z165 z166 z167 z168 z169 z170 z171 z172 z173 z174 z175 z176 z177 z178 z179 z180 z181 z182 z183 z184 z185 z186 z187 z188 z189 z190 z191 z192 z193 z194 z195 z196 z197 z198 z199 z200 z201 z202 z203 z204 z205 z206 z207 z208 z209 z210 z211 z212 z213 z214 z215 z216 z217 z218 z219 z220 z221 z222 z223 z224 z225 z226 z227 z228 z229 z230 z231 z232 z233 z234 z235 z236 z237 z238 z239 z240 z241 z242 z243 z244 z245 z246 z247 z248 z249 z250 z251 z252 z253:Value} {al sa ba:Addr} {n cap ns csl ni cb f la ga gt:Nat} {V0 V:World} (hH0:eh≠0 → R=(none,eh)) (hX:rAdd kl.1 (1,1)=(y,ey)) (hE:eh=0 → ey≠0 → R=(none,ey)) (hal:eh=0 → ey=0 → alongS kl ql y=(z,ez)) (hR0:eh=0 → ey=0 → ez≠0 → R=(none,ez)) (hR1:eh=0 → ey=0 → ez=0 → R=finR ⟨h :: (B.map (·.1) ++ [(y,z)]),p0 :: B.map (·.2),0⟩) (hn:n=l.length) (hns:ns=sl.length) (hni:ni=I.length) (hBI:B.length=I.length∧∀ j (hj:j<I.length) (hj':j<B.length),∃ (h1:I[j]<l.length) (h2:I[j]<sl.length),B[j]=(l[I[j]],sl[I[j]])) (hc:RCtx V0 al sa ba l sl I) (hB:Below w.heap.size w V0) (h64:n≤64) (hs64:ns≤64) (hni64:ni≤64) (hKRl:KnR l) (hSR:∀ s ∈ sl,R64 s) (hf:1≤f) (hf2:∃ q:f - 1<sl.length,sl[f - 1]=p0) (hla:∃ q:la<l.length,l[la]=kl) (hla2:∃ q:la<sl.length,sl[la]=ql) (hV:Below V0.heap.size V0 V) (hgt:V0.heap.size≤gt) (hne:ga≠gt) (ga_:V.heap[ga]?=some (.cells #[.int .i64 h.1.1,.int .i64 h.1.2,.int .i64 h.2.1,.int .i64 h.2.2] 35 (0,0))) (gt_:V.heap[gt]?=some (.cells #[.int .i64 x.1,.int .i64 x.2] 31 (0,0))) (hhR:R64 h.1∧R64 h.2) :
  rnT14.wp Try.prog (bodyPost Try.prog Try.f20 (NewSQ w R)) ⟨#[.slice (some al) n cap,z1,z2,z3,z4,.slice (some sa) ns csl,z6,z7,z8,.slice (some ba) ni cb,z10,z11,z12,z13,.int .i64 (f:Int),.int .i64 (la:Int),.pointer (some ⟨gt,0,none⟩),.int .i64 eh,.pointer (some ⟨ga,0,none⟩),z19,z20,z21,z22,z23,z24,z25,z26,z27,z28,z29,z30,z31,z32,z33,z34,z35,z36,z37,z38,z39,z40,z41,z42,z43,z44,z45,z46,z47,z48,z49,z50,z51,z52,z53,z54,z55,z56,z57,z58,z59,z60,z61,z62,z63,z64,z65,z66,z67,z68,z69,z70,z71,z72,z73,z74,z75,z76,z77,z78,z79,z80,z81,z82,z83,z84,z85,z86,z87,z88,z89,z90,z91,z92,z93,z94,z95,z96,z97,z98,z99,z100,z101,z102,z103,z104,z105,z106,z107,z108,z109,z110,z111,z112,z113,z114,z115,z116,z117,z118,z119,z120,z121,z122,z123,z124,z125,z126,z127,z128,z129,z130,z131,z132,z133,z134,z135,z136,z137,z138,z139,z140,z141,z142,z143,z144,z145,z146,z147,z148,z149,z150,z151,z152,z153,z154,z155,z156,z157,z158,z159,z160,z161,z162,z163,z164,z165,z166,z167,z168,z169,z170,z171,z172,z173,z174,z175,z176,z177,z178,z179,z180,z181,z182,z183,z184,z185,z186,z187,z188,z189,z190,z191,z192,z193,z194,z195,z196,z197,z198,z199,z200,z201,z202,z203,z204,z205,z206,z207,z208,z209,z210,z211,z212,z213,z214,z215,z216,z217,z218,z219,z220,z221,z222,z223,z224,z225,z226,z227,z228,z229,z230,z231,z232,z233,z234,z235,z236,z237,z238,z239,z240,z241,z242,z243,z244,z245,z246,z247,z248,z249,z250,z251,z252,z253],[]⟩ V:=by
 have HN:=Lib.hid hn
 have HNS:=Lib.hid hns
 have HNI:=Lib.hid hni
 have HBI:=Lib.hid hBI
 have HC0:=Lib.hid hc
 have HB:=Lib.hid hB
 have HKR:=Lib.hid hKRl
 have HSR:=Lib.hid hSR
 clear hn hns hni hBI hc hB hKRl hSR
 have HR0:=Lib.hid hH0
 have HX:=Lib.hid hX
 have HE_:=Lib.hid hE
 have HAL:=Lib.hid hal
 have HR1:=Lib.hid hR0
 have HR2:=Lib.hid hR1
 have HF2:=Lib.hid hf2
 have HLA:=Lib.hid hla
 have HLA2:=Lib.hid hla2
 have HV:=Lib.hid hV
 have GT:=Lib.hid gt_
 have GA:=Lib.hid ga_
 have HHR:=Lib.hid hhR
 have HBV:=Lib.hid (HB.out.trans (Below.mono hV HB.out.size))
 clear hH0 hX hE hal hR0 hR1 hf2 hla hla2 hV gt_ ga_ hhR
 rw [rnE14]
 refine wp_seq_k (fun K14 hK14=>?_)
 have HK14:=Lib.hid hK14
 clear hK14
 conv=>arg 2;whnf
 by_cases he:eh=0
 ·have j0:(eh != 0)=false:=by simpa using he
  have HE:=Lib.hid he
  clear he
  go_wp2
  refine HK14.out _ _ ?_
  exact rn_15 w R l sl I B h kl p0 ql x y z ey ez HX.out (HE_.out HE.out) (HAL.out HE.out) (HR1.out HE.out) (HR2.out HE.out) HN.out HNS.out HNI.out HBI.out HC0.out HB.out h64 hs64 hni64 HKR.out HSR.out hf HF2.out HLA.out HLA2.out HV.out hgt hne GA.out GT.out HHR.out
 ·have j0:(eh != 0)=true:=by simpa using he
  have HE:=Lib.hid he
  clear he
  go_wp2
  go_ret2
  rw [HR0.out HE.out]
  exact ⟨_,rfl,rfl,HBV.out⟩
theorem rn_13 (w:World) (R:Option MapV × Int) (l:List Kn) (sl:List Rt) (I:List Nat) (B:List (Kn × Rt)) (kf kl:Kn) (p0 ql x zh y z:Rt) (eh ey ez:Int) {z1 z2 z3 z4 z6 z7 z8 z10 z11 z12 z13 z17 z18 z19 z20 z21 z22 z23 z24 z25 z26 z27 z28 z29 z30 z31 z32 z33 z34 z35 z36 z37 z38 z39 z40 z41 z42 z43 z44 z45 z46 z47 z48 z49 z50 z51 z52 z53 z54 z55 z56 z57 z58 z59 z60 z61 z62 z63 z64 z65 z66 z67 z68 z69 z70 z71 z72 z73 z74 z75 z76 z77 z78 z79 z80 z81 z82 z83 z84 z85 z86 z87 z88 z89 z90 z91 z92 z93 z94 z95 z96 z97 z98 z99 z100 z101 z102 z103 z104 z105 z106 z107 z108 z109 z110 z111 z112 z113 z114 z115 z116 z117 z118 z119 z120 z121 z122 z123 z124 z125 z126 z127 z128 z129 z130 z131 z132 z133 z134 z135 z136 z137 z138 z139 z140 z141 z142 z143 z144 z145 z146 z147 z148 z149 z150 z151 z152 z153 z154 z155 z156 z157 z158 z159 z160 z161 z162 z163 z164 z165 z166 z167 z168 z169 z170 z171 z172 z173 z174 z175 z176 z177 z178 z179 z180 z181 z182 z183 z184 z185 z186 z187 z188 z189 z190 z191 z192 z193 z194 z195 z196 z197 z198 z199 z200 z201 z202 z203 z204 z205 z206 z207 z208 z209 z210 z211 z212 z213 z214 z215 z216 z217 z218 z219 z220 z221 z222 z223 z224 z225 z226 z227 z228 z229 z230 z231 z232 z233 z234 z235 z236 z237 z238 z239 z240 z241 z242 z243 z244 z245 z246 z247 z248 z249 z250 z251 z252 z253:Value} {al sa ba:Addr} {n cap ns csl ni cb f la gt:Nat} {V0 V:World} (hah:alongS kf p0 x=(zh,eh)) (hH0:eh≠0 → R=(none,eh)) (hX:rAdd kl.1 (1,1)=(y,ey)) (hE:eh=0 → ey≠0 → R=(none,ey)) (hal:eh=0 → ey=0 → alongS kl ql y=(z,ez)) (hR0:eh=0 → ey=0 → ez≠0 → R=(none,ez)) (hR1:eh=0 → ey=0 → ez=0 → R=finR ⟨(x,zh) :: (B.map (·.1) ++ [(y,z)]),p0 :: B.map (·.2),0⟩) (hn:n=l.length) (hns:ns=sl.length) (hni:ni=I.length) (hBI:B.length=I.length∧∀ j (hj:j<I.length) (hj':j<B.length),∃ (h1:I[j]<l.length) (h2:I[j]<sl.length),B[j]=(l[I[j]],sl[I[j]])) (hc:RCtx V0 al sa ba l sl I) (hB:Below w.heap.size w V0) (h64:n≤64) (hs64:ns≤64) (hni64:ni≤64) (hKRl:KnR l) (hSR:∀ s ∈ sl,R64 s) (hf:1≤f) (hf2:∃ q:f - 1<sl.length,sl[f - 1]=p0) (hla:∃ q:la<l.length,l[la]=kl) (hla2:∃ q:la<sl.length,sl[la]=ql) (hV:Below V0.heap.size V0 V) (hgt:V0.heap.size≤gt) (hkf:∃ q:f<l.length,l[f]=kf) (gt_:V.heap[gt]?=some (.cells #[.int .i64 x.1,.int .i64 x.2] 31 (0,0))) (hxR:R64 x) :
  rnT13.wp Try.prog (bodyPost Try.prog Try.f20 (NewSQ w R)) ⟨#[.slice (some al) n cap,z1,z2,z3,z4,.slice (some sa) ns csl,z6,z7,z8,.slice (some ba) ni cb,z10,z11,z12,z13,.int .i64 (f:Int),.int .i64 (la:Int),.pointer (some ⟨gt,0,none⟩),z17,z18,z19,z20,z21,z22,z23,z24,z25,z26,z27,z28,z29,z30,z31,z32,z33,z34,z35,z36,z37,z38,z39,z40,z41,z42,z43,z44,z45,z46,z47,z48,z49,z50,z51,z52,z53,z54,z55,z56,z57,z58,z59,z60,z61,z62,z63,z64,z65,z66,z67,z68,z69,z70,z71,z72,z73,z74,z75,z76,z77,z78,z79,z80,z81,z82,z83,z84,z85,z86,z87,z88,z89,z90,z91,z92,z93,z94,z95,z96,z97,z98,z99,z100,z101,z102,z103,z104,z105,z106,z107,z108,z109,z110,z111,z112,z113,z114,z115,z116,z117,z118,z119,z120,z121,z122,z123,z124,z125,z126,z127,z128,z129,z130,z131,z132,z133,z134,z135,z136,z137,z138,z139,z140,z141,z142,z143,z144,z145,z146,z147,z148,z149,z150,z151,z152,z153,z154,z155,z156,z157,z158,z159,z160,z161,z162,z163,z164,z165,z166,z167,z168,z169,z170,z171,z172,z173,z174,z175,z176,z177,z178,z179,z180,z181,z182,z183,z184,z185,z186,z187,z188,z189,z190,z191,z192,z193,z194,z195,z196,z197,z198,z199,z200,z201,z202,z203,z204,z205,z206,z207,z208,z209,z210,z211,z212,z213,z214,z215,z216,z217,z218,z219,z220,z221,z222,z223,z224,z225,z226,z227,z228,z229,z230,z231,z232,z233,z234,z235,z236,z237,z238,z239,z240,z241,z242,z243,z244,z245,z246,z247,z248,z249,z250,z251,z252,z253],[]⟩ V:=by
 obtain ⟨x1,x2⟩:=x
 obtain ⟨⟨k1,k2⟩,k3,k4⟩:=kf
 obtain ⟨q1,q2⟩:=p0
 have hzR:R64 zh:=by have:=congrArg (fun x=>x.1) hah;dsimp only at this;rw [← this];unfold alongS;exact do_R add_R _ _ _
 obtain ⟨zh1,zh2⟩:=zh
 obtain ⟨hl1,hle⟩:=hkf
 have hkr:=hKRl _ (List.getElem_mem hl1)
 rw [hle] at hkr
 have MAT:=Lib.hid (fun u=>(by have:=qat_any ((k1,k2),(k3,k4)) (q1,q2) (x1,x2) u hkr.1;rw [hah] at this;exact this:Calls Try.prog 56 #[.agg #[.int .i64 k1,.int .i64 k2,.int .i64 k3,.int .i64 k4],.agg #[.int .i64 q1,.int .i64 q2],.agg #[.int .i64 x1,.int .i64 x2]] u fun e w'=>e = .returned (.tuple #[.agg #[.int .i64 x1,.int .i64 x2,.int .i64 zh1,.int .i64 zh2],.int .i64 eh])∧Below u.heap.size u w'))
 have hfn:f<n:=by omega
 have pla:(0:Int)≤(f:Int):=by omega
 have plb:((f:Int)<(n:Int))=True:=eq_true (by omega)
 have plc:(f<n)=True:=eq_true (by omega)
 have HN:=Lib.hid hn
 have HNS:=Lib.hid hns
 have HNI:=Lib.hid hni
 have HBI:=Lib.hid hBI
 have HC0:=Lib.hid hc
 have HB:=Lib.hid hB
 have HKR:=Lib.hid hKRl
 have HSR:=Lib.hid hSR
 clear hn hns hni hBI hc hB hKRl hSR
 have HR0:=Lib.hid hH0
 have HX:=Lib.hid hX
 have HE_:=Lib.hid hE
 have HAL:=Lib.hid hal
 have HR1:=Lib.hid hR0
 have HR2:=Lib.hid hR1
 have HF2:=Lib.hid hf2
 have HLA:=Lib.hid hla
 have HLA2:=Lib.hid hla2
 have HV:=Lib.hid hV
 have GT:=Lib.hid gt_
 have HXR:=Lib.hid hxR
 have HZR:=Lib.hid hzR
 obtain ⟨fm,hfm⟩:∃ x,f - 1=x:=⟨_,rfl⟩
 obtain ⟨hq,hqe⟩:=HF2.out
 simp only [hfm] at hq hqe
 have hns64:fm<ns:=by have:=HNS.out;omega
 have wf:IntKind.i64.wrap ((f:Int) - 1)=(fm:Int):=by rw [IntKind.wrap_i64];omega
 have pfa:(0:Int)≤(fm:Int):=by omega
 have pfb:((fm:Int)<(ns:Int))=True:=eq_true (by omega)
 have pfc:(fm<ns)=True:=eq_true (by omega)
 have gtz:=(Hand.hz gt_).1
 have zV:=hV.size
 have HC:=Lib.hid (fun (w_:World) (hb:Below V.heap.size V w_)=>(by have c:=HC0.out.below (Hand.stepB hb HV.out (Nat.le_refl _));have x:=c.kn f hl1;have y:=c.sl fm hq;rw [hle] at x;rw [hqe] at y;have g:=Hand.hc2 (Hand.kb hb GT.out);exact ⟨hb,x.1,x.2.1,x.2.2.1,x.2.2.2,y.1,y.2,g.1,g.2.2.1⟩:Below V.heap.size V w_∧w_.cell? (al.add (f*4))=some (.int .i64 k1)∧w_.cell? ⟨(al.add (f*4)).block,(al.add (f*4)).off+1,none⟩=some (.int .i64 k2)∧w_.cell? ⟨(al.add (f*4)).block,(al.add (f*4)).off+2,none⟩=some (.int .i64 k3)∧w_.cell? ⟨(al.add (f*4)).block,(al.add (f*4)).off+3,none⟩=some (.int .i64 k4)∧w_.cell? (sa.add (fm*2))=some (.int .i64 q1)∧w_.cell? ⟨(sa.add (fm*2)).block,(sa.add (fm*2)).off+1,none⟩=some (.int .i64 q2)∧w_.cell? ⟨gt,0,none⟩=some (.int .i64 x1)∧w_.cell? ⟨gt,1,none⟩=some (.int .i64 x2)))
 have BR:Below V.heap.size V V:=Below.refl _ _
 clear hH0 hX hE hal hR0 hR1 hf2 hla hla2 hV gt_ hah hle hkr hqe hfm hfn hxR hzR
 rw [rnE13]
 refine wp_seq_k (fun K13 hK13=>?_)
 have HK13:=Lib.hid hK13
 clear hK13
 conv=>arg 2;whnf
 go_wp2_with fail
 go_region_held3 (fun w_=>Below V.heap.size V w_∧w_.cell? (al.add (f*4))=some (.int .i64 k1)∧w_.cell? ⟨(al.add (f*4)).block,(al.add (f*4)).off+1,none⟩=some (.int .i64 k2)∧w_.cell? ⟨(al.add (f*4)).block,(al.add (f*4)).off+2,none⟩=some (.int .i64 k3)∧w_.cell? ⟨(al.add (f*4)).block,(al.add (f*4)).off+3,none⟩=some (.int .i64 k4)∧w_.cell? (sa.add (fm*2))=some (.int .i64 q1)∧w_.cell? ⟨(sa.add (fm*2)).block,(sa.add (fm*2)).off+1,none⟩=some (.int .i64 q2)∧w_.cell? ⟨gt,0,none⟩=some (.int .i64 x1)∧w_.cell? ⟨gt,1,none⟩=some (.int .i64 x2)) (first|(refine HC.out _ ?_;repeat (with_reducible first|assumption|apply Below.drew|refine Below.setCell ?_ (by dsimp only;exact Hand.z) _|refine Below.alloc ?_ Hand.z _))) (first|(go_at_call 56;((with_reducible refine (MAT.out _).mono ?_);rintro e_ w5 ⟨rfl,hb5⟩;have BB:Below V.heap.size V w5:=Hand.stepB hb5 Hand.b (Nat.le_refl _);have zBB:=BB.size;(try (have nx:=Hand.kb (i:=V.heap.size) (x:=.cells #[.int .i64 0,.int .i64 0,.int .i64 0,.int .i64 0] 35 (0,0)) hb5 (by first|exact Hand.q3 _ _ _ rfl|(rw [Hand.q5];exact Hand.q3 _ _ _ rfl)|exact Hand.q3 _ _ _ (by simp));obtain ⟨nc0,nf0,nc1,nf1,nc2,nf2,nc3,nf3⟩:=Hand.hc4 nx;obtain ⟨nz0,nz1,nz2,ny0,ny1⟩:=Hand.hz nx)))))
 all_goals (refine HK13.out _ _ ?_)
 all_goals (refine rn_14 w R l sl I B ((x1,x2),(zh1,zh2)) kl (q1,q2) ql (x1,x2) y z eh ey ez (V0:=V0) HR0.out HX.out HE_.out HAL.out HR1.out HR2.out HN.out HNS.out HNI.out HBI.out HC0.out HB.out h64 hs64 hni64 HKR.out HSR.out hf HF2.out HLA.out HLA2.out (Hand.stepB Hand.b HV.out (Nat.le_refl _)) hgt (by omega) ?_ (Hand.kb (show Below V.heap.size V _ by repeat (with_reducible first|assumption|apply Below.drew|refine Below.setCell ?_ (by dsimp only;exact Hand.z) _|refine Below.alloc ?_ Hand.z _)) GT.out) ⟨HXR.out,HZR.out⟩)
 all_goals (first|omega|(simp (disch:=try exact Hand.z) only [Hand.q5,Hand.q4,Hand.q3];done)|(simp (disch:=try exact Hand.z) only [Hand.q5,Hand.q1,Hand.q2,Hand.q4,Hand.q3,nx];first|done|rfl))
theorem rn_12 (w:World) (R:Option MapV × Int) (l:List Kn) (sl:List Rt) (I:List Nat) (B:List (Kn × Rt)) (kf kl:Kn) (p0 ql x zh y z:Rt) (ex eh ey ez:Int) {z1 z2 z3 z4 z6 z7 z8 z10 z11 z12 z13 z18 z19 z20 z21 z22 z23 z24 z25 z26 z27 z28 z29 z30 z31 z32 z33 z34 z35 z36 z37 z38 z39 z40 z41 z42 z43 z44 z45 z46 z47 z48 z49 z50 z51 z52 z53 z54 z55 z56 z57 z58 z59 z60 z61 z62 z63 z64 z65 z66 z67 z68 z69 z70 z71 z72 z73 z74 z75 z76 z77 z78 z79 z80 z81 z82 z83 z84 z85 z86 z87 z88 z89 z90 z91 z92 z93 z94 z95 z96 z97 z98 z99 z100 z101 z102 z103 z104 z105 z106 z107 z108 z109 z110 z111 z112 z113 z114 z115 z116 z117 z118 z119 z120 z121 z122 z123 z124 z125 z126 z127 z128 z129 z130 z131 z132 z133 z134 z135 z136 z137 z138 z139 z140 z141 z142 z143 z144 z145 z146 z147 z148 z149 z150 z151 z152 z153 z154 z155 z156 z157 z158 z159 z160 z161 z162 z163 z164 z165 z166 z167 z168 z169 z170 z171 z172 z173 z174 z175 z176 z177 z178 z179 z180 z181 z182 z183 z184 z185 z186 z187 z188 z189 z190 z191 z192 z193 z194 z195 z196 z197 z198 z199 z200 z201 z202 z203 z204 z205 z206 z207 z208 z209 z210 z211 z212 z213 z214 z215 z216 z217 z218 z219 z220 z221 z222 z223 z224 z225 z226 z227 z228 z229 z230 z231 z232 z233 z234 z235 z236 z237 z238 z239 z240 z241 z242 z243 z244 z245 z246 z247 z248 z249 z250 z251 z252 z253:Value} {al sa ba:Addr} {n cap ns csl ni cb f la gt:Nat} {V0 V:World} (hXX:ex≠0 → R=(none,ex)) (hah:ex=0 → alongS kf p0 x=(zh,eh)) (hH0:ex=0 → eh≠0 → R=(none,eh)) (hX:rAdd kl.1 (1,1)=(y,ey)) (hE:ex=0 → eh=0 → ey≠0 → R=(none,ey)) (hal:ex=0 → eh=0 → ey=0 → alongS kl ql y=(z,ez)) (hR0:ex=0 → eh=0 → ey=0 → ez≠0 → R=(none,ez)) (hR1:ex=0 → eh=0 → ey=0 → ez=0 → R=finR ⟨(x,zh) :: (B.map (·.1) ++ [(y,z)]),p0 :: B.map (·.2),0⟩) (hn:n=l.length) (hns:ns=sl.length) (hni:ni=I.length) (hBI:B.length=I.length∧∀ j (hj:j<I.length) (hj':j<B.length),∃ (h1:I[j]<l.length) (h2:I[j]<sl.length),B[j]=(l[I[j]],sl[I[j]])) (hc:RCtx V0 al sa ba l sl I) (hB:Below w.heap.size w V0) (h64:n≤64) (hs64:ns≤64) (hni64:ni≤64) (hKRl:KnR l) (hSR:∀ s ∈ sl,R64 s) (hf:1≤f) (hf2:∃ q:f - 1<sl.length,sl[f - 1]=p0) (hla:∃ q:la<l.length,l[la]=kl) (hla2:∃ q:la<sl.length,sl[la]=ql) (hV:Below V0.heap.size V0 V) (hgt:V0.heap.size≤gt) (hkf:∃ q:f<l.length,l[f]=kf) (gt_:V.heap[gt]?=some (.cells #[.int .i64 x.1,.int .i64 x.2] 31 (0,0))) (hxR:R64 x) :
  rnT12.wp Try.prog (bodyPost Try.prog Try.f20 (NewSQ w R)) ⟨#[.slice (some al) n cap,z1,z2,z3,z4,.slice (some sa) ns csl,z6,z7,z8,.slice (some ba) ni cb,z10,z11,z12,z13,.int .i64 (f:Int),.int .i64 (la:Int),.pointer (some ⟨gt,0,none⟩),.int .i64 ex,z18,z19,z20,z21,z22,z23,z24,z25,z26,z27,z28,z29,z30,z31,z32,z33,z34,z35,z36,z37,z38,z39,z40,z41,z42,z43,z44,z45,z46,z47,z48,z49,z50,z51,z52,z53,z54,z55,z56,z57,z58,z59,z60,z61,z62,z63,z64,z65,z66,z67,z68,z69,z70,z71,z72,z73,z74,z75,z76,z77,z78,z79,z80,z81,z82,z83,z84,z85,z86,z87,z88,z89,z90,z91,z92,z93,z94,z95,z96,z97,z98,z99,z100,z101,z102,z103,z104,z105,z106,z107,z108,z109,z110,z111,z112,z113,z114,z115,z116,z117,z118,z119,z120,z121,z122,z123,z124,z125,z126,z127,z128,z129,z130,z131,z132,z133,z134,z135,z136,z137,z138,z139,z140,z141,z142,z143,z144,z145,z146,z147,z148,z149,z150,z151,z152,z153,z154,z155,z156,z157,z158,z159,z160,z161,z162,z163,z164,z165,z166,z167,z168,z169,z170,z171,z172,z173,z174,z175,z176,z177,z178,z179,z180,z181,z182,z183,z184,z185,z186,z187,z188,z189,z190,z191,z192,z193,z194,z195,z196,z197,z198,z199,z200,z201,z202,z203,z204,z205,z206,z207,z208,z209,z210,z211,z212,z213,z214,z215,z216,z217,z218,z219,z220,z221,z222,z223,z224,z225,z226,z227,z228,z229,z230,z231,z232,z233,z234,z235,z236,z237,z238,z239,z240,z241,z242,z243,z244,z245,z246,z247,z248,z249,z250,z251,z252,z253],[]⟩ V:=by
 have HN:=Lib.hid hn
 have HNS:=Lib.hid hns
 have HNI:=Lib.hid hni
 have HBI:=Lib.hid hBI
 have HC0:=Lib.hid hc
 have HB:=Lib.hid hB
 have HKR:=Lib.hid hKRl
 have HSR:=Lib.hid hSR
 clear hn hns hni hBI hc hB hKRl hSR
 have HR0:=Lib.hid hXX
 have HAH:=Lib.hid hah
 have HH0:=Lib.hid hH0
 have HX:=Lib.hid hX
 have HE_:=Lib.hid hE
 have HAL:=Lib.hid hal
 have HR1:=Lib.hid hR0
 have HR2:=Lib.hid hR1
 have HF2:=Lib.hid hf2
 have HLA:=Lib.hid hla
 have HLA2:=Lib.hid hla2
 have HKF:=Lib.hid hkf
 have HV:=Lib.hid hV
 have GT:=Lib.hid gt_
 have HXR:=Lib.hid hxR
 have HBV:=Lib.hid (HB.out.trans (Below.mono hV HB.out.size))
 clear hXX hah hH0 hX hE hal hR0 hR1 hf2 hla hla2 hV gt_ hkf hxR
 rw [rnE12]
 refine wp_seq_k (fun K12 hK12=>?_)
 have HK12:=Lib.hid hK12
 clear hK12
 conv=>arg 2;whnf
 by_cases he:ex=0
 ·have j0:(ex != 0)=false:=by simpa using he
  have HE:=Lib.hid he
  clear he
  go_wp2
  refine HK12.out _ _ ?_
  exact rn_13 w R l sl I B kf kl p0 ql x zh y z eh ey ez (HAH.out HE.out) (HH0.out HE.out) HX.out (HE_.out HE.out) (HAL.out HE.out) (HR1.out HE.out) (HR2.out HE.out) HN.out HNS.out HNI.out HBI.out HC0.out HB.out h64 hs64 hni64 HKR.out HSR.out hf HF2.out HLA.out HLA2.out HV.out hgt HKF.out GT.out HXR.out
 ·have j0:(ex != 0)=true:=by simpa using he
  have HE:=Lib.hid he
  clear he
  go_wp2
  go_ret2
  rw [HR0.out HE.out]
  exact ⟨_,rfl,rfl,HBV.out⟩
theorem rn_11 (w:World) (R:Option MapV × Int) (l:List Kn) (sl:List Rt) (I:List Nat) (B:List (Kn × Rt)) (kf kl:Kn) (p0 ql x zh y z:Rt) (ex eh ey ez:Int) {z1 z2 z3 z4 z6 z7 z8 z10 z11 z12 z13 z16 z17 z18 z19 z20 z21 z22 z23 z24 z25 z26 z27 z28 z29 z30 z31 z32 z33 z34 z35 z36 z37 z38 z39 z40 z41 z42 z43 z44 z45 z46 z47 z48 z49 z50 z51 z52 z53 z54 z55 z56 z57 z58 z59 z60 z61 z62 z63 z64 z65 z66 z67 z68 z69 z70 z71 z72 z73 z74 z75 z76 z77 z78 z79 z80 z81 z82 z83 z84 z85 z86 z87 z88 z89 z90 z91 z92 z93 z94 z95 z96 z97 z98 z99 z100 z101 z102 z103 z104 z105 z106 z107 z108 z109 z110 z111 z112 z113 z114 z115 z116 z117 z118 z119 z120 z121 z122 z123 z124 z125 z126 z127 z128 z129 z130 z131 z132 z133 z134 z135 z136 z137 z138 z139 z140 z141 z142 z143 z144 z145 z146 z147 z148 z149 z150 z151 z152 z153 z154 z155 z156 z157 z158 z159 z160 z161 z162 z163 z164 z165 z166 z167 z168 z169 z170 z171 z172 z173 z174 z175 z176 z177 z178 z179 z180 z181 z182 z183 z184 z185 z186 z187 z188 z189 z190 z191 z192 z193 z194 z195 z196 z197 z198 z199 z200 z201 z202 z203 z204 z205 z206 z207 z208 z209 z210 z211 z212 z213 z214 z215 z216 z217 z218 z219 z220 z221 z222 z223 z224 z225 z226 z227 z228 z229 z230 z231 z232 z233 z234 z235 z236 z237 z238 z239 z240 z241 z242 z243 z244 z245 z246 z247 z248 z249 z250 z251 z252 z253:Value} {al sa ba:Addr} {n cap ns csl ni cb f la  : Nat} {V:World} (hSub:rSub kf.1 (1,1)=(x,ex)) (hXX:ex≠0 → R=(none,ex)) (hah:ex=0 → alongS kf p0 x=(zh,eh)) (hH0:ex=0 → eh≠0 → R=(none,eh)) (hX:rAdd kl.1 (1,1)=(y,ey)) (hE:ex=0 → eh=0 → ey≠0 → R=(none,ey)) (hal:ex=0 → eh=0 → ey=0 → alongS kl ql y=(z,ez)) (hR0:ex=0 → eh=0 → ey=0 → ez≠0 → R=(none,ez)) (hR1:ex=0 → eh=0 → ey=0 → ez=0 → R=finR ⟨(x,zh) :: (B.map (·.1) ++ [(y,z)]),p0 :: B.map (·.2),0⟩) (hn:n=l.length) (hns:ns=sl.length) (hni:ni=I.length) (hBI:B.length=I.length∧∀ j (hj:j<I.length) (hj':j<B.length),∃ (h1:I[j]<l.length) (h2:I[j]<sl.length),B[j]=(l[I[j]],sl[I[j]])) (hc:RCtx V al sa ba l sl I) (hB:Below w.heap.size w V) (h64:n≤64) (hs64:ns≤64) (hni64:ni≤64) (hKRl:KnR l) (hSR:∀ s ∈ sl,R64 s) (hf:1≤f) (hf2:∃ q:f - 1<sl.length,sl[f - 1]=p0) (hla:∃ q:la<l.length,l[la]=kl) (hla2:∃ q:la<sl.length,sl[la]=ql) (hkf:∃ q:f<l.length,l[f]=kf)  :
  rnT11.wp Try.prog (bodyPost Try.prog Try.f20 (NewSQ w R)) ⟨#[.slice (some al) n cap,z1,z2,z3,z4,.slice (some sa) ns csl,z6,z7,z8,.slice (some ba) ni cb,z10,z11,z12,z13,.int .i64 (f:Int),.int .i64 (la:Int),z16,z17,z18,z19,z20,z21,z22,z23,z24,z25,z26,z27,z28,z29,z30,z31,z32,z33,z34,z35,z36,z37,z38,z39,z40,z41,z42,z43,z44,z45,z46,z47,z48,z49,z50,z51,z52,z53,z54,z55,z56,z57,z58,z59,z60,z61,z62,z63,z64,z65,z66,z67,z68,z69,z70,z71,z72,z73,z74,z75,z76,z77,z78,z79,z80,z81,z82,z83,z84,z85,z86,z87,z88,z89,z90,z91,z92,z93,z94,z95,z96,z97,z98,z99,z100,z101,z102,z103,z104,z105,z106,z107,z108,z109,z110,z111,z112,z113,z114,z115,z116,z117,z118,z119,z120,z121,z122,z123,z124,z125,z126,z127,z128,z129,z130,z131,z132,z133,z134,z135,z136,z137,z138,z139,z140,z141,z142,z143,z144,z145,z146,z147,z148,z149,z150,z151,z152,z153,z154,z155,z156,z157,z158,z159,z160,z161,z162,z163,z164,z165,z166,z167,z168,z169,z170,z171,z172,z173,z174,z175,z176,z177,z178,z179,z180,z181,z182,z183,z184,z185,z186,z187,z188,z189,z190,z191,z192,z193,z194,z195,z196,z197,z198,z199,z200,z201,z202,z203,z204,z205,z206,z207,z208,z209,z210,z211,z212,z213,z214,z215,z216,z217,z218,z219,z220,z221,z222,z223,z224,z225,z226,z227,z228,z229,z230,z231,z232,z233,z234,z235,z236,z237,z238,z239,z240,z241,z242,z243,z244,z245,z246,z247,z248,z249,z250,z251,z252,z253],[]⟩ V:=by
 have hxR:R64 x:=by have:=congrArg (fun x=>x.1) hSub;dsimp only at this;rw [← this];exact sub_R _ _
 obtain ⟨x1,x2⟩:=x
 obtain ⟨⟨k1,k2⟩,k3,k4⟩:=kf
 obtain ⟨hl1,hle⟩:=hkf
 have hkf:=Exists.intro (p:=fun q:f<l.length=>l[f]=((k1,k2),(k3,k4))) hl1 hle
 have MSU:=Lib.hid (fun u=>(by have:=qsub_any (k1,k2) (1,1) u (R64_w 1 (by decide) (by decide));rw [hSub] at this;exact this:Calls Try.prog 59 #[.agg #[.int .i64 k1,.int .i64 k2],.agg #[.int .i64 1,.int .i64 1]] u fun e w'=>e = .returned (.tuple #[.agg #[.int .i64 x1,.int .i64 x2],.int .i64 ex])∧Below u.heap.size u w'))
 have M1:=Lib.hid qone_any
 have hfn:f<n:=by omega
 have pla:(0:Int)≤(f:Int):=by omega
 have plb:((f:Int)<(n:Int))=True:=eq_true (by omega)
 have plc:(f<n)=True:=eq_true (by omega)
 have HN:=Lib.hid hn
 have HNS:=Lib.hid hns
 have HNI:=Lib.hid hni
 have HBI:=Lib.hid hBI
 have HC0:=Lib.hid hc
 have HB:=Lib.hid hB
 have HKR:=Lib.hid hKRl
 have HSR:=Lib.hid hSR
 clear hn hns hni hBI hc hB hKRl hSR
 have HR0:=Lib.hid hXX
 have HAH:=Lib.hid hah
 have HH0:=Lib.hid hH0
 have HX:=Lib.hid hX
 have HE_:=Lib.hid hE
 have HAL:=Lib.hid hal
 have HR1:=Lib.hid hR0
 have HR2:=Lib.hid hR1
 have HF2:=Lib.hid hf2
 have HLA:=Lib.hid hla
 have HLA2:=Lib.hid hla2
 have HKF:=Lib.hid hkf
 have HXR:=Lib.hid hxR
 have HC:=Lib.hid (fun (w_:World) (hb:Below V.heap.size V w_)=>(by have x:=(HC0.out.below hb).kn f hl1;rw [hle] at x;exact ⟨hb,x.1,x.2.1⟩:Below V.heap.size V w_∧w_.cell? (al.add (f*4))=some (.int .i64 k1)∧w_.cell? ⟨(al.add (f*4)).block,(al.add (f*4)).off+1,none⟩=some (.int .i64 k2)))
 have BR:Below V.heap.size V V:=Below.refl _ _
 clear hXX hah hH0 hX hE hal hR0 hR1 hf2 hla hla2 hkf hle hSub hfn hxR
 rw [rnE11]
 refine wp_seq_k (fun K11 hK11=>?_)
 have HK11:=Lib.hid hK11
 clear hK11
 conv=>arg 2;whnf
 go_wp2_with fail
 go_region_held3 (fun w_=>Below V.heap.size V w_∧w_.cell? (al.add (f*4))=some (.int .i64 k1)∧w_.cell? ⟨(al.add (f*4)).block,(al.add (f*4)).off+1,none⟩=some (.int .i64 k2)) (first|(refine HC.out _ ?_;repeat (with_reducible first|assumption|apply Below.drew|refine Below.setCell ?_ (by dsimp only;exact Hand.z) _|refine Below.alloc ?_ Hand.z _))) (first|(go_at_call 55;((with_reducible refine (M1.out _).mono ?_);rintro e_ w5 ⟨rfl,hb5⟩;have BB:Below V.heap.size V w5:=Hand.stepB hb5 Hand.b (Nat.le_refl _);have zBB:=BB.size;(try (have nx5:=Hand.kb (i:=V.heap.size) (x:=.cells #[.int .i64 0,.int .i64 0] 31 (0,0)) hb5 (by first|exact Hand.q3 _ _ _ rfl|(rw [Hand.q5];exact Hand.q3 _ _ _ rfl));obtain ⟨nz50,nz51,nz52,ny50,ny51⟩:=Hand.hz nx5))))|(go_at_call 59;((with_reducible refine (MSU.out _).mono ?_);rintro e_ w6 ⟨rfl,hb6⟩;have BC:Below V.heap.size V w6:=Hand.stepB hb6 Hand.b (Nat.le_refl _);have zBC:=BC.size;(first|(have nx:=Hand.kb hb6 nx5;obtain ⟨nc0,nf0,nc1,nf1⟩:=Hand.hc2 nx;obtain ⟨nz0,nz1,nz2,ny0,ny1⟩:=Hand.hz nx)|(have nx:=Hand.kb (i:=w5.heap.size) (x:=.cells #[.int .i64 0,.int .i64 0] 31 (0,0)) hb6 (by exact Hand.q3 _ _ _ rfl);obtain ⟨nc0,nf0,nc1,nf1⟩:=Hand.hc2 nx;obtain ⟨nz0,nz1,nz2,ny0,ny1⟩:=Hand.hz nx)|skip))))
 all_goals (refine HK11.out _ _ ?_)
 all_goals (refine rn_12 w R l sl I B ((k1,k2),(k3,k4)) kl p0 ql (x1,x2) zh y z ex eh ey ez (V0:=V) HR0.out HAH.out HH0.out HX.out HE_.out HAL.out HR1.out HR2.out HN.out HNS.out HNI.out HBI.out HC0.out HB.out h64 hs64 hni64 HKR.out HSR.out hf HF2.out HLA.out HLA2.out Hand.b (by first|omega|exact BC.size|(have:=BC.size;omega)) HKF.out ?_ HXR.out)
 all_goals (first|omega|(simp (disch:=try exact Hand.z) only [Hand.q5,Hand.q4,Hand.q3];done)|(simp (disch:=try exact Hand.z) only [Hand.q5,Hand.q1,Hand.q2,Hand.q4,Hand.q3,nx];first|done|rfl))
theorem rn_9 (w:World) (R:Option MapV × Int) (l:List Kn) (sl:List Rt) (I:List Nat) (B:List (Kn × Rt)) (kf kl:Kn) (p0 ql x zh y z:Rt) (ex eh ey ez:Int) {z1 z2 z3 z4 z6 z7 z8 z10 z11 z12 z13 z14 z15 z16 z17 z18 z19 z20 z21 z22 z23 z24 z25 z26 z27 z28 z29 z30 z31 z32 z33 z34 z35 z36 z37 z38 z39 z40 z41 z42 z43 z44 z45 z46 z47 z48 z49 z50 z51 z52 z53 z54 z55 z56 z57 z58 z59 z60 z61 z62 z63 z64 z65 z66 z67 z68 z69 z70 z71 z72 z73 z74 z75 z76 z77 z78 z79 z80 z81 z82 z83 z84 z85 z86 z87 z88 z89 z90 z91 z92 z93 z94 z95 z96 z97 z98 z99 z100 z101 z102 z103 z104 z105 z106 z107 z108 z109 z110 z111 z112 z113 z114 z115 z116 z117 z118 z119 z120 z121 z122 z123 z124 z125 z126 z127 z128 z129 z130 z131 z132 z133 z134 z135 z136 z137 z138 z139 z140 z141 z142 z143 z144 z145 z146 z147 z148 z149 z150 z151 z152 z153 z154 z155 z156 z157 z158 z159 z160 z161 z162 z163 z164 z165 z166 z167 z168 z169 z170 z171 z172 z173 z174 z175 z176 z177 z178 z179 z180 z181 z182 z183 z184 z185 z186 z187 z188 z189 z190 z191 z192 z193 z194 z195 z196 z197 z198 z199 z200 z201 z202 z203 z204 z205 z206 z207 z208 z209 z210 z211 z212 z213 z214 z215 z216 z217 z218 z219 z220 z221 z222 z223 z224 z225 z226 z227 z228 z229 z230 z231 z232 z233 z234 z235 z236 z237 z238 z239 z240 z241 z242 z243 z244 z245 z246 z247 z248 z249 z250 z251 z252 z253:Value} {al sa ba:Addr} {n cap ns csl ni cb f la nm:Nat} {V:World} (hSub:rSub kf.1 (1,1)=(x,ex)) (hXX:ex≠0 → R=(none,ex)) (hah:ex=0 → alongS kf p0 x=(zh,eh)) (hH0:ex=0 → eh≠0 → R=(none,eh)) (hX:rAdd kl.1 (1,1)=(y,ey)) (hE:ex=0 → eh=0 → ey≠0 → R=(none,ey)) (hal:ex=0 → eh=0 → ey=0 → alongS kl ql y=(z,ez)) (hR0:ex=0 → eh=0 → ey=0 → ez≠0 → R=(none,ez)) (hR1:ex=0 → eh=0 → ey=0 → ez=0 → R=finR ⟨(x,zh) :: (B.map (·.1) ++ [(y,z)]),p0 :: B.map (·.2),0⟩) (hn:n=l.length) (hns:ns=sl.length) (hni:ni=I.length) (hBI:B.length=I.length∧∀ j (hj:j<I.length) (hj':j<B.length),∃ (h1:I[j]<l.length) (h2:I[j]<sl.length),B[j]=(l[I[j]],sl[I[j]])) (hc:RCtx V al sa ba l sl I) (hB:Below w.heap.size w V) (h64:n≤64) (hs64:ns≤64) (hni64:ni≤64) (hKRl:KnR l) (hSR:∀ s ∈ sl,R64 s) (hf:1≤f) (hf2:∃ q:f - 1<sl.length,sl[f - 1]=p0) (hla:∃ q:la<l.length,l[la]=kl) (hla2:∃ q:la<sl.length,sl[la]=ql) (hkf:∃ q:f<l.length,l[f]=kf) (hi:ni=nm+1) (hif:∃ q:0<I.length,I[0]=f) (hil:∃ q:nm<I.length,I[nm]=la) :
  rnT9.wp Try.prog (bodyPost Try.prog Try.f20 (NewSQ w R)) ⟨#[.slice (some al) n cap,z1,z2,z3,z4,.slice (some sa) ns csl,z6,z7,z8,.slice (some ba) ni cb,z10,z11,z12,z13,z14,z15,z16,z17,z18,z19,z20,z21,z22,z23,z24,z25,z26,z27,z28,z29,z30,z31,z32,z33,z34,z35,z36,z37,z38,z39,z40,z41,z42,z43,z44,z45,z46,z47,z48,z49,z50,z51,z52,z53,z54,z55,z56,z57,z58,z59,z60,z61,z62,z63,z64,z65,z66,z67,z68,z69,z70,z71,z72,z73,z74,z75,z76,z77,z78,z79,z80,z81,z82,z83,z84,z85,z86,z87,z88,z89,z90,z91,z92,z93,z94,z95,z96,z97,z98,z99,z100,z101,z102,z103,z104,z105,z106,z107,z108,z109,z110,z111,z112,z113,z114,z115,z116,z117,z118,z119,z120,z121,z122,z123,z124,z125,z126,z127,z128,z129,z130,z131,z132,z133,z134,z135,z136,z137,z138,z139,z140,z141,z142,z143,z144,z145,z146,z147,z148,z149,z150,z151,z152,z153,z154,z155,z156,z157,z158,z159,z160,z161,z162,z163,z164,z165,z166,z167,z168,z169,z170,z171,z172,z173,z174,z175,z176,z177,z178,z179,z180,z181,z182,z183,z184,z185,z186,z187,z188,z189,z190,z191,z192,z193,z194,z195,z196,z197,z198,z199,z200,z201,z202,z203,z204,z205,z206,z207,z208,z209,z210,z211,z212,z213,z214,z215,z216,z217,z218,z219,z220,z221,z222,z223,z224,z225,z226,z227,z228,z229,z230,z231,z232,z233,z234,z235,z236,z237,z238,z239,z240,z241,z242,z243,z244,z245,z246,z247,z248,z249,z250,z251,z252,z253],[]⟩ V:=by
 obtain ⟨hi0,hif⟩:=hif
 obtain ⟨hi1,hil⟩:=hil
 have c0:=hc.bi 0 hi0
 have c1:=hc.bi nm hi1
 rw [hif] at c0
 rw [hil] at c1
 rw [show ba.add 0=ba from rfl] at c0
 have wn:IntKind.i64.wrap ((nm:Int)+1 - 1)=(nm:Int):=by rw [IntKind.wrap_i64];omega
 have wn2:IntKind.i64.wrap (nm:Int)=(nm:Int):=by rw [IntKind.wrap_i64];omega
 subst hi
 have pma:(0:Int)≤(nm:Int):=by omega
 have pmb:((nm:Int)<(nm+1:Int))=True:=eq_true (by omega)
 have pmc:(nm<nm+1)=True:=eq_true (by omega)
 have z0:((0:Int)<(nm:Int)+1)=True:=eq_true (by omega)
 have z1_:(0<nm+1)=True:=eq_true (by omega)
 have HS:=Lib.hid hSub
 have H0:=Lib.hid hXX
 have H1:=Lib.hid hah
 have H2:=Lib.hid hH0
 have H3:=Lib.hid hX
 have H4:=Lib.hid hE
 have H5:=Lib.hid hal
 have H6:=Lib.hid hR0
 have H7:=Lib.hid hR1
 have HF2:=Lib.hid hf2
 have HLA:=Lib.hid hla
 have HLA2:=Lib.hid hla2
 have HKF:=Lib.hid hkf
 have HN:=Lib.hid hn
 have HNS:=Lib.hid hns
 have HNI:=Lib.hid hni
 have HBI:=Lib.hid hBI
 have HC0:=Lib.hid hc
 have HB:=Lib.hid hB
 have HKR:=Lib.hid hKRl
 have HSR:=Lib.hid hSR
 clear hn hns hni hBI hc hB hKRl hSR
 clear hSub hXX hah hH0 hX hE hal hR0 hR1 hf2 hla hla2 hkf hif hil
 rw [rnE9]
 refine wp_seq_k (fun K9 hK9=>?_)
 have HK9:=Lib.hid hK9
 clear hK9
 conv=>arg 2;whnf
 go_wp2
 refine HK9.out _ _ ?_
 rw [rnE10]
 refine wp_seq_k (fun K10 hK10=>?_)
 have HK10:=Lib.hid hK10
 clear hK10
 conv=>arg 2;whnf
 go_wp2
 refine HK10.out _ _ ?_
 exact rn_11 w R l sl I B kf kl p0 ql x zh y z ex eh ey ez HS.out H0.out H1.out H2.out H3.out H4.out H5.out H6.out H7.out HN.out HNS.out HNI.out HBI.out HC0.out HB.out h64 hs64 hni64 HKR.out HSR.out hf HF2.out HLA.out HLA2.out HKF.out
noncomputable def rnN0:Code:=thnC (sndC (fstC rnT8))
noncomputable def rnN1:Code:=sndC rnN0
noncomputable def rnN2:Code:=sndC rnN1
noncomputable def rnN3:Code:=sndC rnN2
noncomputable def rnN4:Code:=sndC rnN3
theorem rnNE0:rnN0 = .seq (fstC rnN0) rnN1:=by kernel_rfl
theorem rnNE1:rnN1 = .seq (fstC rnN1) rnN2:=by kernel_rfl
theorem rnNE2:rnN2 = .seq (fstC rnN2) rnN3:=by kernel_rfl
theorem rnNE3:rnN3 = .seq (fstC rnN3) rnN4:=by kernel_rfl
theorem rnNE4:rnN4 = .seq (fstC rnN4) (sndC rnN4):=by kernel_rfl
theorem mapB_of {u:World} {gm gl gs:Nat} {a1 a2 a3 a4 b1 b2 b3 b4 q1 q2:Int} (h1:u.heap[gm]?=some (.cells #[.slice (some ⟨gl,0,none⟩) 2 2,.slice (some ⟨gs,0,none⟩) 1 1] 97 (0,0)))
  (h2:u.heap[gl]?=some (.cells #[.int .i64 a1,.int .i64 a2,.int .i64 a3,.int .i64 a4,.int .i64 b1,.int .i64 b2,.int .i64 b3,.int .i64 b4] 35 (0,0))) (h3:u.heap[gs]?=some (.cells #[.int .i64 q1,.int .i64 q2] 31 (0,0))):MapB u gm ⟨gl,0,none⟩ ⟨gs,0,none⟩ 2 1 ⟨[((a1,a2),(a3,a4)),((b1,b2),(b3,b4))],[(q1,q2)],0⟩:=by
 refine ⟨h1,?_,?_⟩
 ·have:u.ownsRow 0 35 4 (.slice (some ⟨gl,0,none⟩) 2 2) 2 (flatK [((a1,a2),(a3,a4)),((b1,b2),(b3,b4))]):=⟨rfl,.inr ⟨gl,2,_,rfl,Nat.zero_le _,h2,Nat.le_refl 2,by decide,rfl,rfl⟩⟩
  exact own_kna this
 ·have:u.ownsRow 0 31 2 (.slice (some ⟨gs,0,none⟩) 1 1) 1 (flatT [(q1,q2)]):=⟨rfl,.inr ⟨gs,1,_,rfl,Nat.zero_le _,h3,Nat.le_refl 1,by decide,rfl,rfl⟩⟩
  exact own_rta this
theorem rn_27 (w:World) (R:Option MapV × Int) (l:List Kn) (sl:List Rt) (k0:Kn) (p0:Rt) (a b:Kn) {z1 z2 z3 z4 z6 z7 z8 z9 z10 z12 z14 z15 z16 z17 z18 z19 z20 z21 z22 z23 z24 z25 z26 z27 z28 z29 z30 z31 z32 z33 z34 z35 z36 z37 z38 z39 z40 z41 z42 z43 z44 z45 z46 z47 z48 z49 z50 z51 z52 z53 z54 z55 z56 z57 z58 z59 z60 z61 z62 z63 z64 z65 z66 z67 z68 z69 z70 z71 z72 z73 z74 z75 z76 z77 z78 z79 z80 z81 z82 z83 z84 z85 z86 z87 z88 z89 z90 z91 z92 z93 z94 z95 z96 z97 z98 z99 z100 z101 z102 z103 z104 z105 z106 z107 z108 z109 z110 z111 z112 z113 z114 z115 z116 z117 z118 z119 z120 z121 z122 z123 z124 z125 z126 z127 z128 z129 z130 z131 z132 z133 z134 z135 z136 z137 z138 z139 z140 z141 z142 z143 z144 z145 z146 z147 z148 z149 z150 z151 z152 z153 z154 z155 z156 z157 z158 z159 z160 z161 z162 z163 z164 z165 z166 z167 z168 z169 z170 z171 z172 z173 z174 z175 z176 z177 z178 z179 z180 z181 z182 z183 z184 z185 z186 z187 z188 z189 z190 z191 z192 z193 z194 z195 z196 z197 z198 z199 z200 z201 z202 z203 z204 z205 z206 z207 z208 z209 z210 z211 z212 z213 z214 z215 z216 z217 z218 z219 z220 z221 z222 z223 z224 z225 z226 z227 z228 z229 z230 z231 z232 z233 z234 z235 z236 z237 z238 z239 z240 z241 z242 z243 z244 z245 z246 z247 z248 z249 z250 z251 z252 z253:Value} {al sa:Addr} {n cap ns csl ga gb:Nat} {K:Act → World → Prop} {V:World} (hR:R=finR ⟨[a,b],[p0],0⟩) (hl:∃ q:0<l.length,l[0]=k0) (hs:∃ q:0<sl.length,sl[0]=p0) (hn:n=l.length) (hns:ns=sl.length) (hK:KnA V al l) (hS:RtA V sa sl) (hB:Below w.heap.size w V) (hk0:R64 k0.1∧R64 k0.2) (ga_:V.heap[ga]?=some (.cells #[.int .i64 a.1.1,.int .i64 a.1.2,.int .i64 a.2.1,.int .i64 a.2.2] 35 (0,0))) (gb_:V.heap[gb]?=some (.cells #[.int .i64 b.1.1,.int .i64 b.1.2,.int .i64 b.2.1,.int .i64 b.2.2] 35 (0,0))) (haR:KnR [a,b]) :
  rnN4.wp Try.prog (Exit.then K (bodyPost Try.prog Try.f20 (NewSQ w R))) ⟨#[.slice (some al) n cap,z1,z2,z3,z4,.slice (some sa) ns csl,z6,z7,z8,z9,z10,.pointer (some ⟨ga,0,none⟩),z12,.pointer (some ⟨gb,0,none⟩),z14,z15,z16,z17,z18,z19,z20,z21,z22,z23,z24,z25,z26,z27,z28,z29,z30,z31,z32,z33,z34,z35,z36,z37,z38,z39,z40,z41,z42,z43,z44,z45,z46,z47,z48,z49,z50,z51,z52,z53,z54,z55,z56,z57,z58,z59,z60,z61,z62,z63,z64,z65,z66,z67,z68,z69,z70,z71,z72,z73,z74,z75,z76,z77,z78,z79,z80,z81,z82,z83,z84,z85,z86,z87,z88,z89,z90,z91,z92,z93,z94,z95,z96,z97,z98,z99,z100,z101,z102,z103,z104,z105,z106,z107,z108,z109,z110,z111,z112,z113,z114,z115,z116,z117,z118,z119,z120,z121,z122,z123,z124,z125,z126,z127,z128,z129,z130,z131,z132,z133,z134,z135,z136,z137,z138,z139,z140,z141,z142,z143,z144,z145,z146,z147,z148,z149,z150,z151,z152,z153,z154,z155,z156,z157,z158,z159,z160,z161,z162,z163,z164,z165,z166,z167,z168,z169,z170,z171,z172,z173,z174,z175,z176,z177,z178,z179,z180,z181,z182,z183,z184,z185,z186,z187,z188,z189,z190,z191,z192,z193,z194,z195,z196,z197,z198,z199,z200,z201,z202,z203,z204,z205,z206,z207,z208,z209,z210,z211,z212,z213,z214,z215,z216,z217,z218,z219,z220,z221,z222,z223,z224,z225,z226,z227,z228,z229,z230,z231,z232,z233,z234,z235,z236,z237,z238,z239,z240,z241,z242,z243,z244,z245,z246,z247,z248,z249,z250,z251,z252,z253],[]⟩ V:=by
 obtain ⟨⟨a1,a2⟩,a3,a4⟩:=a
 obtain ⟨⟨b1,b2⟩,b3,b4⟩:=b
 obtain ⟨q1,q2⟩:=p0
 obtain ⟨hl1,hle⟩:=hl
 obtain ⟨hs1,hse⟩:=hs
 have zn:((0:Int)<(n:Int))=True:=eq_true (by omega)
 have zn2:(0<n)=True:=eq_true (by omega)
 have zs:((0:Int)<(ns:Int))=True:=eq_true (by omega)
 have zs2:(0<ns)=True:=eq_true (by omega)
 have e1:sa.add (0*2)=sa:=by rw [Nat.zero_mul];rfl
 obtain ⟨v,hv⟩:∃ v:Nat → Value,(fun gm=>if (slpF [((a1,a2),(a3,a4)),((b1,b2),(b3,b4))] 0).2=0 then .pointer (some ⟨gm,0,none⟩) else .pointer none)=v:=⟨_,rfl⟩
 obtain ⟨q,hq⟩:∃ q,(slpF [((a1,a2),(a3,a4)),((b1,b2),(b3,b4))] 0).2=q:=⟨_,rfl⟩
 have MO:=Lib.hid (fun (u:World) (gm gl gs:Nat) (h:MapB u gm ⟨gl,0,none⟩ ⟨gs,0,none⟩ 2 1 ⟨[((a1,a2),(a3,a4)),((b1,b2),(b3,b4))],[(q1,q2)],0⟩)=>(by have:=qown_any gm _ _ _ _ _ u h haR (by show 2≤100;decide);dsimp only at this;rw [hq] at this;rw [← hv];dsimp only;rw [hq];exact this.mono (fun e w' h2=>⟨h2.1,h2.2,h⟩):Calls Try.prog 58 #[.pointer (some ⟨gm,0,none⟩)] u fun e w'=>e = .returned (.tuple #[v gm,.int .i64 q])∧Below u.heap.size u w'∧MapB u gm ⟨gl,0,none⟩ ⟨gs,0,none⟩ 2 1 ⟨[((a1,a2),(a3,a4)),((b1,b2),(b3,b4))],[(q1,q2)],0⟩))
 have HV:=Lib.hid hv
 have HQ:=Lib.hid hq
 have HR:=Lib.hid hR
 have HB:=Lib.hid hB
 have gaz:=(Hand.hz ga_).1
 have gbz:=(Hand.hz gb_).1
 have HC:=Lib.hid (fun (w_:World) (hb:Below V.heap.size V w_)=>(by obtain ⟨x0,_,x1,_,x2,_,x3,_⟩:=Hand.hc4 (Hand.kb hb ga_);obtain ⟨y0,_,y1,_,y2,_,y3,_⟩:=Hand.hc4 (Hand.kb hb gb_);have y:=(hS.below hb) 0 hs1;rw [hse,e1] at y;exact ⟨hb,x0,x1,x2,x3,y0,y1,y2,y3,y.1,y.2⟩:Below V.heap.size V w_∧w_.cell? ⟨ga,0,none⟩=some (.int .i64 a1)∧w_.cell? ⟨ga,1,none⟩=some (.int .i64 a2)∧w_.cell? ⟨ga,2,none⟩=some (.int .i64 a3)∧w_.cell? ⟨ga,3,none⟩=some (.int .i64 a4)∧w_.cell? ⟨gb,0,none⟩=some (.int .i64 b1)∧w_.cell? ⟨gb,1,none⟩=some (.int .i64 b2)∧w_.cell? ⟨gb,2,none⟩=some (.int .i64 b3)∧w_.cell? ⟨gb,3,none⟩=some (.int .i64 b4)∧w_.cell? sa=some (.int .i64 q1)∧w_.cell? ⟨sa.block,sa.off+1,none⟩=some (.int .i64 q2)))
 have BR:Below V.heap.size V V:=Below.refl _ _
 clear hv hq hR hB ga_ gb_ hK hS hle hse haR e1 hk0
 rw [rnNE4]
 refine wp_seq_k (fun KN4 hKN4=>?_)
 have HKN4:=Lib.hid hKN4
 clear hKN4
 conv=>arg 2;whnf
 go_wp2_with fail
 go_region_held3 (fun w_=>Below V.heap.size V w_∧w_.cell? ⟨ga,0,none⟩=some (.int .i64 a1)∧w_.cell? ⟨ga,1,none⟩=some (.int .i64 a2)∧w_.cell? ⟨ga,2,none⟩=some (.int .i64 a3)∧w_.cell? ⟨ga,3,none⟩=some (.int .i64 a4)∧w_.cell? ⟨gb,0,none⟩=some (.int .i64 b1)∧w_.cell? ⟨gb,1,none⟩=some (.int .i64 b2)∧w_.cell? ⟨gb,2,none⟩=some (.int .i64 b3)∧w_.cell? ⟨gb,3,none⟩=some (.int .i64 b4)∧w_.cell? sa=some (.int .i64 q1)∧w_.cell? ⟨sa.block,sa.off+1,none⟩=some (.int .i64 q2)) (first|(refine HC.out _ ?_;repeat (with_reducible first|assumption|apply Below.drew|refine Below.setCell ?_ (by dsimp only;exact Hand.z) _|refine Below.alloc ?_ Hand.z _))) (first|(go_at_call 58;((with_reducible refine (MO.out _ _ V.heap.size (V.heap.size+1) (mapB_of (by first|(simp (disch:=try exact Hand.z) only [Hand.q5,Hand.q4,Hand.q3];first|done|rfl)) (by first|(simp (disch:=try exact Hand.z) only [Hand.q5,Hand.q4,Hand.q3];first|done|rfl)) (by first|(simp (disch:=try exact Hand.z) only [Hand.q5,Hand.q4,Hand.q3];first|done|rfl)))).mono ?_);rintro e_ w5 ⟨rfl,hb5,hMB⟩;have BB:Below V.heap.size V w5:=Hand.stepB hb5 Hand.b (Nat.le_refl _)))|(go_at_call 58;((with_reducible refine (MO.out _ _ (V.heap.size+1) V.heap.size (mapB_of (by first|(simp (disch:=try exact Hand.z) only [Hand.q5,Hand.q4,Hand.q3];first|done|rfl)) (by first|(simp (disch:=try exact Hand.z) only [Hand.q5,Hand.q4,Hand.q3];first|done|rfl)) (by first|(simp (disch:=try exact Hand.z) only [Hand.q5,Hand.q4,Hand.q3];first|done|rfl)))).mono ?_);rintro e_ w5 ⟨rfl,hb5,hMB⟩;have BB:Below V.heap.size V w5:=Hand.stepB hb5 Hand.b (Nat.le_refl _))))
 all_goals (refine HKN4.out _ _ ?_;conv=>arg 2;whnf)
 all_goals (go_wp2;go_ret2)
 all_goals (rw [← HV.out,← HQ.out,HR.out];exact finR_q ⟨[((a1,a2),(a3,a4)),((b1,b2),(b3,b4))],[(q1,q2)],0⟩ w _ _ _ _ _ _ (hMB.below (by first|exact hb5|exact hb5.drew)) (HB.out.trans (Below.mono BB HB.out.size)))
theorem rn_24c (w:World) (R:Option MapV × Int) (l:List Kn) (sl:List Rt) (k0:Kn) (p0:Rt) (a:Kn) (z:Rt) (e1:Int) {z1 z2 z3 z4 z6 z7 z8 z9 z10 z14 z15 z16 z17 z18 z19 z20 z21 z22 z23 z24 z25 z26 z27 z28 z29 z30 z31 z32 z33 z34 z35 z36 z37 z38 z39 z40 z41 z42 z43 z44 z45 z46 z47 z48 z49 z50 z51 z52 z53 z54 z55 z56 z57 z58 z59 z60 z61 z62 z63 z64 z65 z66 z67 z68 z69 z70 z71 z72 z73 z74 z75 z76 z77 z78 z79 z80 z81 z82 z83 z84 z85 z86 z87 z88 z89 z90 z91 z92 z93 z94 z95 z96 z97 z98 z99 z100 z101 z102 z103 z104 z105 z106 z107 z108 z109 z110 z111 z112 z113 z114 z115 z116 z117 z118 z119 z120 z121 z122 z123 z124 z125 z126 z127 z128 z129 z130 z131 z132 z133 z134 z135 z136 z137 z138 z139 z140 z141 z142 z143 z144 z145 z146 z147 z148 z149 z150 z151 z152 z153 z154 z155 z156 z157 z158 z159 z160 z161 z162 z163 z164 z165 z166 z167 z168 z169 z170 z171 z172 z173 z174 z175 z176 z177 z178 z179 z180 z181 z182 z183 z184 z185 z186 z187 z188 z189 z190 z191 z192 z193 z194 z195 z196 z197 z198 z199 z200 z201 z202 z203 z204 z205 z206 z207 z208 z209 z210 z211 z212 z213 z214 z215 z216 z217 z218 z219 z220 z221 z222 z223 z224 z225 z226 z227 z228 z229 z230 z231 z232 z233 z234 z235 z236 z237 z238 z239 z240 z241 z242 z243 z244 z245 z246 z247 z248 z249 z250 z251 z252 z253:Value} {al sa:Addr} {n cap ns csl gz ga:Nat} {K:Act → World → Prop} {V:World} (hR0:e1≠0 → R=(none,e1)) (hR1:e1=0 → R=finR ⟨[a,((1,1),z)],[p0],0⟩) (ga_:V.heap[ga]?=some (.cells #[.int .i64 a.1.1,.int .i64 a.1.2,.int .i64 a.2.1,.int .i64 a.2.2] 35 (0,0))) (haR:R64 a.1∧R64 a.2) (hl:∃ q:0<l.length,l[0]=k0) (hs:∃ q:0<sl.length,sl[0]=p0) (hn:n=l.length) (hns:ns=sl.length) (hK:KnA V al l) (hS:RtA V sa sl) (hB:Below w.heap.size w V) (hk0:R64 k0.1∧R64 k0.2) (gz_:V.heap[gz]?=some (.cells #[.int .i64 1,.int .i64 1,.int .i64 z.1,.int .i64 z.2] 35 (0,0))) (hzR:R64 z) :
  rnN3.wp Try.prog (Exit.then K (bodyPost Try.prog Try.f20 (NewSQ w R))) ⟨#[.slice (some al) n cap,z1,z2,z3,z4,.slice (some sa) ns csl,z6,z7,z8,z9,z10,.pointer (some ⟨ga,0,none⟩),.int .i64 e1,.pointer (some ⟨gz,0,none⟩),z14,z15,z16,z17,z18,z19,z20,z21,z22,z23,z24,z25,z26,z27,z28,z29,z30,z31,z32,z33,z34,z35,z36,z37,z38,z39,z40,z41,z42,z43,z44,z45,z46,z47,z48,z49,z50,z51,z52,z53,z54,z55,z56,z57,z58,z59,z60,z61,z62,z63,z64,z65,z66,z67,z68,z69,z70,z71,z72,z73,z74,z75,z76,z77,z78,z79,z80,z81,z82,z83,z84,z85,z86,z87,z88,z89,z90,z91,z92,z93,z94,z95,z96,z97,z98,z99,z100,z101,z102,z103,z104,z105,z106,z107,z108,z109,z110,z111,z112,z113,z114,z115,z116,z117,z118,z119,z120,z121,z122,z123,z124,z125,z126,z127,z128,z129,z130,z131,z132,z133,z134,z135,z136,z137,z138,z139,z140,z141,z142,z143,z144,z145,z146,z147,z148,z149,z150,z151,z152,z153,z154,z155,z156,z157,z158,z159,z160,z161,z162,z163,z164,z165,z166,z167,z168,z169,z170,z171,z172,z173,z174,z175,z176,z177,z178,z179,z180,z181,z182,z183,z184,z185,z186,z187,z188,z189,z190,z191,z192,z193,z194,z195,z196,z197,z198,z199,z200,z201,z202,z203,z204,z205,z206,z207,z208,z209,z210,z211,z212,z213,z214,z215,z216,z217,z218,z219,z220,z221,z222,z223,z224,z225,z226,z227,z228,z229,z230,z231,z232,z233,z234,z235,z236,z237,z238,z239,z240,z241,z242,z243,z244,z245,z246,z247,z248,z249,z250,z251,z252,z253],[]⟩ V:=by
 have HL:=Lib.hid hl
 have HS_:=Lib.hid hs
 have HN:=Lib.hid hn
 have HNS:=Lib.hid hns
 have HK:=Lib.hid hK
 have HSA:=Lib.hid hS
 have HB:=Lib.hid hB
 have HK0:=Lib.hid hk0
 clear hl hs hn hns hK hS hB hk0
 have HR0:=Lib.hid hR0
 have GZ:=Lib.hid gz_
 have HZR:=Lib.hid hzR
 clear hR0 gz_ hzR
 have HR1:=Lib.hid hR1
 have GA:=Lib.hid ga_
 have HAR:=Lib.hid haR
 clear hR1 ga_ haR
 rw [rnNE3]
 refine wp_seq_k (fun KN3 hKN3=>?_)
 have HKN3:=Lib.hid hKN3
 clear hKN3
 conv=>arg 2;whnf
 by_cases he:e1=0
 ·have j0:(e1 != 0)=false:=by simpa using he
  have HE:=Lib.hid he
  clear he
  go_wp2
  refine HKN3.out _ _ ?_
  exact rn_27 w R l sl k0 p0 a ((1,1),z) (HR1.out HE.out) HL.out HS_.out HN.out HNS.out HK.out HSA.out HB.out HK0.out GA.out GZ.out (by intro k hk;simp only [List.mem_cons,List.not_mem_nil,or_false] at hk;rcases hk with rfl|rfl;exact HAR.out;exact ⟨R64_w 1 (by decide) (by decide),HZR.out⟩)
 ·have j0:(e1 != 0)=true:=by simpa using he
  have HE:=Lib.hid he
  clear he
  go_wp2
  go_ret2
  rw [HR0.out HE.out]
  exact ⟨_,rfl,rfl,HB.out⟩
theorem rn_24 (w:World) (R:Option MapV × Int) (l:List Kn) (sl:List Rt) (k0:Kn) (p0:Rt) (a:Kn) (z:Rt) (e1:Int) {z1 z2 z3 z4 z6 z7 z8 z9 z10 z12 z13 z14 z15 z16 z17 z18 z19 z20 z21 z22 z23 z24 z25 z26 z27 z28 z29 z30 z31 z32 z33 z34 z35 z36 z37 z38 z39 z40 z41 z42 z43 z44 z45 z46 z47 z48 z49 z50 z51 z52 z53 z54 z55 z56 z57 z58 z59 z60 z61 z62 z63 z64 z65 z66 z67 z68 z69 z70 z71 z72 z73 z74 z75 z76 z77 z78 z79 z80 z81 z82 z83 z84 z85 z86 z87 z88 z89 z90 z91 z92 z93 z94 z95 z96 z97 z98 z99 z100 z101 z102 z103 z104 z105 z106 z107 z108 z109 z110 z111 z112 z113 z114 z115 z116 z117 z118 z119 z120 z121 z122 z123 z124 z125 z126 z127 z128 z129 z130 z131 z132 z133 z134 z135 z136 z137 z138 z139 z140 z141 z142 z143 z144 z145 z146 z147 z148 z149 z150 z151 z152 z153 z154 z155 z156 z157 z158 z159 z160 z161 z162 z163 z164 z165 z166 z167 z168 z169 z170 z171 z172 z173 z174 z175 z176 z177 z178 z179 z180 z181 z182 z183 z184 z185 z186 z187 z188 z189 z190 z191 z192 z193 z194 z195 z196 z197 z198 z199 z200 z201 z202 z203 z204 z205 z206 z207 z208 z209 z210 z211 z212 z213 z214 z215 z216 z217 z218 z219 z220 z221 z222 z223 z224 z225 z226 z227 z228 z229 z230 z231 z232 z233 z234 z235 z236 z237 z238 z239 z240 z241 z242 z243 z244 z245 z246 z247 z248 z249 z250 z251 z252 z253:Value} {al sa:Addr} {n cap ns csl ga:Nat} {K:Act → World → Prop} {V:World} (hal:alongS k0 p0 (1,1)=(z,e1)) (hR0:e1≠0 → R=(none,e1)) (hR1:e1=0 → R=finR ⟨[a,((1,1),z)],[p0],0⟩) (ga_:V.heap[ga]?=some (.cells #[.int .i64 a.1.1,.int .i64 a.1.2,.int .i64 a.2.1,.int .i64 a.2.2] 35 (0,0))) (haR:R64 a.1∧R64 a.2) (hl:∃ q:0<l.length,l[0]=k0) (hs:∃ q:0<sl.length,sl[0]=p0) (hn:n=l.length) (hns:ns=sl.length) (hK:KnA V al l) (hS:RtA V sa sl) (hB:Below w.heap.size w V) (hk0:R64 k0.1∧R64 k0.2) :
  rnN2.wp Try.prog (Exit.then K (bodyPost Try.prog Try.f20 (NewSQ w R))) ⟨#[.slice (some al) n cap,z1,z2,z3,z4,.slice (some sa) ns csl,z6,z7,z8,z9,z10,.pointer (some ⟨ga,0,none⟩),z12,z13,z14,z15,z16,z17,z18,z19,z20,z21,z22,z23,z24,z25,z26,z27,z28,z29,z30,z31,z32,z33,z34,z35,z36,z37,z38,z39,z40,z41,z42,z43,z44,z45,z46,z47,z48,z49,z50,z51,z52,z53,z54,z55,z56,z57,z58,z59,z60,z61,z62,z63,z64,z65,z66,z67,z68,z69,z70,z71,z72,z73,z74,z75,z76,z77,z78,z79,z80,z81,z82,z83,z84,z85,z86,z87,z88,z89,z90,z91,z92,z93,z94,z95,z96,z97,z98,z99,z100,z101,z102,z103,z104,z105,z106,z107,z108,z109,z110,z111,z112,z113,z114,z115,z116,z117,z118,z119,z120,z121,z122,z123,z124,z125,z126,z127,z128,z129,z130,z131,z132,z133,z134,z135,z136,z137,z138,z139,z140,z141,z142,z143,z144,z145,z146,z147,z148,z149,z150,z151,z152,z153,z154,z155,z156,z157,z158,z159,z160,z161,z162,z163,z164,z165,z166,z167,z168,z169,z170,z171,z172,z173,z174,z175,z176,z177,z178,z179,z180,z181,z182,z183,z184,z185,z186,z187,z188,z189,z190,z191,z192,z193,z194,z195,z196,z197,z198,z199,z200,z201,z202,z203,z204,z205,z206,z207,z208,z209,z210,z211,z212,z213,z214,z215,z216,z217,z218,z219,z220,z221,z222,z223,z224,z225,z226,z227,z228,z229,z230,z231,z232,z233,z234,z235,z236,z237,z238,z239,z240,z241,z242,z243,z244,z245,z246,z247,z248,z249,z250,z251,z252,z253],[]⟩ V:=by
 obtain ⟨⟨k1,k2⟩,k3,k4⟩:=k0
 obtain ⟨q1,q2⟩:=p0
 have hzR:R64 z:=by have:=congrArg (fun x=>x.1) hal;dsimp only at this;rw [← this];unfold alongS;exact do_R add_R _ _ _
 obtain ⟨z1,z2⟩:=z
 have MAT:=Lib.hid (fun u=>(by have:=qat_any ((k1,k2),(k3,k4)) (q1,q2) (1,1) u hk0.1;rw [hal] at this;exact this:Calls Try.prog 56 #[.agg #[.int .i64 k1,.int .i64 k2,.int .i64 k3,.int .i64 k4],.agg #[.int .i64 q1,.int .i64 q2],.agg #[.int .i64 1,.int .i64 1]] u fun e w'=>e = .returned (.tuple #[.agg #[.int .i64 1,.int .i64 1,.int .i64 z1,.int .i64 z2],.int .i64 e1])∧Below u.heap.size u w'))
 have M1:=Lib.hid qone_any
 obtain ⟨hl1,hle⟩:=hl
 obtain ⟨hs1,hse⟩:=hs
 have zn:((0:Int)<(n:Int))=True:=eq_true (by omega)
 have zn2:(0<n)=True:=eq_true (by omega)
 have zs:((0:Int)<(ns:Int))=True:=eq_true (by omega)
 have zs2:(0<ns)=True:=eq_true (by omega)
 have e0:al.add (0*4)=al:=by rw [Nat.zero_mul];rfl
 have e1_:sa.add (0*2)=sa:=by rw [Nat.zero_mul];rfl
 have hl:=Exists.intro (p:=fun q:0<l.length=>l[0]=((k1,k2),(k3,k4))) hl1 hle
 have hs:=Exists.intro (p:=fun q:0<sl.length=>sl[0]=(q1,q2)) hs1 hse
 have HC:=Lib.hid (fun (w_:World) (hb:Below V.heap.size V w_)=>(by have x:=(hK.below hb) 0 hl1;have y:=(hS.below hb) 0 hs1;rw [hle,e0] at x;rw [hse,e1_] at y;exact ⟨hb,x.1,x.2.1,x.2.2.1,x.2.2.2,y.1,y.2⟩:Below V.heap.size V w_∧w_.cell? al=some (.int .i64 k1)∧w_.cell? ⟨al.block,al.off+1,none⟩=some (.int .i64 k2)∧w_.cell? ⟨al.block,al.off+2,none⟩=some (.int .i64 k3)∧w_.cell? ⟨al.block,al.off+3,none⟩=some (.int .i64 k4)∧w_.cell? sa=some (.int .i64 q1)∧w_.cell? ⟨sa.block,sa.off+1,none⟩=some (.int .i64 q2)))
 have BR:Below V.heap.size V V:=Below.refl _ _
 have HL:=Lib.hid hl
 have HS_:=Lib.hid hs
 have HN:=Lib.hid hn
 have HNS:=Lib.hid hns
 have HK:=Lib.hid hK
 have HSA:=Lib.hid hS
 have HB:=Lib.hid hB
 have HK0:=Lib.hid hk0
 clear hl hs hn hns hK hS hB hk0
 have HR0:=Lib.hid hR0
 have HZR:=Lib.hid hzR
 clear hR0 hzR hal hle hse e0 e1_
 have HR1:=Lib.hid hR1
 have GA:=Lib.hid ga_
 have HAR:=Lib.hid haR
 clear hR1 ga_ haR
 rw [rnNE2]
 refine wp_seq_k (fun KN2 hKN2=>?_)
 have HKN2:=Lib.hid hKN2
 clear hKN2
 conv=>arg 2;whnf
 go_wp2_with fail
 go_region_held3 (fun w_=>Below V.heap.size V w_∧w_.cell? al=some (.int .i64 k1)∧w_.cell? ⟨al.block,al.off+1,none⟩=some (.int .i64 k2)∧w_.cell? ⟨al.block,al.off+2,none⟩=some (.int .i64 k3)∧w_.cell? ⟨al.block,al.off+3,none⟩=some (.int .i64 k4)∧w_.cell? sa=some (.int .i64 q1)∧w_.cell? ⟨sa.block,sa.off+1,none⟩=some (.int .i64 q2)) (first|(refine HC.out _ ?_;repeat (with_reducible first|assumption|apply Below.drew|refine Below.setCell ?_ (by dsimp only;exact Hand.z) _|refine Below.alloc ?_ Hand.z _))) (first|(go_at_call 55;((with_reducible refine (M1.out _).mono ?_);rintro e_ w5 ⟨rfl,hb5⟩;have BB:Below V.heap.size V w5:=Hand.stepB hb5 Hand.b (Nat.le_refl _);have zBB:=BB.size;(try (have nx5:=Hand.kb (i:=V.heap.size) (x:=.cells #[.int .i64 0,.int .i64 0,.int .i64 0,.int .i64 0] 35 (0,0)) hb5 (by first|exact Hand.q3 _ _ _ rfl|(rw [Hand.q5];exact Hand.q3 _ _ _ rfl));obtain ⟨nz50,nz51,nz52,ny50,ny51⟩:=Hand.hz nx5))))|(go_at_call 56;((with_reducible refine (MAT.out _).mono ?_);rintro e_ w6 ⟨rfl,hb6⟩;have BC:Below V.heap.size V w6:=Hand.stepB hb6 Hand.b (Nat.le_refl _);have zBC:=BC.size;(first|(have nx:=Hand.kb hb6 nx5;obtain ⟨nc0,nf0,nc1,nf1,nc2,nf2,nc3,nf3⟩:=Hand.hc4 nx;obtain ⟨nz0,nz1,nz2,ny0,ny1⟩:=Hand.hz nx)|(have nx:=Hand.kb (i:=w5.heap.size) (x:=.cells #[.int .i64 0,.int .i64 0,.int .i64 0,.int .i64 0] 35 (0,0)) hb6 (by exact Hand.q3 _ _ _ rfl);obtain ⟨nc0,nf0,nc1,nf1,nc2,nf2,nc3,nf3⟩:=Hand.hc4 nx;obtain ⟨nz0,nz1,nz2,ny0,ny1⟩:=Hand.hz nx)|skip))))
 all_goals (refine HKN2.out _ _ ?_)
 all_goals (refine rn_24c w R l sl ((k1,k2),(k3,k4)) (q1,q2) a (z1,z2) e1 HR0.out HR1.out (Hand.kb (show Below V.heap.size V _ by repeat (with_reducible first|assumption|apply Below.drew|refine Below.setCell ?_ (by dsimp only;exact Hand.z) _|refine Below.alloc ?_ Hand.z _)) GA.out) HAR.out HL.out HS_.out HN.out HNS.out (HK.out.below Hand.b) (HSA.out.below Hand.b) (HB.out.trans (Below.mono Hand.b HB.out.size)) HK0.out ?_ HZR.out)
 all_goals (first|omega|(simp (disch:=try exact Hand.z) only [Hand.q5,Hand.q4,Hand.q3];done)|(simp (disch:=try exact Hand.z) only [Hand.q5,Hand.q1,Hand.q2,Hand.q4,Hand.q3,nx];first|done|rfl))
theorem rn_21c (w:World) (R:Option MapV × Int) (l:List Kn) (sl:List Rt) (k0:Kn) (p0:Rt) (zb:Rt) (e2:Int) (z:Rt) (e1:Int) {z1 z2 z3 z4 z6 z7 z8 z9 z10 z13 z14 z15 z16 z17 z18 z19 z20 z21 z22 z23 z24 z25 z26 z27 z28 z29 z30 z31 z32 z33 z34 z35 z36 z37 z38 z39 z40 z41 z42 z43 z44 z45 z46 z47 z48 z49 z50 z51 z52 z53 z54 z55 z56 z57 z58 z59 z60 z61 z62 z63 z64 z65 z66 z67 z68 z69 z70 z71 z72 z73 z74 z75 z76 z77 z78 z79 z80 z81 z82 z83 z84 z85 z86 z87 z88 z89 z90 z91 z92 z93 z94 z95 z96 z97 z98 z99 z100 z101 z102 z103 z104 z105 z106 z107 z108 z109 z110 z111 z112 z113 z114 z115 z116 z117 z118 z119 z120 z121 z122 z123 z124 z125 z126 z127 z128 z129 z130 z131 z132 z133 z134 z135 z136 z137 z138 z139 z140 z141 z142 z143 z144 z145 z146 z147 z148 z149 z150 z151 z152 z153 z154 z155 z156 z157 z158 z159 z160 z161 z162 z163 z164 z165 z166 z167 z168 z169 z170 z171 z172 z173 z174 z175 z176 z177 z178 z179 z180 z181 z182 z183 z184 z185 z186 z187 z188 z189 z190 z191 z192 z193 z194 z195 z196 z197 z198 z199 z200 z201 z202 z203 z204 z205 z206 z207 z208 z209 z210 z211 z212 z213 z214 z215 z216 z217 z218 z219 z220 z221 z222 z223 z224 z225 z226 z227 z228 z229 z230 z231 z232 z233 z234 z235 z236 z237 z238 z239 z240 z241 z242 z243 z244 z245 z246 z247 z248 z249 z250 z251 z252 z253:Value} {al sa:Addr} {n cap ns csl gz:Nat} {K:Act → World → Prop} {V:World} (hR0:e1≠0 → R=(none,e1)) (hab:alongS k0 p0 (1,1)=(zb,e2)) (hR1:e1=0 → e2≠0 → R=(none,e2)) (hR2:e1=0 → e2=0 → R=finR ⟨[((0,1),z),((1,1),zb)],[p0],0⟩) (hl:∃ q:0<l.length,l[0]=k0) (hs:∃ q:0<sl.length,sl[0]=p0) (hn:n=l.length) (hns:ns=sl.length) (hK:KnA V al l) (hS:RtA V sa sl) (hB:Below w.heap.size w V) (hk0:R64 k0.1∧R64 k0.2) (gz_:V.heap[gz]?=some (.cells #[.int .i64 0,.int .i64 1,.int .i64 z.1,.int .i64 z.2] 35 (0,0))) (hzR:R64 z) :
  rnN1.wp Try.prog (Exit.then K (bodyPost Try.prog Try.f20 (NewSQ w R))) ⟨#[.slice (some al) n cap,z1,z2,z3,z4,.slice (some sa) ns csl,z6,z7,z8,z9,z10,.pointer (some ⟨gz,0,none⟩),.int .i64 e1,z13,z14,z15,z16,z17,z18,z19,z20,z21,z22,z23,z24,z25,z26,z27,z28,z29,z30,z31,z32,z33,z34,z35,z36,z37,z38,z39,z40,z41,z42,z43,z44,z45,z46,z47,z48,z49,z50,z51,z52,z53,z54,z55,z56,z57,z58,z59,z60,z61,z62,z63,z64,z65,z66,z67,z68,z69,z70,z71,z72,z73,z74,z75,z76,z77,z78,z79,z80,z81,z82,z83,z84,z85,z86,z87,z88,z89,z90,z91,z92,z93,z94,z95,z96,z97,z98,z99,z100,z101,z102,z103,z104,z105,z106,z107,z108,z109,z110,z111,z112,z113,z114,z115,z116,z117,z118,z119,z120,z121,z122,z123,z124,z125,z126,z127,z128,z129,z130,z131,z132,z133,z134,z135,z136,z137,z138,z139,z140,z141,z142,z143,z144,z145,z146,z147,z148,z149,z150,z151,z152,z153,z154,z155,z156,z157,z158,z159,z160,z161,z162,z163,z164,z165,z166,z167,z168,z169,z170,z171,z172,z173,z174,z175,z176,z177,z178,z179,z180,z181,z182,z183,z184,z185,z186,z187,z188,z189,z190,z191,z192,z193,z194,z195,z196,z197,z198,z199,z200,z201,z202,z203,z204,z205,z206,z207,z208,z209,z210,z211,z212,z213,z214,z215,z216,z217,z218,z219,z220,z221,z222,z223,z224,z225,z226,z227,z228,z229,z230,z231,z232,z233,z234,z235,z236,z237,z238,z239,z240,z241,z242,z243,z244,z245,z246,z247,z248,z249,z250,z251,z252,z253],[]⟩ V:=by
 have HL:=Lib.hid hl
 have HS_:=Lib.hid hs
 have HN:=Lib.hid hn
 have HNS:=Lib.hid hns
 have HK:=Lib.hid hK
 have HSA:=Lib.hid hS
 have HB:=Lib.hid hB
 have HK0:=Lib.hid hk0
 clear hl hs hn hns hK hS hB hk0
 have HR0:=Lib.hid hR0
 have GZ:=Lib.hid gz_
 have HZR:=Lib.hid hzR
 clear hR0 gz_ hzR
 have HAB:=Lib.hid hab
 have HR1:=Lib.hid hR1
 have HR2:=Lib.hid hR2
 clear hab hR1 hR2
 rw [rnNE1]
 refine wp_seq_k (fun KN1 hKN1=>?_)
 have HKN1:=Lib.hid hKN1
 clear hKN1
 conv=>arg 2;whnf
 by_cases he:e1=0
 ·have j0:(e1 != 0)=false:=by simpa using he
  have HE:=Lib.hid he
  clear he
  go_wp2
  refine HKN1.out _ _ ?_
  exact rn_24 w R l sl k0 p0 ((0,1),z) zb e2 (HAB.out) (HR1.out HE.out) (HR2.out HE.out) GZ.out ⟨R64_w 0 (by decide) (by decide),HZR.out⟩ HL.out HS_.out HN.out HNS.out HK.out HSA.out HB.out HK0.out
 ·have j0:(e1 != 0)=true:=by simpa using he
  have HE:=Lib.hid he
  clear he
  go_wp2
  go_ret2
  rw [HR0.out HE.out]
  exact ⟨_,rfl,rfl,HB.out⟩
theorem rn_21 (w:World) (R:Option MapV × Int) (l:List Kn) (sl:List Rt) (k0:Kn) (p0:Rt) (zb:Rt) (e2:Int) (z:Rt) (e1:Int) {z1 z2 z3 z4 z6 z7 z8 z9 z10 z11 z12 z13 z14 z15 z16 z17 z18 z19 z20 z21 z22 z23 z24 z25 z26 z27 z28 z29 z30 z31 z32 z33 z34 z35 z36 z37 z38 z39 z40 z41 z42 z43 z44 z45 z46 z47 z48 z49 z50 z51 z52 z53 z54 z55 z56 z57 z58 z59 z60 z61 z62 z63 z64 z65 z66 z67 z68 z69 z70 z71 z72 z73 z74 z75 z76 z77 z78 z79 z80 z81 z82 z83 z84 z85 z86 z87 z88 z89 z90 z91 z92 z93 z94 z95 z96 z97 z98 z99 z100 z101 z102 z103 z104 z105 z106 z107 z108 z109 z110 z111 z112 z113 z114 z115 z116 z117 z118 z119 z120 z121 z122 z123 z124 z125 z126 z127 z128 z129 z130 z131 z132 z133 z134 z135 z136 z137 z138 z139 z140 z141 z142 z143 z144 z145 z146 z147 z148 z149 z150 z151 z152 z153 z154 z155 z156 z157 z158 z159 z160 z161 z162 z163 z164 z165 z166 z167 z168 z169 z170 z171 z172 z173 z174 z175 z176 z177 z178 z179 z180 z181 z182 z183 z184 z185 z186 z187 z188 z189 z190 z191 z192 z193 z194 z195 z196 z197 z198 z199 z200 z201 z202 z203 z204 z205 z206 z207 z208 z209 z210 z211 z212 z213 z214 z215 z216 z217 z218 z219 z220 z221 z222 z223 z224 z225 z226 z227 z228 z229 z230 z231 z232 z233 z234 z235 z236 z237 z238 z239 z240 z241 z242 z243 z244 z245 z246 z247 z248 z249 z250 z251 z252 z253:Value} {al sa:Addr} {n cap ns csl:Nat} {K:Act → World → Prop} {V:World} (hal:alongS k0 p0 (0,1)=(z,e1)) (hR0:e1≠0 → R=(none,e1)) (hab:alongS k0 p0 (1,1)=(zb,e2)) (hR1:e1=0 → e2≠0 → R=(none,e2)) (hR2:e1=0 → e2=0 → R=finR ⟨[((0,1),z),((1,1),zb)],[p0],0⟩) (hl:∃ q:0<l.length,l[0]=k0) (hs:∃ q:0<sl.length,sl[0]=p0) (hn:n=l.length) (hns:ns=sl.length) (hK:KnA V al l) (hS:RtA V sa sl) (hB:Below w.heap.size w V) (hk0:R64 k0.1∧R64 k0.2) :
  rnN0.wp Try.prog (Exit.then K (bodyPost Try.prog Try.f20 (NewSQ w R))) ⟨#[.slice (some al) n cap,z1,z2,z3,z4,.slice (some sa) ns csl,z6,z7,z8,z9,z10,z11,z12,z13,z14,z15,z16,z17,z18,z19,z20,z21,z22,z23,z24,z25,z26,z27,z28,z29,z30,z31,z32,z33,z34,z35,z36,z37,z38,z39,z40,z41,z42,z43,z44,z45,z46,z47,z48,z49,z50,z51,z52,z53,z54,z55,z56,z57,z58,z59,z60,z61,z62,z63,z64,z65,z66,z67,z68,z69,z70,z71,z72,z73,z74,z75,z76,z77,z78,z79,z80,z81,z82,z83,z84,z85,z86,z87,z88,z89,z90,z91,z92,z93,z94,z95,z96,z97,z98,z99,z100,z101,z102,z103,z104,z105,z106,z107,z108,z109,z110,z111,z112,z113,z114,z115,z116,z117,z118,z119,z120,z121,z122,z123,z124,z125,z126,z127,z128,z129,z130,z131,z132,z133,z134,z135,z136,z137,z138,z139,z140,z141,z142,z143,z144,z145,z146,z147,z148,z149,z150,z151,z152,z153,z154,z155,z156,z157,z158,z159,z160,z161,z162,z163,z164,z165,z166,z167,z168,z169,z170,z171,z172,z173,z174,z175,z176,z177,z178,z179,z180,z181,z182,z183,z184,z185,z186,z187,z188,z189,z190,z191,z192,z193,z194,z195,z196,z197,z198,z199,z200,z201,z202,z203,z204,z205,z206,z207,z208,z209,z210,z211,z212,z213,z214,z215,z216,z217,z218,z219,z220,z221,z222,z223,z224,z225,z226,z227,z228,z229,z230,z231,z232,z233,z234,z235,z236,z237,z238,z239,z240,z241,z242,z243,z244,z245,z246,z247,z248,z249,z250,z251,z252,z253],[]⟩ V:=by
 obtain ⟨⟨k1,k2⟩,k3,k4⟩:=k0
 obtain ⟨q1,q2⟩:=p0
 have hzR:R64 z:=by have:=congrArg (fun x=>x.1) hal;dsimp only at this;rw [← this];unfold alongS;exact do_R add_R _ _ _
 obtain ⟨z1,z2⟩:=z
 have MAT:=Lib.hid (fun u=>(by have:=qat_any ((k1,k2),(k3,k4)) (q1,q2) (0,1) u hk0.1;rw [hal] at this;exact this:Calls Try.prog 56 #[.agg #[.int .i64 k1,.int .i64 k2,.int .i64 k3,.int .i64 k4],.agg #[.int .i64 q1,.int .i64 q2],.agg #[.int .i64 0,.int .i64 1]] u fun e w'=>e = .returned (.tuple #[.agg #[.int .i64 0,.int .i64 1,.int .i64 z1,.int .i64 z2],.int .i64 e1])∧Below u.heap.size u w'))
 have M1:=Lib.hid qnought_any
 obtain ⟨hl1,hle⟩:=hl
 obtain ⟨hs1,hse⟩:=hs
 have zn:((0:Int)<(n:Int))=True:=eq_true (by omega)
 have zn2:(0<n)=True:=eq_true (by omega)
 have zs:((0:Int)<(ns:Int))=True:=eq_true (by omega)
 have zs2:(0<ns)=True:=eq_true (by omega)
 have e0:al.add (0*4)=al:=by rw [Nat.zero_mul];rfl
 have e1_:sa.add (0*2)=sa:=by rw [Nat.zero_mul];rfl
 have hl:=Exists.intro (p:=fun q:0<l.length=>l[0]=((k1,k2),(k3,k4))) hl1 hle
 have hs:=Exists.intro (p:=fun q:0<sl.length=>sl[0]=(q1,q2)) hs1 hse
 have HC:=Lib.hid (fun (w_:World) (hb:Below V.heap.size V w_)=>(by have x:=(hK.below hb) 0 hl1;have y:=(hS.below hb) 0 hs1;rw [hle,e0] at x;rw [hse,e1_] at y;exact ⟨hb,x.1,x.2.1,x.2.2.1,x.2.2.2,y.1,y.2⟩:Below V.heap.size V w_∧w_.cell? al=some (.int .i64 k1)∧w_.cell? ⟨al.block,al.off+1,none⟩=some (.int .i64 k2)∧w_.cell? ⟨al.block,al.off+2,none⟩=some (.int .i64 k3)∧w_.cell? ⟨al.block,al.off+3,none⟩=some (.int .i64 k4)∧w_.cell? sa=some (.int .i64 q1)∧w_.cell? ⟨sa.block,sa.off+1,none⟩=some (.int .i64 q2)))
 have BR:Below V.heap.size V V:=Below.refl _ _
 have HL:=Lib.hid hl
 have HS_:=Lib.hid hs
 have HN:=Lib.hid hn
 have HNS:=Lib.hid hns
 have HK:=Lib.hid hK
 have HSA:=Lib.hid hS
 have HB:=Lib.hid hB
 have HK0:=Lib.hid hk0
 clear hl hs hn hns hK hS hB hk0
 have HR0:=Lib.hid hR0
 have HZR:=Lib.hid hzR
 clear hR0 hzR hal hle hse e0 e1_
 have HAB:=Lib.hid hab
 have HR1:=Lib.hid hR1
 have HR2:=Lib.hid hR2
 clear hab hR1 hR2
 rw [rnNE0]
 refine wp_seq_k (fun KN0 hKN0=>?_)
 have HKN0:=Lib.hid hKN0
 clear hKN0
 conv=>arg 2;whnf
 go_wp2_with fail
 go_region_held3 (fun w_=>Below V.heap.size V w_∧w_.cell? al=some (.int .i64 k1)∧w_.cell? ⟨al.block,al.off+1,none⟩=some (.int .i64 k2)∧w_.cell? ⟨al.block,al.off+2,none⟩=some (.int .i64 k3)∧w_.cell? ⟨al.block,al.off+3,none⟩=some (.int .i64 k4)∧w_.cell? sa=some (.int .i64 q1)∧w_.cell? ⟨sa.block,sa.off+1,none⟩=some (.int .i64 q2)) (first|(refine HC.out _ ?_;repeat (with_reducible first|assumption|apply Below.drew|refine Below.setCell ?_ (by dsimp only;exact Hand.z) _|refine Below.alloc ?_ Hand.z _))) (first|(go_at_call 57;((with_reducible refine (M1.out _).mono ?_);rintro e_ w5 ⟨rfl,hb5⟩;have BB:Below V.heap.size V w5:=Hand.stepB hb5 Hand.b (Nat.le_refl _);have zBB:=BB.size;(try (have nx5:=Hand.kb (i:=V.heap.size) (x:=.cells #[.int .i64 0,.int .i64 0,.int .i64 0,.int .i64 0] 35 (0,0)) hb5 (by first|exact Hand.q3 _ _ _ rfl|(rw [Hand.q5];exact Hand.q3 _ _ _ rfl));obtain ⟨nz50,nz51,nz52,ny50,ny51⟩:=Hand.hz nx5))))|(go_at_call 56;((with_reducible refine (MAT.out _).mono ?_);rintro e_ w6 ⟨rfl,hb6⟩;have BC:Below V.heap.size V w6:=Hand.stepB hb6 Hand.b (Nat.le_refl _);have zBC:=BC.size;(first|(have nx:=Hand.kb hb6 nx5;obtain ⟨nc0,nf0,nc1,nf1,nc2,nf2,nc3,nf3⟩:=Hand.hc4 nx;obtain ⟨nz0,nz1,nz2,ny0,ny1⟩:=Hand.hz nx)|(have nx:=Hand.kb (i:=w5.heap.size) (x:=.cells #[.int .i64 0,.int .i64 0,.int .i64 0,.int .i64 0] 35 (0,0)) hb6 (by exact Hand.q3 _ _ _ rfl);obtain ⟨nc0,nf0,nc1,nf1,nc2,nf2,nc3,nf3⟩:=Hand.hc4 nx;obtain ⟨nz0,nz1,nz2,ny0,ny1⟩:=Hand.hz nx)|skip))))
 all_goals (refine HKN0.out _ _ ?_)
 all_goals (refine rn_21c w R l sl ((k1,k2),(k3,k4)) (q1,q2) zb e2 (z1,z2) e1 HR0.out HAB.out HR1.out HR2.out HL.out HS_.out HN.out HNS.out (HK.out.below Hand.b) (HSA.out.below Hand.b) (HB.out.trans (Below.mono Hand.b HB.out.size)) HK0.out ?_ HZR.out)
 all_goals (first|omega|(simp (disch:=try exact Hand.z) only [Hand.q5,Hand.q4,Hand.q3];done)|(simp (disch:=try exact Hand.z) only [Hand.q5,Hand.q1,Hand.q2,Hand.q4,Hand.q3,nx];first|done|rfl))
end Go.Proofs.Ythlpaglldhgmfaa.PA
