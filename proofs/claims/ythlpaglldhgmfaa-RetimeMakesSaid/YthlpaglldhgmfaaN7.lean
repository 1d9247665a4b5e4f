/- Chapter 6: the reference's New: bends or none. Chapter 6: what the reference's New gives, in plain Lean. Chapter 6: the reference's New: where it bends. Chapter 6: the reference's New: its slopes. Chapter 6: the reference's New. -/
import Derived.Test.YthlpaglldhgmfaaN6
import Derived.Test.YthlpaglldhgmfaaN3
set_option maxHeartbeats 4000000
set_option maxRecDepth 100000
namespace Go.Proofs.Ythlpaglldhgmfaa.PA
open Go Go.RowKit Go.Proofs.YthlpaglldhgmfaaW.PrintWords Go.Proofs.YthlpaglldhgmfaaW.PrintLast Go.Proofs.YthlpaglldhgmfaaW.PrintMore
attribute [local go_sem high] eqA31 eqA35
set_option linter.unusedSimpArgs false
set_option linter.unusedVariables false
def idxF:Rt → List Rt → Nat → List Nat
 | _,[],_=>[]
 | p,s :: ss,i=>if s=p then idxF s ss (i+1) else i :: idxF s ss (i+1)
theorem idxF_snoc (s:Rt):∀ (ss:List Rt) (p:Rt) (i:Nat),idxF p (ss ++ [s]) i=idxF p ss i ++ (if s=lastS p ss then [] else [i+ss.length]):=by
 intro ss
 induction ss with
 | nil=>intro p i;by_cases h:s=p<;>simp [idxF,lastS,h]
 | cons x ss ih =>
  intro p i
  simp only [List.cons_append,idxF,ih x (i+1),lastS,List.getLast_cons_cons,List.length_cons]
  have e:i+1+ss.length=i+(ss.length+1):=by omega
  split
  ·rw [e];rfl
  ·rw [e];rfl
theorem idxF_range:∀ (ss:List Rt) (p:Rt) (i q:Nat),q ∈ idxF p ss i → i≤q∧q<i+ss.length:=by
 intro ss
 induction ss with
 | nil=>intro p i q h;simp [idxF] at h
 | cons s ss ih =>
  intro p i q h
  simp only [idxF] at h
  simp only [List.length_cons]
  split at h
  ·have:=ih s (i+1) q h;omega
  ·rcases List.mem_cons.1 h with rfl|h
   ·omega
   ·have:=ih s (i+1) q h;omega
theorem idxF_bend:∀ (ss:List Rt) (p:Rt) (ks:List Kn) (i:Nat),ss.length≤ks.length → bendF p ss ks=(idxF p ss i).map (fun q=>(ks.getD (q - i) ((0,0),(0,0)),ss.getD (q - i) (0,0))):=by
 intro ss
 induction ss with
 | nil=>intro p ks i _;cases ks<;>simp [bendF,idxF]
 | cons s ss ih =>
  intro p ks i hl
  cases ks with
  | nil=>simp at hl
  | cons k ks =>
   have e:(idxF s ss (i+1)).map (fun q=>(ks.getD (q - (i+1)) ((0,0),(0,0)),ss.getD (q - (i+1)) (0,0)))=(idxF s ss (i+1)).map (fun q=>((k :: ks).getD (q - i) ((0,0),(0,0)),(s :: ss).getD (q - i) (0,0))):=by
    refine List.map_congr_left fun q hq=>?_
    have:=(idxF_range ss s (i+1) q hq).1
    rw [show q - i=(q - (i+1))+1 by omega]
    simp only [List.getD_cons_succ]
   simp only [bendF,idxF]
   rw [ih s ks (i+1) (by simpa using hl),e]
   split
   ·rfl
   ·simp only [List.map_cons,Nat.sub_self,List.getD_cons_zero]
theorem idxF_first:∀ (ss:List Rt) (p:Rt) (i f:Nat) (L:List Nat),idxF p ss i=f :: L → (p :: ss)[f - i]?=some p:=by
 intro ss
 induction ss with
 | nil=>intro p i f L h;simp [idxF] at h
 | cons s ss ih =>
  intro p i f L h
  simp only [idxF] at h
  split at h
  ·rename_i e
   subst e
   have hr:=idxF_range ss s (i+1) f (by rw [h];exact List.mem_cons_self)
   have:=ih s (i+1) f L h
   rw [show f - i=(f - (i+1))+1 by omega,List.getElem?_cons_succ]
   exact this
  ·simp only [List.cons.injEq] at h
   obtain ⟨rfl,_⟩:=h
   simp
theorem idxF_at {ss:List Rt} {p:Rt} {k0:Kn} {ks:List Kn} (hl:ss.length≤ks.length):(bendF p ss ks).length=(idxF p ss 1).length∧∀ j (hj:j<(idxF p ss 1).length) (hj':j<(bendF p ss ks).length),∃ (h1:(idxF p ss 1)[j]<(k0 :: ks).length) (h2:(idxF p ss 1)[j]<(p :: ss).length),(bendF p ss ks)[j]=((k0 :: ks)[(idxF p ss 1)[j]],(p :: ss)[(idxF p ss 1)[j]]):=by
 have hb:=idxF_bend ss p ks 1 hl
 refine ⟨by rw [hb,List.length_map],fun j hj hj'=>?_⟩
 have hr:=idxF_range ss p 1 _ (List.getElem_mem hj)
 refine ⟨by simp only [List.length_cons];omega,by simp only [List.length_cons];omega,?_⟩
 simp only [hb,List.getElem_map]
 obtain ⟨q,hq⟩:∃ q,(idxF p ss 1)[j]=q+1:=⟨(idxF p ss 1)[j] - 1,by omega⟩
 simp only [hq,Nat.add_sub_cancel,List.getElem_cons_succ]
 rw [List.getD_eq_getElem?_getD,List.getD_eq_getElem?_getD,List.getElem?_eq_getElem (by omega),List.getElem?_eq_getElem (by omega)]
 rfl
noncomputable def rnC20:Code:=fstC (fstC rnT8)
theorem rnE8c:rnT8 = .seq (.seq rnC20 (.cond (.tmp 83) rnN0 .skip)) rnT9:=by kernel_rfl
theorem rn_8a (w:World) (R:Option MapV × Int) (l:List Kn) (sl:List Rt) (k0:Kn) (p0:Rt) (za zb:Rt) (e1 e2:Int) {z1 z2 z3 z4 z6 z7 z8 z10 z11 z12 z13 z14 z15 z16 z17 z18 z19 z20 z21 z22 z23 z24 z25 z26 z27 z28 z29 z30 z31 z32 z33 z34 z35 z36 z37 z38 z39 z40 z41 z42 z43 z44 z45 z46 z47 z48 z49 z50 z51 z52 z53 z54 z55 z56 z57 z58 z59 z60 z61 z62 z63 z64 z65 z66 z67 z68 z69 z70 z71 z72 z73 z74 z75 z76 z77 z78 z79 z80 z81 z82 z83 z84 z85 z86 z87 z88 z89 z90 z91 z92 z93 z94 z95 z96 z97 z98 z99 z100 z101 z102 z103 z104 z105 z106 z107 z108 z109 z110 z111 z112 z113 z114 z115 z116 z117 z118 z119 z120 z121 z122 z123 z124 z125 z126 z127 z128 z129 z130 z131 z132 z133 z134 z135 z136 z137 z138 z139 z140 z141 z142 z143 z144 z145 z146 z147 z148 z149 z150 z151 z152 z153 z154 z155 z156 z157 z158 z159 z160 z161 z162 z163 z164 z165 z166 z167 z168 z169 z170 z171 z172 z173 z174 z175 z176 z177 z178 z179 z180 z181 z182 z183 z184 z185 z186 z187 z188 z189 z190 z191 z192 z193 z194 z195 z196 z197 z198 z199 z200 z201 z202 z203 z204 z205 z206 z207 z208 z209 z210 z211 z212 z213 z214 z215 z216 z217 z218 z219 z220 z221 z222 z223 z224 z225 z226 z227 z228 z229 z230 z231 z232 z233 z234 z235 z236 z237 z238 z239 z240 z241 z242 z243 z244 z245 z246 z247 z248 z249 z250 z251 z252 z253:Value} {al sa:Addr} {n cap ns csl:Nat} {V:World} (hal:alongS k0 p0 (0,1)=(za,e1)) (hR0:e1≠0 → R=(none,e1)) (hab:alongS k0 p0 (1,1)=(zb,e2)) (hR1:e1=0 → e2≠0 → R=(none,e2)) (hR2:e1=0 → e2=0 → R=finR ⟨[((0,1),za),((1,1),zb)],[p0],0⟩) (hl:∃ q:0<l.length,l[0]=k0) (hs:∃ q:0<sl.length,sl[0]=p0) (hn:n=l.length) (hns:ns=sl.length) (hK:KnA V al l) (hS:RtA V sa sl) (hB:Below w.heap.size w V) (hk0:R64 k0.1∧R64 k0.2) :
  rnT8.wp Try.prog (bodyPost Try.prog Try.f20 (NewSQ w R)) ⟨#[.slice (some al) n cap,z1,z2,z3,z4,.slice (some sa) ns csl,z6,z7,z8,.slice none 0 0,z10,z11,z12,z13,z14,z15,z16,z17,z18,z19,z20,z21,z22,z23,z24,z25,z26,z27,z28,z29,z30,z31,z32,z33,z34,z35,z36,z37,z38,z39,z40,z41,z42,z43,z44,z45,z46,z47,z48,z49,z50,z51,z52,z53,z54,z55,z56,z57,z58,z59,z60,z61,z62,z63,z64,z65,z66,z67,z68,z69,z70,z71,z72,z73,z74,z75,z76,z77,z78,z79,z80,z81,z82,z83,z84,z85,z86,z87,z88,z89,z90,z91,z92,z93,z94,z95,z96,z97,z98,z99,z100,z101,z102,z103,z104,z105,z106,z107,z108,z109,z110,z111,z112,z113,z114,z115,z116,z117,z118,z119,z120,z121,z122,z123,z124,z125,z126,z127,z128,z129,z130,z131,z132,z133,z134,z135,z136,z137,z138,z139,z140,z141,z142,z143,z144,z145,z146,z147,z148,z149,z150,z151,z152,z153,z154,z155,z156,z157,z158,z159,z160,z161,z162,z163,z164,z165,z166,z167,z168,z169,z170,z171,z172,z173,z174,z175,z176,z177,z178,z179,z180,z181,z182,z183,z184,z185,z186,z187,z188,z189,z190,z191,z192,z193,z194,z195,z196,z197,z198,z199,z200,z201,z202,z203,z204,z205,z206,z207,z208,z209,z210,z211,z212,z213,z214,z215,z216,z217,z218,z219,z220,z221,z222,z223,z224,z225,z226,z227,z228,z229,z230,z231,z232,z233,z234,z235,z236,z237,z238,z239,z240,z241,z242,z243,z244,z245,z246,z247,z248,z249,z250,z251,z252,z253],[]⟩ V:=by
 have H_hal:=Lib.hid hal
 have H_hR0:=Lib.hid hR0
 have H_hab:=Lib.hid hab
 have H_hR1:=Lib.hid hR1
 have H_hR2:=Lib.hid hR2
 have H_hl:=Lib.hid hl
 have H_hs:=Lib.hid hs
 have H_hn:=Lib.hid hn
 have H_hns:=Lib.hid hns
 have H_hK:=Lib.hid hK
 have H_hS:=Lib.hid hS
 have H_hB:=Lib.hid hB
 have H_hk0:=Lib.hid hk0
 clear hal hR0 hab hR1 hR2 hl hs hn hns hK hS hB hk0
 rw [rnE8c]
 refine wp_seq_k (fun K8 hK8=>?_)
 refine wp_seq_k (fun K20 hK20=>?_)
 have HK8:=Lib.hid hK8
 have HK20:=Lib.hid hK20
 clear hK8 hK20
 conv=>arg 2;whnf
 go_wp2
 refine HK20.out _ _ ?_
 refine wp_cond_true rfl ?_
 exact rn_21 w R l sl k0 p0 zb e2 za e1 H_hal.out H_hR0.out H_hab.out H_hR1.out H_hR2.out H_hl.out H_hs.out H_hn.out H_hns.out H_hK.out H_hS.out H_hB.out H_hk0.out
theorem rn_8b (w:World) (R:Option MapV × Int) (l:List Kn) (sl:List Rt) (I:List Nat) (B:List (Kn × Rt)) (kf kl:Kn) (p0 ql x zh y z:Rt) (ex eh ey ez:Int) {z1 z2 z3 z4 z6 z7 z8 z10 z11 z12 z13 z14 z15 z16 z17 z18 z19 z20 z21 z22 z23 z24 z25 z26 z27 z28 z29 z30 z31 z32 z33 z34 z35 z36 z37 z38 z39 z40 z41 z42 z43 z44 z45 z46 z47 z48 z49 z50 z51 z52 z53 z54 z55 z56 z57 z58 z59 z60 z61 z62 z63 z64 z65 z66 z67 z68 z69 z70 z71 z72 z73 z74 z75 z76 z77 z78 z79 z80 z81 z82 z83 z84 z85 z86 z87 z88 z89 z90 z91 z92 z93 z94 z95 z96 z97 z98 z99 z100 z101 z102 z103 z104 z105 z106 z107 z108 z109 z110 z111 z112 z113 z114 z115 z116 z117 z118 z119 z120 z121 z122 z123 z124 z125 z126 z127 z128 z129 z130 z131 z132 z133 z134 z135 z136 z137 z138 z139 z140 z141 z142 z143 z144 z145 z146 z147 z148 z149 z150 z151 z152 z153 z154 z155 z156 z157 z158 z159 z160 z161 z162 z163 z164 z165 z166 z167 z168 z169 z170 z171 z172 z173 z174 z175 z176 z177 z178 z179 z180 z181 z182 z183 z184 z185 z186 z187 z188 z189 z190 z191 z192 z193 z194 z195 z196 z197 z198 z199 z200 z201 z202 z203 z204 z205 z206 z207 z208 z209 z210 z211 z212 z213 z214 z215 z216 z217 z218 z219 z220 z221 z222 z223 z224 z225 z226 z227 z228 z229 z230 z231 z232 z233 z234 z235 z236 z237 z238 z239 z240 z241 z242 z243 z244 z245 z246 z247 z248 z249 z250 z251 z252 z253:Value} {al sa ba:Addr} {n cap ns csl ni cb f la nm:Nat} {V:World} (hSub:rSub kf.1 (1,1)=(x,ex)) (hXX:ex≠0 → R=(none,ex)) (hah:ex=0 → alongS kf p0 x=(zh,eh)) (hH0:ex=0 → eh≠0 → R=(none,eh)) (hX:rAdd kl.1 (1,1)=(y,ey)) (hE:ex=0 → eh=0 → ey≠0 → R=(none,ey)) (hal:ex=0 → eh=0 → ey=0 → alongS kl ql y=(z,ez)) (hR0:ex=0 → eh=0 → ey=0 → ez≠0 → R=(none,ez)) (hR1:ex=0 → eh=0 → ey=0 → ez=0 → R=finR ⟨(x,zh) :: (B.map (·.1) ++ [(y,z)]),p0 :: B.map (·.2),0⟩) (hn:n=l.length) (hns:ns=sl.length) (hni:ni=I.length) (hBI:B.length=I.length∧∀ j (hj:j<I.length) (hj':j<B.length),∃ (h1:I[j]<l.length) (h2:I[j]<sl.length),B[j]=(l[I[j]],sl[I[j]])) (hc:RCtx V al sa ba l sl I) (hB:Below w.heap.size w V) (h64:n≤64) (hs64:ns≤64) (hni64:ni≤64) (hKRl:KnR l) (hSR:∀ s ∈ sl,R64 s) (hf:1≤f) (hf2:∃ q:f - 1<sl.length,sl[f - 1]=p0) (hla:∃ q:la<l.length,l[la]=kl) (hla2:∃ q:la<sl.length,sl[la]=ql) (hkf:∃ q:f<l.length,l[f]=kf) (hi:ni=nm+1) (hif:∃ q:0<I.length,I[0]=f) (hil:∃ q:nm<I.length,I[nm]=la) :
  rnT8.wp Try.prog (bodyPost Try.prog Try.f20 (NewSQ w R)) ⟨#[.slice (some al) n cap,z1,z2,z3,z4,.slice (some sa) ns csl,z6,z7,z8,.slice (some ba) ni cb,z10,z11,z12,z13,z14,z15,z16,z17,z18,z19,z20,z21,z22,z23,z24,z25,z26,z27,z28,z29,z30,z31,z32,z33,z34,z35,z36,z37,z38,z39,z40,z41,z42,z43,z44,z45,z46,z47,z48,z49,z50,z51,z52,z53,z54,z55,z56,z57,z58,z59,z60,z61,z62,z63,z64,z65,z66,z67,z68,z69,z70,z71,z72,z73,z74,z75,z76,z77,z78,z79,z80,z81,z82,z83,z84,z85,z86,z87,z88,z89,z90,z91,z92,z93,z94,z95,z96,z97,z98,z99,z100,z101,z102,z103,z104,z105,z106,z107,z108,z109,z110,z111,z112,z113,z114,z115,z116,z117,z118,z119,z120,z121,z122,z123,z124,z125,z126,z127,z128,z129,z130,z131,z132,z133,z134,z135,z136,z137,z138,z139,z140,z141,z142,z143,z144,z145,z146,z147,z148,z149,z150,z151,z152,z153,z154,z155,z156,z157,z158,z159,z160,z161,z162,z163,z164,z165,z166,z167,z168,z169,z170,z171,z172,z173,z174,z175,z176,z177,z178,z179,z180,z181,z182,z183,z184,z185,z186,z187,z188,z189,z190,z191,z192,z193,z194,z195,z196,z197,z198,z199,z200,z201,z202,z203,z204,z205,z206,z207,z208,z209,z210,z211,z212,z213,z214,z215,z216,z217,z218,z219,z220,z221,z222,z223,z224,z225,z226,z227,z228,z229,z230,z231,z232,z233,z234,z235,z236,z237,z238,z239,z240,z241,z242,z243,z244,z245,z246,z247,z248,z249,z250,z251,z252,z253],[]⟩ V:=by
 have hne:((ni:Int) == 0)=false:=by simp;omega
 have hne2:(ni == 0)=false:=by simp;omega
 have H_hSub:=Lib.hid hSub
 have H_hXX:=Lib.hid hXX
 have H_hah:=Lib.hid hah
 have H_hH0:=Lib.hid hH0
 have H_hX:=Lib.hid hX
 have H_hE:=Lib.hid hE
 have H_hal:=Lib.hid hal
 have H_hR0:=Lib.hid hR0
 have H_hR1:=Lib.hid hR1
 have H_hn:=Lib.hid hn
 have H_hns:=Lib.hid hns
 have H_hni:=Lib.hid hni
 have H_hBI:=Lib.hid hBI
 have H_hc:=Lib.hid hc
 have H_hB:=Lib.hid hB
 have H_h64:=Lib.hid h64
 have H_hs64:=Lib.hid hs64
 have H_hni64:=Lib.hid hni64
 have H_hKRl:=Lib.hid hKRl
 have H_hSR:=Lib.hid hSR
 have H_hf:=Lib.hid hf
 have H_hf2:=Lib.hid hf2
 have H_hla:=Lib.hid hla
 have H_hla2:=Lib.hid hla2
 have H_hkf:=Lib.hid hkf
 have H_hi:=Lib.hid hi
 have H_hif:=Lib.hid hif
 have H_hil:=Lib.hid hil
 clear hSub hXX hah hH0 hX hE hal hR0 hR1 hn hns hni hBI hc hB h64 hs64 hni64 hKRl hSR hf hf2 hla hla2 hkf hi hif hil
 rw [rnE8c]
 refine wp_seq_k (fun K8 hK8=>?_)
 refine wp_seq_k (fun K20 hK20=>?_)
 have HK8:=Lib.hid hK8
 have HK20:=Lib.hid hK20
 clear hK8 hK20
 conv=>arg 2;whnf
 go_wp2
 refine HK20.out _ _ ?_
 refine wp_cond_false rfl ?_
 go_wp2
 refine HK8.out _ _ ?_
 exact rn_9 w R l sl I B kf kl p0 ql x zh y z ex eh ey ez H_hSub.out H_hXX.out H_hah.out H_hH0.out H_hX.out H_hE.out H_hal.out H_hR0.out H_hR1.out H_hn.out H_hns.out H_hni.out H_hBI.out H_hc.out H_hB.out H_h64.out H_hs64.out H_hni64.out H_hKRl.out H_hSR.out H_hf.out H_hf2.out H_hla.out H_hla2.out H_hkf.out H_hi.out H_hif.out H_hil.out
end Go.Proofs.Ythlpaglldhgmfaa.PA
namespace Go.Proofs.Ythlpaglldhgmfaa.PA
open Go Go.RowKit Go.Proofs.YthlpaglldhgmfaaW.PrintWords Go.Proofs.YthlpaglldhgmfaaW.PrintLast Go.Proofs.YthlpaglldhgmfaaW.PrintMore
set_option linter.unusedSimpArgs false
set_option linter.unusedVariables false
def refK (p0:Rt) (ss:List Rt) (k0:Kn) (ks:List Kn):Option MapV × Int :=
 if (ownK p0 (bendF p0 ss ks) k0).2≠0 then (none,(ownK p0 (bendF p0 ss ks) k0).2) else finR ⟨(ownK p0 (bendF p0 ss ks) k0).1,p0 :: (bendF p0 ss ks).map (·.2),0⟩
theorem refK_nil {p0:Rt} {ss:List Rt} {k0:Kn} {ks:List Kn} (h:bendF p0 ss ks=[]) :
  ((alongS k0 p0 (0,1)).2≠0 → refK p0 ss k0 ks=(none,(alongS k0 p0 (0,1)).2)) ∧
  ((alongS k0 p0 (0,1)).2=0 → (alongS k0 p0 (1,1)).2≠0 → refK p0 ss k0 ks=(none,(alongS k0 p0 (1,1)).2)) ∧
  ((alongS k0 p0 (0,1)).2=0 → (alongS k0 p0 (1,1)).2=0 → refK p0 ss k0 ks=finR ⟨[((0,1),(alongS k0 p0 (0,1)).1),((1,1),(alongS k0 p0 (1,1)).1)],[p0],0⟩):=by
 unfold refK
 rw [h]
 refine ⟨fun h1=>?_,fun h1 h2=>?_,fun h1 h2=>?_⟩
 ·have e:(ownK p0 [] k0).2=(alongS k0 p0 (0,1)).2:=by simp [ownK,lineS,atS,h1]
  rw [if_pos (by rw [e];exact h1),e]
 ·have e:(ownK p0 [] k0).2=(alongS k0 p0 (1,1)).2:=by simp [ownK,lineS,atS,h1]
  rw [if_pos (by rw [e];exact h2),e]
 ·have e:ownK p0 [] k0=([((0,1),(alongS k0 p0 (0,1)).1),((1,1),(alongS k0 p0 (1,1)).1)],0):=by simp [ownK,lineS,atS,h1,h2]
  rw [e];simp
theorem refK_bent {p0:Rt} {ss:List Rt} {k0:Kn} {ks:List Kn} {b:Kn × Rt} {B':List (Kn × Rt)} {kl:Kn} {ql:Rt} (h:bendF p0 ss ks=b :: B') (hl:(b :: B').getLast (by simp)=(kl,ql)) :
  ((rSub b.1.1 (1,1)).2≠0 → refK p0 ss k0 ks=(none,(rSub b.1.1 (1,1)).2)) ∧
  ((rSub b.1.1 (1,1)).2=0 → (alongS b.1 p0 (rSub b.1.1 (1,1)).1).2≠0 → refK p0 ss k0 ks=(none,(alongS b.1 p0 (rSub b.1.1 (1,1)).1).2)) ∧
  ((rSub b.1.1 (1,1)).2=0 → (alongS b.1 p0 (rSub b.1.1 (1,1)).1).2=0 → (rAdd kl.1 (1,1)).2≠0 → refK p0 ss k0 ks=(none,(rAdd kl.1 (1,1)).2)) ∧
  ((rSub b.1.1 (1,1)).2=0 → (alongS b.1 p0 (rSub b.1.1 (1,1)).1).2=0 → (rAdd kl.1 (1,1)).2=0 → (alongS kl ql (rAdd kl.1 (1,1)).1).2≠0 → refK p0 ss k0 ks=(none,(alongS kl ql (rAdd kl.1 (1,1)).1).2)) ∧
  ((rSub b.1.1 (1,1)).2=0 → (alongS b.1 p0 (rSub b.1.1 (1,1)).1).2=0 → (rAdd kl.1 (1,1)).2=0 → (alongS kl ql (rAdd kl.1 (1,1)).1).2=0 →
   refK p0 ss k0 ks=finR ⟨((rSub b.1.1 (1,1)).1,(alongS b.1 p0 (rSub b.1.1 (1,1)).1).1) :: ((b :: B').map (·.1) ++ [((rAdd kl.1 (1,1)).1,(alongS kl ql (rAdd kl.1 (1,1)).1).1)]),p0 :: (b :: B').map (·.2),0⟩):=by
 unfold refK
 rw [h]
 have o:ownK p0 (b :: B') k0=bentS p0 (b :: B') b (kl,ql):=by simp only [ownK,hl]
 rw [o]
 refine ⟨fun h1=>?_,fun h1 h2=>?_,fun h1 h2 h3=>?_,fun h1 h2 h3 h4=>?_,fun h1 h2 h3 h4=>?_⟩
 ·have e:(bentS p0 (b :: B') b (kl,ql)).2=(rSub b.1.1 (1,1)).2:=by simp [bentS,atS,doS,h1]
  rw [if_pos (by rw [e];exact h1),e]
 ·have e:(bentS p0 (b :: B') b (kl,ql)).2=(alongS b.1 p0 (rSub b.1.1 (1,1)).1).2:=by simp [bentS,atS,doS,h1,h2]
  rw [if_pos (by rw [e];exact h2),e]
 ·have e:(bentS p0 (b :: B') b (kl,ql)).2=(rAdd kl.1 (1,1)).2:=by simp [bentS,atS,doS,h1,h2,h3]
  rw [if_pos (by rw [e];exact h3),e]
 ·have e:(bentS p0 (b :: B') b (kl,ql)).2=(alongS kl ql (rAdd kl.1 (1,1)).1).2:=by simp [bentS,atS,doS,h1,h2,h3]
  rw [if_pos (by rw [e];exact h4),e]
 ·have e:bentS p0 (b :: B') b (kl,ql)=(((rSub b.1.1 (1,1)).1,(alongS b.1 p0 (rSub b.1.1 (1,1)).1).1) :: ((b :: B').map (·.1) ++ [((rAdd kl.1 (1,1)).1,(alongS kl ql (rAdd kl.1 (1,1)).1).1)]),0):=by simp [bentS,atS,doS,h1,h2,h3,h4]
  rw [e];simp
def noB (r:Option MapV × Int):Option MapV × Int:=(r.1.map (fun m=>⟨m.knots,m.slopes,0⟩),r.2)
theorem noB_newK {l:List Kn} {s0:Rt} {ss:List Rt} {k0:Kn} {ks:List Kn} (hl:l=k0 :: ks) (hc:chkK l=0) (hs:slopesS l=(s0 :: ss,0)):noB (newK l)=refK s0 ss k0 ks:=by
 have h2:(ownK s0 (bendF s0 ss ks) k0).1.length≠1:=by
  unfold ownK
  split
  ·simp [lineS]
  ·simp [bentS]
 subst hl
 unfold newK refK
 rw [hc,hs]
 dsimp only
 rw [if_neg (fun h=>h rfl),if_neg (fun h=>h rfl)]
 have e2:slopesS (ownK s0 (bendF s0 ss ks) k0).1=slpF (ownK s0 (bendF s0 ss ks) k0).1 0:=by unfold slopesS;rw [if_neg h2]
 rw [e2]
 unfold finR
 by_cases h:(ownK s0 (bendF s0 ss ks) k0).2=0
 ·by_cases h3:(slpF (ownK s0 (bendF s0 ss ks) k0).1 0).2=0
  ·simp [h,h3,noB]
  ·simp [h,h3,noB]
 ·simp [h,noB]
theorem noB_chk {l:List Kn} (hc:chkK l≠0):noB (newK l)=(none,chkK l):=by unfold newK;rw [if_pos hc];rfl
theorem noB_slp {l:List Kn} (hc:chkK l=0) (h1:l.length≠1) (hs:(slpF l 0).2≠0):noB (newK l)=(none,(slpF l 0).2):=by
 unfold newK slopesS
 rw [hc,if_neg (fun h=>h rfl),if_neg h1,if_pos hs];rfl
end Go.Proofs.Ythlpaglldhgmfaa.PA
namespace Go.Proofs.Ythlpaglldhgmfaa.PA
open Go Go.RowKit Go.Proofs.YthlpaglldhgmfaaW.PrintWords Go.Proofs.YthlpaglldhgmfaaW.PrintLast Go.Proofs.YthlpaglldhgmfaaW.PrintMore
attribute [local go_sem high] eqA31 eqA35
set_option linter.unusedSimpArgs false
set_option linter.unusedVariables false
theorem idxF_len:∀ (ss:List Rt) (p:Rt) (i:Nat),(idxF p ss i).length≤ss.length:=by
 intro ss
 induction ss with
 | nil=>intro p i;simp [idxF]
 | cons s ss ih =>
  intro p i
  have:=ih s (i+1)
  simp only [idxF,List.length_cons]
  split
  ·omega
  ·simp only [List.length_cons];omega
theorem own_grown {w w1 w2:World} {base size n:Nat} {e:TypeId} {v:Value} {xs:List Value} (h:w.ownsRow base e size v n xs) (hz:base≤w.heap.size) (hb:Below w.heap.size w w1) (hg:w1.grownBy w2 v.ownBlock):Below base w w2:=by
 refine ⟨hg.os.trans hb.os,hg.tape.trans hb.tape,hg.output.trans hb.output,Nat.le_trans hb.size hg.size,fun k hk=>?_⟩
 rw [hg.block k (by have:=hb.size;omega) (fun e=>by have:=(h.lt k e.symm).1;omega),hb.block k (by omega)]
theorem rn_7 (w:World) (R:Option MapV × Int) (k0:Kn) (ks:List Kn) (p0:Rt) (ss:List Rt) {z1 z2 z3 z4 z6 z7 z8 z10 z11 z12 z13 z14 z15 z16 z17 z18 z19 z20 z21 z22 z23 z24 z25 z26 z27 z28 z29 z30 z31 z32 z33 z34 z35 z36 z37 z38 z39 z40 z41 z42 z43 z44 z45 z46 z47 z48 z49 z50 z51 z52 z53 z54 z55 z56 z57 z58 z59 z60 z61 z62 z63 z64 z65 z66 z67 z68 z69 z70 z71 z72 z73 z74 z75 z76 z77 z78 z79 z80 z81 z82 z83 z84 z85 z86 z87 z88 z89 z90 z91 z92 z93 z94 z95 z96 z97 z98 z99 z100 z101 z102 z103 z104 z105 z106 z107 z108 z109 z110 z111 z112 z113 z114 z115 z116 z117 z118 z119 z120 z121 z122 z123 z124 z125 z126 z127 z128 z129 z130 z131 z132 z133 z134 z135 z136 z137 z138 z139 z140 z141 z142 z143 z144 z145 z146 z147 z148 z149 z150 z151 z152 z153 z154 z155 z156 z157 z158 z159 z160 z161 z162 z163 z164 z165 z166 z167 z168 z169 z170 z171 z172 z173 z174 z175 z176 z177 z178 z179 z180 z181 z182 z183 z184 z185 z186 z187 z188 z189 z190 z191 z192 z193 z194 z195 z196 z197 z198 z199 z200 z201 z202 z203 z204 z205 z206 z207 z208 z209 z210 z211 z212 z213 z214 z215 z216 z217 z218 z219 z220 z221 z222 z223 z224 z225 z226 z227 z228 z229 z230 z231 z232 z233 z234 z235 z236 z237 z238 z239 z240 z241 z242 z243 z244 z245 z246 z247 z248 z249 z250 z251 z252 z253:Value} {al sa:Addr} {n cap ns csl:Nat} {V:World} (hR:R=refK p0 ss k0 ks) (hK:KnA V al (k0 :: ks)) (hS:RtA V sa (p0 :: ss)) (hB:Below w.heap.size w V) (hn:n=ks.length+1) (hns:ns=ss.length+1) (hnn:n=ns+1 ∨ (n=1∧ns=1)) (h64:n≤64) (hKR:KnR (k0 :: ks)) (hSR:∀ s ∈ p0 :: ss,R64 s) :
  rnT7.wp Try.prog (bodyPost Try.prog Try.f20 (NewSQ w R)) ⟨#[.slice (some al) n cap,z1,z2,z3,z4,.slice (some sa) ns csl,z6,z7,z8,.slice none 0 0,z10,z11,z12,z13,z14,z15,z16,z17,z18,z19,z20,z21,z22,z23,z24,z25,z26,z27,z28,z29,z30,z31,z32,z33,z34,z35,z36,z37,z38,z39,z40,z41,z42,z43,z44,z45,z46,z47,z48,z49,z50,z51,z52,z53,z54,z55,z56,z57,z58,z59,z60,z61,z62,z63,z64,z65,z66,z67,z68,z69,z70,z71,z72,z73,z74,z75,z76,z77,z78,z79,z80,z81,z82,z83,z84,z85,z86,z87,z88,z89,z90,z91,z92,z93,z94,z95,z96,z97,z98,z99,z100,z101,z102,z103,z104,z105,z106,z107,z108,z109,z110,z111,z112,z113,z114,z115,z116,z117,z118,z119,z120,z121,z122,z123,z124,z125,z126,z127,z128,z129,z130,z131,z132,z133,z134,z135,z136,z137,z138,z139,z140,z141,z142,z143,z144,z145,z146,z147,z148,z149,z150,z151,z152,z153,z154,z155,z156,z157,z158,z159,z160,z161,z162,z163,z164,z165,z166,z167,z168,z169,z170,z171,z172,z173,z174,z175,z176,z177,z178,z179,z180,z181,z182,z183,z184,z185,z186,z187,z188,z189,z190,z191,z192,z193,z194,z195,z196,z197,z198,z199,z200,z201,z202,z203,z204,z205,z206,z207,z208,z209,z210,z211,z212,z213,z214,z215,z216,z217,z218,z219,z220,z221,z222,z223,z224,z225,z226,z227,z228,z229,z230,z231,z232,z233,z234,z235,z236,z237,z238,z239,z240,z241,z242,z243,z244,z245,z246,z247,z248,z249,z250,z251,z252,z253],[]⟩ V:=by
 have H_hR:=Lib.hid hR
 have H_hK:=Lib.hid hK
 have H_hS:=Lib.hid hS
 have H_hB:=Lib.hid hB
 have H_hn:=Lib.hid hn
 have H_hns:=Lib.hid hns
 have H_hKR:=Lib.hid hKR
 have H_hSR:=Lib.hid hSR
 clear hR hK hS hB hn hns hKR hSR
 rw [rnE7]
 refine wp_seq_k (fun K7 hK7=>?_)
 have HK7:=Lib.hid hK7
 clear hK7
 conv=>arg 2;whnf
 go_wp2_with fail
 go_loopw [9,10] (fun v i wr=>∃ (j:Nat) (I:List Nat),j+1≤ns∧i = .int .i64 ((j:Int)+1)∧idxF p0 (ss.take j) 1=I∧(I=[] → v = .slice none 0 0)∧wr.ownsRow V.heap.size 3 1 v I.length (I.map (fun q:Nat=>Value.int .i64 (q:Int)))∧Below V.heap.size V wr) (fun _ i _=>ns - (intOf i).toNat)
 case atStart=>exact ⟨0,[],by have:=H_hns.out;omega,rfl,rfl,fun _=>rfl,World.ownsRow_nil _ _ _ _,Below.refl _ _⟩
 case round =>
  obtain ⟨j,I,hj,rfl,hI,hnil,hown,hBr⟩:=hrel
  have HI:=Lib.hid hI
  have HNIL:=Lib.hid hnil
  have HOWN:=Lib.hid hown
  have HBR:=Lib.hid hBr
  have hzr:=hBr.size
  clear hI hnil hown hBr
  have w0:IntKind.i64.wrap ((j:Int)+1+1)=(j:Int)+1+1:=by rw [IntKind.wrap_i64];omega
  by_cases hjn:j+1+1<n
  ·have p1:((j:Int)+1+1<(n:Int))=True:=eq_true (by omega)
   have p1':(j+1+1<n)=True:=eq_true (by omega)
   have hjs:j<ss.length:=by have:=H_hns.out;omega
   obtain ⟨⟨x1,x2⟩,hx⟩:∃ x,ss[j]=x:=⟨_,rfl⟩
   obtain ⟨⟨y1,y2⟩,hy⟩:∃ y,(p0 :: ss)[j]'(by simp;omega)=y:=⟨_,rfl⟩
   have HLS:=Lib.hid (show lastS p0 (ss.take j)=(y1,y2) from by rw [lastS_take p0 ss j (by simp;omega),hy])
   have HX1:=Lib.hid (show ss.take (j+1)=ss.take j ++ [(x1,x2)] from by rw [List.take_succ_eq_append_getElem hjs,hx])
   have HLN:=Lib.hid (show (ss.take j).length=j from by simp only [List.length_take];omega)
   have CA:=Lib.hid (fun (w_:World) (h:Below V.heap.size V w_)=>(by have r:=H_hS.out.below h;have r1:=r (j+1) (by simp;omega);have r0:=r j (by simp;omega);simp only [List.getElem_cons_succ,hx] at r1;rw [hy] at r0;exact ⟨r1.1,r1.2,r0.1,r0.2⟩:w_.cell? (sa.add ((j+1)*2))=some (.int .i64 x1)∧w_.cell? ⟨(sa.add ((j+1)*2)).block,(sa.add ((j+1)*2)).off+1,none⟩=some (.int .i64 x2)∧w_.cell? (sa.add (j*2))=some (.int .i64 y1)∧w_.cell? ⟨(sa.add (j*2)).block,(sa.add (j*2)).off+1,none⟩=some (.int .i64 y2)))
   clear hx hy
   obtain ⟨c0,c1,d0,d1⟩:=CA.out _ HBR.out
   have w1:IntKind.i64.wrap ((j:Int)+1 - 1)=(j:Int):=by rw [IntKind.wrap_i64];omega
   have w2:IntKind.i64.wrap (j:Int)=(j:Int):=by rw [IntKind.wrap_i64];omega
   have p3:(0:Int)≤(j:Int)+1:=by omega
   have p4:((j:Int)<(ns:Int))=True:=eq_true (by omega)
   have p5:(0:Int)≤(j:Int):=by omega
   have p6:(j<ns)=True:=eq_true (by omega)
   have p7:(j+1<ns)=True:=eq_true (by omega)
   have p8:((j:Int)+1<(ns:Int))=True:=eq_true (by omega)
   go_wp2_with fail
   go_still_tail 9,(by kernel_rfl)
   change wpList _ _ _ _ _ wr.drew
   by_cases hxy:x1=y1∧x2=y2
   ·have e0:(x1 == y1 && x2 == y2)=true:=by simp [hxy.1,hxy.2]
    have e0':(y1 == x1 && y2 == x2)=true:=by simp [hxy.1,hxy.2]
    go_wp2_with fail
    go_roundw
    case rel=>exact ⟨j+1,I,by omega,by rw [Int.natCast_add];rfl,by rw [HX1.out,idxF_snoc,HI.out,HLS.out,if_pos (by rw [hxy.1,hxy.2]),List.append_nil],HNIL.out,own_keep HOWN.out fun _ _=>rfl,HBR.out.drew⟩
    case measure=>simp [intOf];omega
   ·have e0:(x1 == y1 && x2 == y2)=false:=by simpa using hxy
    have e0':(y1 == x1 && y2 == x2)=false:=by simp only [Bool.and_eq_false_iff,beq_eq_false_iff_ne];by_cases h1:x1=y1;exact Or.inr (fun h=>hxy ⟨h1,h.symm⟩);exact Or.inl (fun h=>h1 h.symm)
    have hIl:I.length≤64:=by have h1:=idxF_len (ss.take j) p0 1;rw [HI.out] at h1;simp only [List.length_take] at h1;have:=H_hns.out;omega
    go_wp2_with (at_builtin;refine wpList_append_lies _ rfl _ _ 93 rfl V.heap.size 3 _ (.int .i64 0) 1 8 Try.underlying93 rfl rfl rfl rfl rfl (by decide) _ I.length _ rfl (own_below HOWN.out ((Below.refl _ _).drew.alloc (Nat.le_refl _) _)) ⟨wr.heap.size,0,none⟩ 1 1 [.int .i64 ((j:Int)+1)] rfl rfl (World.news_of_block (by first|exact Hand.q3 _ _ _ rfl|(rw [Hand.q5];exact Hand.q3 _ _ _ rfl))) (by intro u hu;simp at hu;rcases hu with rfl<;>rfl) (by decide) (by unfold maxLen;omega) (by omega) (by simp only [World.size_alloc,World.size_drew];omega) _ rfl ?_)
    intro gb cb w2 hown hgrow hat hlt
    have hB2:Below V.heap.size V w2:=HBR.out.trans (own_grown HOWN.out HBR.out.size ((Below.refl _ _).drew.alloc (Nat.le_refl _) _) hgrow)
    go_wp2_with fail
    go_roundw
    case rel=>exact ⟨j+1,I ++ [j+1],by omega,by rw [Int.natCast_add];rfl,by rw [HX1.out,idxF_snoc,HI.out,HLS.out,if_neg (fun h=>hxy (by cases h;exact ⟨rfl,rfl⟩)),HLN.out,Nat.add_comm 1 j],fun h=>absurd h (by simp),by rw [List.length_append,List.map_append];exact hown,hB2⟩
    case measure=>simp [intOf];omega
  ·have p1:((j:Int)+1+1<(n:Int))=False:=eq_false (by omega)
   have p1':(j+1+1<n)=False:=eq_false (by omega)
   have HTK:=Lib.hid (show idxF p0 ss 1=I from by have h:=HI.out;rwa [List.take_of_length_le (by have:=H_hns.out;omega)] at h)
   have hle:ss.length≤ks.length:=by have:=H_hn.out;have:=H_hns.out;omega
   go_wp2_with fail
   refine HK7.out _ _ ?_
   have hat:=idxF_at (p:=p0) (k0:=k0) hle
   have hBV:=H_hB.out.trans (Below.mono HBR.out H_hB.out.size)
   cases hI0:I with
   | nil =>
    have hv:=HNIL.out hI0
    subst hv
    have hB0:bendF p0 ss ks=[]:=List.eq_nil_of_length_eq_zero (by rw [hat.1,HTK.out,hI0];rfl)
    obtain ⟨r1,r2,r3⟩:=refK_nil (k0:=k0) hB0
    exact rn_8a w R (k0 :: ks) (p0 :: ss) k0 p0 _ _ _ _ rfl (fun h=>by rw [H_hR.out];exact r1 h) rfl (fun h h2=>by rw [H_hR.out];exact r2 h h2) (fun h h2=>by rw [H_hR.out];exact r3 h h2) ⟨by simp,rfl⟩ ⟨by simp,rfl⟩ (by rw [H_hn.out];rfl) (by rw [H_hns.out];rfl) (H_hK.out.below HBR.out) (H_hS.out.below HBR.out) hBV (H_hKR.out k0 List.mem_cons_self)
   | cons f L =>
    rcases HOWN.out.2 with ⟨_,h0⟩|⟨g,cI,cur,hv,hrest⟩
    ·rw [hI0] at h0;simp at h0
    subst hv
    have hI1:=HTK.out
    rw [← hI1] at hI0
    obtain ⟨B,hB0⟩:∃ B,bendF p0 ss ks=B:=⟨_,rfl⟩
    rw [hB0,hI1] at hat
    rw [hI1] at hI0
    cases B with
    | nil=>rw [hI0] at hat;have:=hat.1;simp at this
    | cons b B' =>
     obtain ⟨⟨kl,ql⟩,hlast⟩:∃ x,(b :: B').getLast (by simp)=x:=⟨_,rfl⟩
     obtain ⟨r1,r2,r3,r4,r5⟩:=refK_bent (k0:=k0) hB0 hlast
     have hnI:L.length+1=I.length:=by rw [hI0];rfl
     have hb0:=hat.2 0 (by omega) (by simp)
     have hbl:=hat.2 L.length (by omega) (by rw [hat.1];omega)
     have hIf:I[0]'(by omega)=f:=by simp [hI0]
     obtain ⟨la,hla⟩:∃ x,I[L.length]'(by omega)=x:=⟨_,rfl⟩
     have hfr:=idxF_range ss p0 1 f (by rw [hI1,hI0];exact List.mem_cons_self)
     have hff:=idxF_first ss p0 1 f L (by rw [hI1,hI0])
     obtain ⟨h1,h2,h3⟩:=hb0
     obtain ⟨h4,h5,h6⟩:=hbl
     have hlast2:(b :: B')[L.length]'(by rw [hat.1];omega)=(kl,ql):=by rw [← hlast,List.getLast_eq_getElem];congr 1;have:=hat.1;simp only [List.length_cons] at this ⊢;omega
     rw [hlast2] at h6
     simp only [hla] at h4 h5 h6
     simp only [hIf,List.getElem_cons_zero] at h1 h2 h3
     have h3f:=congrArg (·.1) h3
     have h6a:=congrArg (·.1) h6
     have h6b:=congrArg (·.2) h6
     dsimp only at h3f h6a h6b
     have hq:f - 1<(p0 :: ss).length:=by simp only [List.length_cons];omega
     rw [List.getElem?_eq_getElem hq] at hff
     have hIl:I.length≤64:=by have h1:=idxF_len ss p0 1;rw [hI1] at h1;have:=H_hns.out;omega
     have hbi:∀ j (hj:j<I.length),wr.cell? ((⟨g,0,none⟩:Addr).add j)=some (.int .i64 (I[j]:Int)):=fun j hj=>by rw [add0];exact own_cell HOWN.out j _ (by rw [List.getElem?_map,List.getElem?_eq_getElem hj];rfl)
     exact rn_8b w R (k0 :: ks) (p0 :: ss) I (b :: B') b.1 kl p0 ql _ _ _ _ _ _ _ _ (f:=f) (la:=la) (nm:=L.length) (ba:=⟨g,0,none⟩) rfl (fun h=>by rw [H_hR.out];exact r1 h) (fun _=>rfl) (fun a b=>by rw [H_hR.out];exact r2 a b) rfl (fun a b c=>by rw [H_hR.out];exact r3 a b c) (fun _ _ _=>rfl) (fun a b c d=>by rw [H_hR.out];exact r4 a b c d) (fun a b c d=>by rw [H_hR.out];exact r5 a b c d) (by rw [H_hn.out];rfl) (by rw [H_hns.out];rfl) rfl hat ⟨H_hK.out.below HBR.out,H_hS.out.below HBR.out,hbi⟩ hBV h64 (by omega) hIl H_hKR.out H_hSR.out hfr.1 ⟨hq,Option.some.inj hff⟩ ⟨h4,h6a.symm⟩ ⟨h5,h6b.symm⟩ ⟨h1,h3f.symm⟩ hnI.symm ⟨by omega,hIf⟩ ⟨by omega,hla⟩
theorem rn_6 (w:World) (R:Option MapV × Int) (k0:Kn) (ks:List Kn) (p0:Rt) (ss:List Rt) {z1 z2 z3 z4 z6 z7 z8 z9 z10 z11 z12 z13 z14 z15 z16 z17 z18 z19 z20 z21 z22 z23 z24 z25 z26 z27 z28 z29 z30 z31 z32 z33 z34 z35 z36 z37 z38 z39 z40 z41 z42 z43 z44 z45 z46 z47 z48 z49 z50 z51 z52 z53 z54 z55 z56 z57 z58 z59 z60 z61 z62 z63 z64 z65 z66 z67 z68 z69 z70 z71 z72 z73 z74 z75 z76 z77 z78 z79 z80 z81 z82 z83 z84 z85 z86 z87 z88 z89 z90 z91 z92 z93 z94 z95 z96 z97 z98 z99 z100 z101 z102 z103 z104 z105 z106 z107 z108 z109 z110 z111 z112 z113 z114 z115 z116 z117 z118 z119 z120 z121 z122 z123 z124 z125 z126 z127 z128 z129 z130 z131 z132 z133 z134 z135 z136 z137 z138 z139 z140 z141 z142 z143 z144 z145 z146 z147 z148 z149 z150 z151 z152 z153 z154 z155 z156 z157 z158 z159 z160 z161 z162 z163 z164 z165 z166 z167 z168 z169 z170 z171 z172 z173 z174 z175 z176 z177 z178 z179 z180 z181 z182 z183 z184 z185 z186 z187 z188 z189 z190 z191 z192 z193 z194 z195 z196 z197 z198 z199 z200 z201 z202 z203 z204 z205 z206 z207 z208 z209 z210 z211 z212 z213 z214 z215 z216 z217 z218 z219 z220 z221 z222 z223 z224 z225 z226 z227 z228 z229 z230 z231 z232 z233 z234 z235 z236 z237 z238 z239 z240 z241 z242 z243 z244 z245 z246 z247 z248 z249 z250 z251 z252 z253:Value} {al sa:Addr} {n cap ns csl:Nat} {V:World} (hR:R=refK p0 ss k0 ks) (hK:KnA V al (k0 :: ks)) (hS:RtA V sa (p0 :: ss)) (hB:Below w.heap.size w V) (hn:n=ks.length+1) (hns:ns=ss.length+1) (hnn:n=ns+1 ∨ (n=1∧ns=1)) (h64:n≤64) (hKR:KnR (k0 :: ks)) (hSR:∀ s ∈ p0 :: ss,R64 s) :
  rnT6.wp Try.prog (bodyPost Try.prog Try.f20 (NewSQ w R)) ⟨#[.slice (some al) n cap,z1,z2,z3,z4,.slice (some sa) ns csl,z6,z7,z8,z9,z10,z11,z12,z13,z14,z15,z16,z17,z18,z19,z20,z21,z22,z23,z24,z25,z26,z27,z28,z29,z30,z31,z32,z33,z34,z35,z36,z37,z38,z39,z40,z41,z42,z43,z44,z45,z46,z47,z48,z49,z50,z51,z52,z53,z54,z55,z56,z57,z58,z59,z60,z61,z62,z63,z64,z65,z66,z67,z68,z69,z70,z71,z72,z73,z74,z75,z76,z77,z78,z79,z80,z81,z82,z83,z84,z85,z86,z87,z88,z89,z90,z91,z92,z93,z94,z95,z96,z97,z98,z99,z100,z101,z102,z103,z104,z105,z106,z107,z108,z109,z110,z111,z112,z113,z114,z115,z116,z117,z118,z119,z120,z121,z122,z123,z124,z125,z126,z127,z128,z129,z130,z131,z132,z133,z134,z135,z136,z137,z138,z139,z140,z141,z142,z143,z144,z145,z146,z147,z148,z149,z150,z151,z152,z153,z154,z155,z156,z157,z158,z159,z160,z161,z162,z163,z164,z165,z166,z167,z168,z169,z170,z171,z172,z173,z174,z175,z176,z177,z178,z179,z180,z181,z182,z183,z184,z185,z186,z187,z188,z189,z190,z191,z192,z193,z194,z195,z196,z197,z198,z199,z200,z201,z202,z203,z204,z205,z206,z207,z208,z209,z210,z211,z212,z213,z214,z215,z216,z217,z218,z219,z220,z221,z222,z223,z224,z225,z226,z227,z228,z229,z230,z231,z232,z233,z234,z235,z236,z237,z238,z239,z240,z241,z242,z243,z244,z245,z246,z247,z248,z249,z250,z251,z252,z253],[]⟩ V:=by
 have H_hR:=Lib.hid hR
 have H_hK:=Lib.hid hK
 have H_hS:=Lib.hid hS
 have H_hB:=Lib.hid hB
 have H_hn:=Lib.hid hn
 have H_hns:=Lib.hid hns
 have H_hKR:=Lib.hid hKR
 have H_hSR:=Lib.hid hSR
 clear hR hK hS hB hn hns hKR hSR
 rw [rnE6]
 refine wp_seq_k (fun K6 hK6=>?_)
 have HK6:=Lib.hid hK6
 clear hK6
 conv=>arg 2;whnf
 go_wp2_with fail
 refine HK6.out _ _ ?_
 exact rn_7 w R k0 ks p0 ss H_hR.out H_hK.out H_hS.out H_hB.out H_hn.out H_hns.out hnn h64 H_hKR.out H_hSR.out
theorem rn_5a (w:World) (R:Option MapV × Int) (l:List Kn) (S:List Rt) {z1 z2 z3 z4 z6 z7 z8 z9 z10 z11 z12 z13 z14 z15 z16 z17 z18 z19 z20 z21 z22 z23 z24 z25 z26 z27 z28 z29 z30 z31 z32 z33 z34 z35 z36 z37 z38 z39 z40 z41 z42 z43 z44 z45 z46 z47 z48 z49 z50 z51 z52 z53 z54 z55 z56 z57 z58 z59 z60 z61 z62 z63 z64 z65 z66 z67 z68 z69 z70 z71 z72 z73 z74 z75 z76 z77 z78 z79 z80 z81 z82 z83 z84 z85 z86 z87 z88 z89 z90 z91 z92 z93 z94 z95 z96 z97 z98 z99 z100 z101 z102 z103 z104 z105 z106 z107 z108 z109 z110 z111 z112 z113 z114 z115 z116 z117 z118 z119 z120 z121 z122 z123 z124 z125 z126 z127 z128 z129 z130 z131 z132 z133 z134 z135 z136 z137 z138 z139 z140 z141 z142 z143 z144 z145 z146 z147 z148 z149 z150 z151 z152 z153 z154 z155 z156 z157 z158 z159 z160 z161 z162 z163 z164 z165 z166 z167 z168 z169 z170 z171 z172 z173 z174 z175 z176 z177 z178 z179 z180 z181 z182 z183 z184 z185 z186 z187 z188 z189 z190 z191 z192 z193 z194 z195 z196 z197 z198 z199 z200 z201 z202 z203 z204 z205 z206 z207 z208 z209 z210 z211 z212 z213 z214 z215 z216 z217 z218 z219 z220 z221 z222 z223 z224 z225 z226 z227 z228 z229 z230 z231 z232 z233 z234 z235 z236 z237 z238 z239 z240 z241 z242 z243 z244 z245 z246 z247 z248 z249 z250 z251 z252 z253:Value} {al:Addr} {n cap gs ns csl:Nat} {V:World} (hR:R=noB (newK l)) (hc0:chkK l=0) (hK:KnA V al l) (hB:Below w.heap.size w V) (hn:n=l.length) (h64:n≤64) (hKR:KnR l) (h2:2≤n) (hs:slpF l 0=(S,0)) (hns:ns=S.length) (hS:RtA V ⟨gs,0,none⟩ S) :
  rnT5.wp Try.prog (bodyPost Try.prog Try.f20 (NewSQ w R)) ⟨#[.slice (some al) n cap,z1,z2,z3,z4,.slice (some ⟨gs,0,none⟩) ns csl,z6,z7,z8,z9,z10,z11,z12,z13,z14,z15,z16,z17,z18,z19,z20,z21,z22,z23,z24,z25,z26,z27,z28,z29,z30,z31,z32,z33,z34,z35,z36,z37,z38,z39,z40,z41,z42,z43,z44,z45,z46,z47,z48,z49,z50,z51,z52,z53,z54,z55,z56,z57,z58,z59,z60,z61,z62,z63,z64,z65,z66,z67,z68,z69,z70,z71,z72,z73,z74,z75,z76,z77,z78,z79,z80,z81,z82,z83,z84,z85,z86,z87,z88,z89,z90,z91,z92,z93,z94,z95,z96,z97,z98,z99,z100,z101,z102,z103,z104,z105,z106,z107,z108,z109,z110,z111,z112,z113,z114,z115,z116,z117,z118,z119,z120,z121,z122,z123,z124,z125,z126,z127,z128,z129,z130,z131,z132,z133,z134,z135,z136,z137,z138,z139,z140,z141,z142,z143,z144,z145,z146,z147,z148,z149,z150,z151,z152,z153,z154,z155,z156,z157,z158,z159,z160,z161,z162,z163,z164,z165,z166,z167,z168,z169,z170,z171,z172,z173,z174,z175,z176,z177,z178,z179,z180,z181,z182,z183,z184,z185,z186,z187,z188,z189,z190,z191,z192,z193,z194,z195,z196,z197,z198,z199,z200,z201,z202,z203,z204,z205,z206,z207,z208,z209,z210,z211,z212,z213,z214,z215,z216,z217,z218,z219,z220,z221,z222,z223,z224,z225,z226,z227,z228,z229,z230,z231,z232,z233,z234,z235,z236,z237,z238,z239,z240,z241,z242,z243,z244,z245,z246,z247,z248,z249,z250,z251,z252,z253],[]⟩ V:=by
 have hne:((n:Int) == 1)=false:=by simp;omega
 have hne2:(n == 1)=false:=by simp;omega
 have H_hR:=Lib.hid hR
 have H_hc0:=Lib.hid hc0
 have H_hK:=Lib.hid hK
 have H_hB:=Lib.hid hB
 have H_hn:=Lib.hid hn
 have H_hKR:=Lib.hid hKR
 have H_hs:=Lib.hid hs
 have H_hns:=Lib.hid hns
 have H_hS:=Lib.hid hS
 clear hR hc0 hK hB hn hKR hs hns hS
 rw [rnE5]
 refine wp_seq_k (fun K5 hK5=>?_)
 have HK5:=Lib.hid hK5
 clear hK5
 conv=>arg 2;whnf
 go_wp2
 refine HK5.out _ _ ?_
 have hl1:l.length≠1:=by have:=H_hn.out;omega
 have hss:slopesS l=(S,0):=by unfold slopesS;rw [if_neg hl1];exact H_hs.out
 have hlen:S.length=l.length - 1:=by have:=slpF_len l 0;rw [H_hs.out] at this;exact this
 have hSR:∀ s ∈ S,R64 s:=by have:=slpF_R l 0;rw [H_hs.out] at this;exact this
 obtain ⟨k0,ks,rfl⟩:∃ k ks,l=k :: ks:=by cases l with|nil=>exact absurd H_hn.out (by simp;omega)|cons a b=>exact ⟨a,b,rfl⟩
 obtain ⟨p0,ss,rfl⟩:∃ p ss,S=p :: ss:=by cases S with|nil=>exact absurd hlen (by have:=H_hn.out;simp only [List.length_cons,List.length_nil] at this ⊢;omega)|cons a b=>exact ⟨a,b,rfl⟩
 have hnn_:=H_hn.out
 have hns_:=H_hns.out
 simp only [List.length_cons] at hlen hnn_ hns_
 exact rn_6 w R k0 ks p0 ss (by rw [H_hR.out];exact noB_newK rfl H_hc0.out hss) H_hK.out H_hS.out H_hB.out hnn_ hns_ (by omega) h64 H_hKR.out hSR
theorem rn_5b (w:World) (R:Option MapV × Int) (l:List Kn) {z1 z2 z3 z4 z6 z7 z8 z9 z10 z11 z12 z13 z14 z15 z16 z17 z18 z19 z20 z21 z22 z23 z24 z25 z26 z27 z28 z29 z30 z31 z32 z33 z34 z35 z36 z37 z38 z39 z40 z41 z42 z43 z44 z45 z46 z47 z48 z49 z50 z51 z52 z53 z54 z55 z56 z57 z58 z59 z60 z61 z62 z63 z64 z65 z66 z67 z68 z69 z70 z71 z72 z73 z74 z75 z76 z77 z78 z79 z80 z81 z82 z83 z84 z85 z86 z87 z88 z89 z90 z91 z92 z93 z94 z95 z96 z97 z98 z99 z100 z101 z102 z103 z104 z105 z106 z107 z108 z109 z110 z111 z112 z113 z114 z115 z116 z117 z118 z119 z120 z121 z122 z123 z124 z125 z126 z127 z128 z129 z130 z131 z132 z133 z134 z135 z136 z137 z138 z139 z140 z141 z142 z143 z144 z145 z146 z147 z148 z149 z150 z151 z152 z153 z154 z155 z156 z157 z158 z159 z160 z161 z162 z163 z164 z165 z166 z167 z168 z169 z170 z171 z172 z173 z174 z175 z176 z177 z178 z179 z180 z181 z182 z183 z184 z185 z186 z187 z188 z189 z190 z191 z192 z193 z194 z195 z196 z197 z198 z199 z200 z201 z202 z203 z204 z205 z206 z207 z208 z209 z210 z211 z212 z213 z214 z215 z216 z217 z218 z219 z220 z221 z222 z223 z224 z225 z226 z227 z228 z229 z230 z231 z232 z233 z234 z235 z236 z237 z238 z239 z240 z241 z242 z243 z244 z245 z246 z247 z248 z249 z250 z251 z252 z253:Value} {al:Addr} {n cap:Nat} {V:World} (hR:R=noB (newK l)) (hc0:chkK l=0) (hK:KnA V al l) (hB:Below w.heap.size w V) (hn:n=l.length) (h64:n≤64) (hKR:KnR l) (h2:n=1) :
  rnT5.wp Try.prog (bodyPost Try.prog Try.f20 (NewSQ w R)) ⟨#[.slice (some al) n cap,z1,z2,z3,z4,.slice none 0 0,z6,z7,z8,z9,z10,z11,z12,z13,z14,z15,z16,z17,z18,z19,z20,z21,z22,z23,z24,z25,z26,z27,z28,z29,z30,z31,z32,z33,z34,z35,z36,z37,z38,z39,z40,z41,z42,z43,z44,z45,z46,z47,z48,z49,z50,z51,z52,z53,z54,z55,z56,z57,z58,z59,z60,z61,z62,z63,z64,z65,z66,z67,z68,z69,z70,z71,z72,z73,z74,z75,z76,z77,z78,z79,z80,z81,z82,z83,z84,z85,z86,z87,z88,z89,z90,z91,z92,z93,z94,z95,z96,z97,z98,z99,z100,z101,z102,z103,z104,z105,z106,z107,z108,z109,z110,z111,z112,z113,z114,z115,z116,z117,z118,z119,z120,z121,z122,z123,z124,z125,z126,z127,z128,z129,z130,z131,z132,z133,z134,z135,z136,z137,z138,z139,z140,z141,z142,z143,z144,z145,z146,z147,z148,z149,z150,z151,z152,z153,z154,z155,z156,z157,z158,z159,z160,z161,z162,z163,z164,z165,z166,z167,z168,z169,z170,z171,z172,z173,z174,z175,z176,z177,z178,z179,z180,z181,z182,z183,z184,z185,z186,z187,z188,z189,z190,z191,z192,z193,z194,z195,z196,z197,z198,z199,z200,z201,z202,z203,z204,z205,z206,z207,z208,z209,z210,z211,z212,z213,z214,z215,z216,z217,z218,z219,z220,z221,z222,z223,z224,z225,z226,z227,z228,z229,z230,z231,z232,z233,z234,z235,z236,z237,z238,z239,z240,z241,z242,z243,z244,z245,z246,z247,z248,z249,z250,z251,z252,z253],[]⟩ V:=by
 have hne:((n:Int) == 1)=true:=by simp;omega
 have hne2:(n == 1)=true:=by simp;omega
 have H_h2:=Lib.hid h2
 clear h2
 have H_hR:=Lib.hid hR
 have H_hc0:=Lib.hid hc0
 have H_hK:=Lib.hid hK
 have H_hB:=Lib.hid hB
 have H_hn:=Lib.hid hn
 have H_hKR:=Lib.hid hKR
 clear hR hc0 hK hB hn hKR
 rw [rnE5]
 refine wp_seq_k (fun K5 hK5=>?_)
 have HK5:=Lib.hid hK5
 clear hK5
 conv=>arg 2;whnf
 go_wp2_with fail
 with_reducible refine (qone_any _).mono ?_
 rintro e_ w1 ⟨rfl,hb1⟩
 have hb1':Below V.heap.size V w1:=hb1
 have hz1:=hb1'.size
 go_wp2_with (at_builtin;refine wpList_append_lies _ rfl _ _ 23 rfl V.heap.size 31 _ (.agg #[.int .i64 0,.int .i64 0]) 2 16 Try.underlying23 rfl rfl rfl rfl rfl (by decide) _ 0 [] rfl (World.ownsRow_nil _ _ _ _) ⟨w1.heap.size,0,none⟩ 1 1 [.int .i64 1,.int .i64 1] rfl rfl (World.news_of_block (by first|exact Hand.q3 _ _ _ rfl|(rw [Hand.q5];exact Hand.q3 _ _ _ rfl))) (by intro u hu;simp at hu;rcases hu with rfl|rfl<;>rfl) (by decide) (by unfold maxLen;omega) (by omega) (by simp only [World.size_alloc,World.size_drew];omega) _ rfl ?_)
 intro gb cb w2 hown hgrow hat hlt
 have hB2:Below V.heap.size V w2:=hb1'.trans (own_grown (v:=.slice none 0 0) (World.ownsRow_nil _ V.heap.size 31 2) hz1 ((Below.refl _ _).alloc (Nat.le_refl _) _) hgrow)
 go_wp2
 refine HK5.out _ _ ?_
 have hl1:l.length=1:=by have:=H_hn.out;have:=H_h2.out;omega
 have hss:slopesS l=([(1,1)],0):=by unfold slopesS;rw [if_pos hl1]
 obtain ⟨k0,rfl⟩:=List.length_eq_one_iff.1 hl1
 exact rn_6 w R k0 [] (1,1) [] (by rw [H_hR.out];exact noB_newK rfl H_hc0.out hss) (H_hK.out.below hB2) (own_rta hown) (H_hB.out.trans (Below.mono hB2 H_hB.out.size)) H_hn.out rfl (Or.inr ⟨H_h2.out,rfl⟩) h64 H_hKR.out (by intro s hs;simp at hs;subst hs;exact R64_w 1 (by decide) (by decide))
theorem rn_4 (w:World) (R:Option MapV × Int) (l:List Kn) {z1 z2 z3 z4 z6 z7 z8 z9 z10 z11 z12 z13 z14 z15 z16 z17 z18 z19 z20 z21 z22 z23 z24 z25 z26 z27 z28 z29 z30 z31 z32 z33 z34 z35 z36 z37 z38 z39 z40 z41 z42 z43 z44 z45 z46 z47 z48 z49 z50 z51 z52 z53 z54 z55 z56 z57 z58 z59 z60 z61 z62 z63 z64 z65 z66 z67 z68 z69 z70 z71 z72 z73 z74 z75 z76 z77 z78 z79 z80 z81 z82 z83 z84 z85 z86 z87 z88 z89 z90 z91 z92 z93 z94 z95 z96 z97 z98 z99 z100 z101 z102 z103 z104 z105 z106 z107 z108 z109 z110 z111 z112 z113 z114 z115 z116 z117 z118 z119 z120 z121 z122 z123 z124 z125 z126 z127 z128 z129 z130 z131 z132 z133 z134 z135 z136 z137 z138 z139 z140 z141 z142 z143 z144 z145 z146 z147 z148 z149 z150 z151 z152 z153 z154 z155 z156 z157 z158 z159 z160 z161 z162 z163 z164 z165 z166 z167 z168 z169 z170 z171 z172 z173 z174 z175 z176 z177 z178 z179 z180 z181 z182 z183 z184 z185 z186 z187 z188 z189 z190 z191 z192 z193 z194 z195 z196 z197 z198 z199 z200 z201 z202 z203 z204 z205 z206 z207 z208 z209 z210 z211 z212 z213 z214 z215 z216 z217 z218 z219 z220 z221 z222 z223 z224 z225 z226 z227 z228 z229 z230 z231 z232 z233 z234 z235 z236 z237 z238 z239 z240 z241 z242 z243 z244 z245 z246 z247 z248 z249 z250 z251 z252 z253:Value} {al:Addr} {n cap:Nat} {V:World} (hR:R=noB (newK l)) (hc0:chkK l=0) (hK:KnA V al l) (hB:Below w.heap.size w V) (hn:n=l.length) (h64:n≤64) (hKR:KnR l) (h1:1≤n) :
  rnT4.wp Try.prog (bodyPost Try.prog Try.f20 (NewSQ w R)) ⟨#[.slice (some al) n cap,z1,z2,z3,z4,.slice none 0 0,z6,z7,z8,z9,z10,z11,z12,z13,z14,z15,z16,z17,z18,z19,z20,z21,z22,z23,z24,z25,z26,z27,z28,z29,z30,z31,z32,z33,z34,z35,z36,z37,z38,z39,z40,z41,z42,z43,z44,z45,z46,z47,z48,z49,z50,z51,z52,z53,z54,z55,z56,z57,z58,z59,z60,z61,z62,z63,z64,z65,z66,z67,z68,z69,z70,z71,z72,z73,z74,z75,z76,z77,z78,z79,z80,z81,z82,z83,z84,z85,z86,z87,z88,z89,z90,z91,z92,z93,z94,z95,z96,z97,z98,z99,z100,z101,z102,z103,z104,z105,z106,z107,z108,z109,z110,z111,z112,z113,z114,z115,z116,z117,z118,z119,z120,z121,z122,z123,z124,z125,z126,z127,z128,z129,z130,z131,z132,z133,z134,z135,z136,z137,z138,z139,z140,z141,z142,z143,z144,z145,z146,z147,z148,z149,z150,z151,z152,z153,z154,z155,z156,z157,z158,z159,z160,z161,z162,z163,z164,z165,z166,z167,z168,z169,z170,z171,z172,z173,z174,z175,z176,z177,z178,z179,z180,z181,z182,z183,z184,z185,z186,z187,z188,z189,z190,z191,z192,z193,z194,z195,z196,z197,z198,z199,z200,z201,z202,z203,z204,z205,z206,z207,z208,z209,z210,z211,z212,z213,z214,z215,z216,z217,z218,z219,z220,z221,z222,z223,z224,z225,z226,z227,z228,z229,z230,z231,z232,z233,z234,z235,z236,z237,z238,z239,z240,z241,z242,z243,z244,z245,z246,z247,z248,z249,z250,z251,z252,z253],[]⟩ V:=by
 have H_hR:=Lib.hid hR
 have H_hc0:=Lib.hid hc0
 have H_hK:=Lib.hid hK
 have H_hB:=Lib.hid hB
 have H_hn:=Lib.hid hn
 have H_hKR:=Lib.hid hKR
 clear hR hc0 hK hB hn hKR
 rw [rnE4]
 refine wp_seq_k (fun K4 hK4=>?_)
 have HK4:=Lib.hid hK4
 clear hK4
 conv=>arg 2;whnf
 go_wp2_with fail
 go_loopw [5,6] (fun v i wr=>∃ (j:Nat) (S:List Rt),j+1≤n∧i = .int .i64 ((j:Int)+1)∧(∀ i (hi:i+1<l.length),i<j → (pieceS 0 l[i] l[i+1]).2=0)∧slpF (l.take (j+1)) 0=(S,0)∧(j=0 → v = .slice none 0 0)∧S.length=j∧wr.ownsRow V.heap.size 31 2 v j (flatT S)∧Below V.heap.size V wr) (fun _ i _=>n - (intOf i).toNat)
 case atStart=>exact ⟨0,[],h1,rfl,fun _ _ h=>absurd h (Nat.not_lt_zero _),by cases l with|nil=>rfl|cons a l=>rfl,fun _=>rfl,rfl,World.ownsRow_nil _ _ _ _,Below.refl _ _⟩
 case round =>
  obtain ⟨j,S,hj,rfl,hz,hsl,hnil,hSl,hown,hBr⟩:=hrel
  have HZ:=Lib.hid hz
  have HSL:=Lib.hid hsl
  have HNIL:=Lib.hid hnil
  have HSLEN:=Lib.hid hSl
  have HOWN:=Lib.hid hown
  have HBR:=Lib.hid hBr
  have hzr:=hBr.size
  clear hz hsl hnil hSl hown hBr
  by_cases hjn:j+1<n
  ·have p1:((j:Int)+1<(n:Int))=True:=eq_true (by omega)
   have p1':(j+1<n)=True:=eq_true (by omega)
   have hjl:j+1<l.length:=by have:=H_hn.out;omega
   have hra:=H_hKR.out _ (List.getElem_mem (show j<l.length by omega))
   have hrb:=H_hKR.out _ (List.getElem_mem hjl)
   have HSTEP:=Lib.hid (slpF_take l j hjl 0)
   have HAT:=Lib.hid (slp_at l j hjl HZ.out)
   obtain ⟨⟨⟨a1,a2⟩,a3,a4⟩,hka⟩:∃ k,l[j]=k:=⟨_,rfl⟩
   obtain ⟨⟨⟨b1,b2⟩,b3,b4⟩,hkb⟩:∃ k,l[j+1]=k:=⟨_,rfl⟩
   rw [hka,hkb,HSL.out] at HSTEP
   rw [hka,hkb] at HAT
   have HZ1:=Lib.hid (show (pieceS 0 l[j] l[j+1]).2=(pieceS 0 ((a1,a2),(a3,a4)) ((b1,b2),(b3,b4))).2 from by rw [hka,hkb])
   have HC:=Lib.hid (fun (w_:World) (h:Below wr.heap.size wr w_)=>(by have r:=(H_hK.out.below HBR.out).below h;have r0:=r j (by omega);have r1:=r (j+1) hjl;rw [hka] at r0;rw [hkb] at r1;exact ⟨h,r0.1,r0.2.1,r0.2.2.1,r0.2.2.2,r1.1,r1.2.1,r1.2.2.1,r1.2.2.2⟩:Below wr.heap.size wr w_∧w_.cell? (al.add (j*4))=some (.int .i64 a1)∧w_.cell? ⟨(al.add (j*4)).block,(al.add (j*4)).off+1,none⟩=some (.int .i64 a2)∧w_.cell? ⟨(al.add (j*4)).block,(al.add (j*4)).off+2,none⟩=some (.int .i64 a3)∧w_.cell? ⟨(al.add (j*4)).block,(al.add (j*4)).off+3,none⟩=some (.int .i64 a4)∧w_.cell? (al.add ((j+1)*4))=some (.int .i64 b1)∧w_.cell? ⟨(al.add ((j+1)*4)).block,(al.add ((j+1)*4)).off+1,none⟩=some (.int .i64 b2)∧w_.cell? ⟨(al.add ((j+1)*4)).block,(al.add ((j+1)*4)).off+2,none⟩=some (.int .i64 b3)∧w_.cell? ⟨(al.add ((j+1)*4)).block,(al.add ((j+1)*4)).off+3,none⟩=some (.int .i64 b4)))
   rw [hka] at hra
   clear hka hkb
   have M1:=Lib.hid (fun (u:World)=>qslope_any ((a1,a2),(a3,a4)) ((b1,b2),(b3,b4)) u hra)
   obtain ⟨⟨⟨s1,s2⟩,e1⟩,hP⟩:∃ x,pieceS 0 ((a1,a2),(a3,a4)) ((b1,b2),(b3,b4))=x:=⟨_,rfl⟩
   rw [hP] at HSTEP HAT HZ1 M1
   have M:=Lib.hid (fun (u:World)=>(M1.out u:Calls Try.prog 54 #[.agg #[.int .i64 a1,.int .i64 a2,.int .i64 a3,.int .i64 a4],.agg #[.int .i64 b1,.int .i64 b2,.int .i64 b3,.int .i64 b4]] u fun e w'=>e = .returned (.tuple #[.agg #[.int .i64 s1,.int .i64 s2],.int .i64 e1])∧Below u.heap.size u w'))
   clear M1 hP hra hrb
   have w1:IntKind.i64.wrap ((j:Int)+1 - 1)=(j:Int):=by rw [IntKind.wrap_i64];omega
   have w2:IntKind.i64.wrap (j:Int)=(j:Int):=by rw [IntKind.wrap_i64];omega
   have p3:(0:Int)≤(j:Int)+1:=by omega
   have p4:((j:Int)<(n:Int))=True:=eq_true (by omega)
   have p5:(0:Int)≤(j:Int):=by omega
   have p6:(j<n)=True:=eq_true (by omega)
   have BR:Below wr.heap.size wr wr:=Below.refl _ _
   go_wp2_with fail
   go_region_held3 (fun w_=>Below wr.heap.size wr w_∧w_.cell? (al.add (j*4))=some (.int .i64 a1)∧w_.cell? ⟨(al.add (j*4)).block,(al.add (j*4)).off+1,none⟩=some (.int .i64 a2)∧w_.cell? ⟨(al.add (j*4)).block,(al.add (j*4)).off+2,none⟩=some (.int .i64 a3)∧w_.cell? ⟨(al.add (j*4)).block,(al.add (j*4)).off+3,none⟩=some (.int .i64 a4)∧w_.cell? (al.add ((j+1)*4))=some (.int .i64 b1)∧w_.cell? ⟨(al.add ((j+1)*4)).block,(al.add ((j+1)*4)).off+1,none⟩=some (.int .i64 b2)∧w_.cell? ⟨(al.add ((j+1)*4)).block,(al.add ((j+1)*4)).off+2,none⟩=some (.int .i64 b3)∧w_.cell? ⟨(al.add ((j+1)*4)).block,(al.add ((j+1)*4)).off+3,none⟩=some (.int .i64 b4)) (first|(refine HC.out _ ?_;repeat (with_reducible first|assumption|apply Below.drew|refine Below.setCell ?_ (by dsimp only;exact Hand.z) _|refine Below.alloc ?_ Hand.z _))) (first|(go_at_call 54;((with_reducible refine (M.out _).mono ?_);rintro e_ w5 ⟨rfl,hb5⟩;have BB:Below wr.heap.size wr w5:=Hand.stepB hb5 Hand.b (Nat.le_refl _);have zBB:=BB.size;(try (have nx:=Hand.kb (i:=wr.heap.size) (x:=.cells #[.int .i64 0,.int .i64 0] 31 (0,0)) hb5 (by first|exact Hand.q3 _ _ _ rfl|(rw [Hand.q5];exact Hand.q3 _ _ _ rfl)|exact Hand.q3 _ _ _ (by simp));obtain ⟨nc0,nf0,nc1,nf1⟩:=Hand.hc2 nx;obtain ⟨nz0,nz1,nz2,ny0,ny1⟩:=Hand.hz nx)))))
   ·first|(obtain ⟨V1,hV1⟩:∃ V_,V_=w5.alloc (.cells #[.int .i64 s1,.int .i64 s2] 31):=⟨_,rfl⟩;rw [← hV1];have vX:V1.heap[w5.heap.size]?=some (.cells #[.int .i64 s1,.int .i64 s2] 31 (0,0)):=(by rw [hV1];(first|omega|(simp (disch:=try exact Hand.z) only [Hand.q5,Hand.q4,Hand.q3];done)|(simp (disch:=try exact Hand.z) only [Hand.q5,Hand.q1,Hand.q2,Hand.q4,Hand.q3,nx];first|done|rfl)));have vB:Below wr.heap.size wr V1:=(by rw [hV1];repeat (with_reducible first|assumption|apply Below.drew|refine Below.setCell ?_ (by dsimp only;exact Hand.z) _|refine Below.alloc ?_ Hand.z _));have vz:wr.heap.size≤w5.heap.size:=(by omega);generalize w5.heap.size=gx at vX vz ⊢)|(obtain ⟨V1,hV1⟩:∃ V_,V_=(w5.setCell ⟨wr.heap.size,0,none⟩ (.int .i64 s1)).setCell ⟨wr.heap.size,1,none⟩ (.int .i64 s2):=⟨_,rfl⟩;rw [← hV1];have vX:V1.heap[wr.heap.size]?=some (.cells #[.int .i64 s1,.int .i64 s2] 31 (0,0)):=(by rw [hV1];(first|omega|(simp (disch:=try exact Hand.z) only [Hand.q5,Hand.q4,Hand.q3];done)|(simp (disch:=try exact Hand.z) only [Hand.q5,Hand.q1,Hand.q2,Hand.q4,Hand.q3,nx];first|done|rfl)));have vB:Below wr.heap.size wr V1:=(by rw [hV1];repeat (with_reducible first|assumption|apply Below.drew|refine Below.setCell ?_ (by dsimp only;exact Hand.z) _|refine Below.alloc ?_ Hand.z _));have vz:wr.heap.size≤wr.heap.size:=(by omega);generalize wr.heap.size=gx at vX vz ⊢)
    obtain ⟨u0,f0,u1,f1⟩:=Hand.hc2 vX
    obtain ⟨vz0,vz1,vz2,vy0,vy1⟩:=Hand.hz vX
    have VB:=Lib.hid vB
    have hz1:=vB.size
    have BV:=Lib.hid (HBR.out.trans (Below.mono vB HBR.out.size))
    clear hV1 vB
    by_cases he:e1=0
    (have j0:(e1 != 0)=false:=(by simpa using he);go_wp2_with (at_builtin;refine wpList_append_lies _ rfl _ _ 23 rfl V.heap.size 31 _ (.agg #[.int .i64 0,.int .i64 0]) 2 16 Try.underlying23 rfl rfl rfl rfl rfl (by decide) _ j (flatT S) rfl (own_below (own_below HOWN.out VB.out) ((Below.refl _ _).alloc (Nat.le_refl _) _)) ⟨V1.heap.size,0,none⟩ 1 1 [.int .i64 s1,.int .i64 s2] rfl rfl (World.news_of_block (by first|exact Hand.q3 _ _ _ rfl|(rw [Hand.q5];exact Hand.q3 _ _ _ rfl))) (by intro u hu;simp at hu;rcases hu with rfl|rfl<;>rfl) (by decide) (by unfold maxLen;omega) (by omega) (by simp only [World.size_alloc,World.size_drew];omega) _ rfl ?_);intro gb cb w2 hown hgrow hat hlt;have hB2:Below V.heap.size V w2:=BV.out.trans (own_grown (own_below HOWN.out VB.out) (by omega) ((Below.refl _ _).alloc (Nat.le_refl _) _) hgrow);have HE:=Lib.hid he;clear he;go_wp2_with fail;go_roundw)
    case rel=>exact ⟨j+1,S ++ [(s1,s2)],by omega,by rw [Int.natCast_add];rfl,fun i hi hij=>(by rcases Nat.lt_or_ge i j with h|h;exact HZ.out i hi h;obtain rfl:i=j:=(by omega);rw [HZ1.out];exact HE.out),by rw [HSTEP.out,HE.out],fun h=>absurd h (Nat.succ_ne_zero _),by rw [List.length_append,HSLEN.out];rfl,by rw [flatT_snoc];exact hown,hB2⟩
    case measure=>simp [intOf];omega
    have j0:(e1 != 0)=true:=by simpa using he
    have HE:=Lib.hid he
    clear he
    go_wp2
    go_ret2
    have hlm:l.length≠1:=(by omega)
    have hRe:R=(none,e1):=by rw [H_hR.out,noB_slp H_hc0.out hlm (by rw [HAT.out HE.out];exact HE.out),HAT.out HE.out]
    rw [hRe]
    exact ⟨_,rfl,rfl,H_hB.out.trans (Below.mono BV.out H_hB.out.size)⟩
   ·first|(obtain ⟨V1,hV1⟩:∃ V_,V_=w5.alloc (.cells #[.int .i64 s1,.int .i64 s2] 31):=⟨_,rfl⟩;rw [← hV1];have vX:V1.heap[w5.heap.size]?=some (.cells #[.int .i64 s1,.int .i64 s2] 31 (0,0)):=(by rw [hV1];(first|omega|(simp (disch:=try exact Hand.z) only [Hand.q5,Hand.q4,Hand.q3];done)|(simp (disch:=try exact Hand.z) only [Hand.q5,Hand.q1,Hand.q2,Hand.q4,Hand.q3,nx];first|done|rfl)));have vB:Below wr.heap.size wr V1:=(by rw [hV1];repeat (with_reducible first|assumption|apply Below.drew|refine Below.setCell ?_ (by dsimp only;exact Hand.z) _|refine Below.alloc ?_ Hand.z _));have vz:wr.heap.size≤w5.heap.size:=(by omega);generalize w5.heap.size=gx at vX vz ⊢)|(obtain ⟨V1,hV1⟩:∃ V_,V_=(w5.setCell ⟨wr.heap.size,0,none⟩ (.int .i64 s1)).setCell ⟨wr.heap.size,1,none⟩ (.int .i64 s2):=⟨_,rfl⟩;rw [← hV1];have vX:V1.heap[wr.heap.size]?=some (.cells #[.int .i64 s1,.int .i64 s2] 31 (0,0)):=(by rw [hV1];(first|omega|(simp (disch:=try exact Hand.z) only [Hand.q5,Hand.q4,Hand.q3];done)|(simp (disch:=try exact Hand.z) only [Hand.q5,Hand.q1,Hand.q2,Hand.q4,Hand.q3,nx];first|done|rfl)));have vB:Below wr.heap.size wr V1:=(by rw [hV1];repeat (with_reducible first|assumption|apply Below.drew|refine Below.setCell ?_ (by dsimp only;exact Hand.z) _|refine Below.alloc ?_ Hand.z _));have vz:wr.heap.size≤wr.heap.size:=(by omega);generalize wr.heap.size=gx at vX vz ⊢)
    obtain ⟨u0,f0,u1,f1⟩:=Hand.hc2 vX
    obtain ⟨vz0,vz1,vz2,vy0,vy1⟩:=Hand.hz vX
    have VB:=Lib.hid vB
    have hz1:=vB.size
    have BV:=Lib.hid (HBR.out.trans (Below.mono vB HBR.out.size))
    clear hV1 vB
    by_cases he:e1=0
    (have j0:(e1 != 0)=false:=(by simpa using he);go_wp2_with (at_builtin;refine wpList_append_lies _ rfl _ _ 23 rfl V.heap.size 31 _ (.agg #[.int .i64 0,.int .i64 0]) 2 16 Try.underlying23 rfl rfl rfl rfl rfl (by decide) _ j (flatT S) rfl (own_below (own_below HOWN.out VB.out) ((Below.refl _ _).alloc (Nat.le_refl _) _)) ⟨V1.heap.size,0,none⟩ 1 1 [.int .i64 s1,.int .i64 s2] rfl rfl (World.news_of_block (by first|exact Hand.q3 _ _ _ rfl|(rw [Hand.q5];exact Hand.q3 _ _ _ rfl))) (by intro u hu;simp at hu;rcases hu with rfl|rfl<;>rfl) (by decide) (by unfold maxLen;omega) (by omega) (by simp only [World.size_alloc,World.size_drew];omega) _ rfl ?_);intro gb cb w2 hown hgrow hat hlt;have hB2:Below V.heap.size V w2:=BV.out.trans (own_grown (own_below HOWN.out VB.out) (by omega) ((Below.refl _ _).alloc (Nat.le_refl _) _) hgrow);have HE:=Lib.hid he;clear he;go_wp2_with fail;go_roundw)
    case rel=>exact ⟨j+1,S ++ [(s1,s2)],by omega,by rw [Int.natCast_add];rfl,fun i hi hij=>(by rcases Nat.lt_or_ge i j with h|h;exact HZ.out i hi h;obtain rfl:i=j:=(by omega);rw [HZ1.out];exact HE.out),by rw [HSTEP.out,HE.out],fun h=>absurd h (Nat.succ_ne_zero _),by rw [List.length_append,HSLEN.out];rfl,by rw [flatT_snoc];exact hown,hB2⟩
    case measure=>simp [intOf];omega
    have j0:(e1 != 0)=true:=by simpa using he
    have HE:=Lib.hid he
    clear he
    go_wp2
    go_ret2
    have hlm:l.length≠1:=(by omega)
    have hRe:R=(none,e1):=by rw [H_hR.out,noB_slp H_hc0.out hlm (by rw [HAT.out HE.out];exact HE.out),HAT.out HE.out]
    rw [hRe]
    exact ⟨_,rfl,rfl,H_hB.out.trans (Below.mono BV.out H_hB.out.size)⟩
  ·have p1:((j:Int)+1<(n:Int))=False:=eq_false (by omega)
   have p1':(j+1<n)=False:=eq_false (by omega)
   have HS0:=Lib.hid (show slpF l 0=(S,0) from by have h:=HSL.out;rwa [List.take_of_length_le (by have:=H_hn.out;omega)] at h)
   go_wp2_with fail
   refine HK4.out _ _ ?_
   have hBV:=H_hB.out.trans (Below.mono HBR.out H_hB.out.size)
   rcases HOWN.out.2 with ⟨hv,h0⟩|⟨g,cI,cur,hv,hrest⟩
   ·subst hv
    exact rn_5b w R l H_hR.out H_hc0.out (H_hK.out.below HBR.out) hBV H_hn.out h64 H_hKR.out (by omega)
   ·by_cases hj0:j=0
    ·have hv2:=HNIL.out hj0
     rw [hv] at hv2;cases hv2
    ·subst hv
     exact rn_5a w R l S H_hR.out H_hc0.out (H_hK.out.below HBR.out) hBV H_hn.out h64 H_hKR.out (by omega) HS0.out HSLEN.out.symm (own_rta HOWN.out)
theorem rn_3 (w:World) (R:Option MapV × Int) (l:List Kn) {z1 z2 z3 z4 z5 z6 z7 z8 z9 z10 z11 z12 z13 z14 z15 z16 z17 z18 z19 z20 z21 z22 z23 z24 z25 z26 z27 z28 z29 z30 z31 z32 z33 z34 z35 z36 z37 z38 z39 z40 z41 z42 z43 z44 z45 z46 z47 z48 z49 z50 z51 z52 z53 z54 z55 z56 z57 z58 z59 z60 z61 z62 z63 z64 z65 z66 z67 z68 z69 z70 z71 z72 z73 z74 z75 z76 z77 z78 z79 z80 z81 z82 z83 z84 z85 z86 z87 z88 z89 z90 z91 z92 z93 z94 z95 z96 z97 z98 z99 z100 z101 z102 z103 z104 z105 z106 z107 z108 z109 z110 z111 z112 z113 z114 z115 z116 z117 z118 z119 z120 z121 z122 z123 z124 z125 z126 z127 z128 z129 z130 z131 z132 z133 z134 z135 z136 z137 z138 z139 z140 z141 z142 z143 z144 z145 z146 z147 z148 z149 z150 z151 z152 z153 z154 z155 z156 z157 z158 z159 z160 z161 z162 z163 z164 z165 z166 z167 z168 z169 z170 z171 z172 z173 z174 z175 z176 z177 z178 z179 z180 z181 z182 z183 z184 z185 z186 z187 z188 z189 z190 z191 z192 z193 z194 z195 z196 z197 z198 z199 z200 z201 z202 z203 z204 z205 z206 z207 z208 z209 z210 z211 z212 z213 z214 z215 z216 z217 z218 z219 z220 z221 z222 z223 z224 z225 z226 z227 z228 z229 z230 z231 z232 z233 z234 z235 z236 z237 z238 z239 z240 z241 z242 z243 z244 z245 z246 z247 z248 z249 z250 z251 z252 z253:Value} {al:Addr} {n cap:Nat} {V:World} (hR:R=noB (newK l)) (hc0:chkK l=0) (hK:KnA V al l) (hB:Below w.heap.size w V) (hn:n=l.length) (h64:n≤64) (hKR:KnR l) (h1:1≤n) :
  rnT3.wp Try.prog (bodyPost Try.prog Try.f20 (NewSQ w R)) ⟨#[.slice (some al) n cap,z1,z2,z3,z4,z5,z6,z7,z8,z9,z10,z11,z12,z13,z14,z15,z16,z17,z18,z19,z20,z21,z22,z23,z24,z25,z26,z27,z28,z29,z30,z31,z32,z33,z34,z35,z36,z37,z38,z39,z40,z41,z42,z43,z44,z45,z46,z47,z48,z49,z50,z51,z52,z53,z54,z55,z56,z57,z58,z59,z60,z61,z62,z63,z64,z65,z66,z67,z68,z69,z70,z71,z72,z73,z74,z75,z76,z77,z78,z79,z80,z81,z82,z83,z84,z85,z86,z87,z88,z89,z90,z91,z92,z93,z94,z95,z96,z97,z98,z99,z100,z101,z102,z103,z104,z105,z106,z107,z108,z109,z110,z111,z112,z113,z114,z115,z116,z117,z118,z119,z120,z121,z122,z123,z124,z125,z126,z127,z128,z129,z130,z131,z132,z133,z134,z135,z136,z137,z138,z139,z140,z141,z142,z143,z144,z145,z146,z147,z148,z149,z150,z151,z152,z153,z154,z155,z156,z157,z158,z159,z160,z161,z162,z163,z164,z165,z166,z167,z168,z169,z170,z171,z172,z173,z174,z175,z176,z177,z178,z179,z180,z181,z182,z183,z184,z185,z186,z187,z188,z189,z190,z191,z192,z193,z194,z195,z196,z197,z198,z199,z200,z201,z202,z203,z204,z205,z206,z207,z208,z209,z210,z211,z212,z213,z214,z215,z216,z217,z218,z219,z220,z221,z222,z223,z224,z225,z226,z227,z228,z229,z230,z231,z232,z233,z234,z235,z236,z237,z238,z239,z240,z241,z242,z243,z244,z245,z246,z247,z248,z249,z250,z251,z252,z253],[]⟩ V:=by
 have H_hR:=Lib.hid hR
 have H_hc0:=Lib.hid hc0
 have H_hK:=Lib.hid hK
 have H_hB:=Lib.hid hB
 have H_hn:=Lib.hid hn
 have H_hKR:=Lib.hid hKR
 clear hR hc0 hK hB hn hKR
 rw [rnE3]
 refine wp_seq_k (fun K3 hK3=>?_)
 have HK3:=Lib.hid hK3
 clear hK3
 conv=>arg 2;whnf
 go_wp2_with fail
 refine HK3.out _ _ ?_
 exact rn_4 w R l H_hR.out H_hc0.out H_hK.out H_hB.out H_hn.out h64 H_hKR.out h1
theorem rn_2 (w:World) (R:Option MapV × Int) (l:List Kn) {z1 z2 z3 z5 z6 z7 z8 z9 z10 z11 z12 z13 z14 z15 z16 z17 z18 z19 z20 z21 z22 z23 z24 z25 z26 z27 z28 z29 z30 z31 z32 z33 z34 z35 z36 z37 z38 z39 z40 z41 z42 z43 z44 z45 z46 z47 z48 z49 z50 z51 z52 z53 z54 z55 z56 z57 z58 z59 z60 z61 z62 z63 z64 z65 z66 z67 z68 z69 z70 z71 z72 z73 z74 z75 z76 z77 z78 z79 z80 z81 z82 z83 z84 z85 z86 z87 z88 z89 z90 z91 z92 z93 z94 z95 z96 z97 z98 z99 z100 z101 z102 z103 z104 z105 z106 z107 z108 z109 z110 z111 z112 z113 z114 z115 z116 z117 z118 z119 z120 z121 z122 z123 z124 z125 z126 z127 z128 z129 z130 z131 z132 z133 z134 z135 z136 z137 z138 z139 z140 z141 z142 z143 z144 z145 z146 z147 z148 z149 z150 z151 z152 z153 z154 z155 z156 z157 z158 z159 z160 z161 z162 z163 z164 z165 z166 z167 z168 z169 z170 z171 z172 z173 z174 z175 z176 z177 z178 z179 z180 z181 z182 z183 z184 z185 z186 z187 z188 z189 z190 z191 z192 z193 z194 z195 z196 z197 z198 z199 z200 z201 z202 z203 z204 z205 z206 z207 z208 z209 z210 z211 z212 z213 z214 z215 z216 z217 z218 z219 z220 z221 z222 z223 z224 z225 z226 z227 z228 z229 z230 z231 z232 z233 z234 z235 z236 z237 z238 z239 z240 z241 z242 z243 z244 z245 z246 z247 z248 z249 z250 z251 z252 z253:Value} {al:Addr} {n cap:Nat} {V:World} (hR:R=noB (newK l)) (hc0:chkK l=0) (hK:KnA V al l) (hB:Below w.heap.size w V) (hn:n=l.length) (h64:n≤64) (hKR:KnR l) (h1:1≤n) :
  rnT2.wp Try.prog (bodyPost Try.prog Try.f20 (NewSQ w R)) ⟨#[.slice (some al) n cap,z1,z2,z3,.int .i64 0,z5,z6,z7,z8,z9,z10,z11,z12,z13,z14,z15,z16,z17,z18,z19,z20,z21,z22,z23,z24,z25,z26,z27,z28,z29,z30,z31,z32,z33,z34,z35,z36,z37,z38,z39,z40,z41,z42,z43,z44,z45,z46,z47,z48,z49,z50,z51,z52,z53,z54,z55,z56,z57,z58,z59,z60,z61,z62,z63,z64,z65,z66,z67,z68,z69,z70,z71,z72,z73,z74,z75,z76,z77,z78,z79,z80,z81,z82,z83,z84,z85,z86,z87,z88,z89,z90,z91,z92,z93,z94,z95,z96,z97,z98,z99,z100,z101,z102,z103,z104,z105,z106,z107,z108,z109,z110,z111,z112,z113,z114,z115,z116,z117,z118,z119,z120,z121,z122,z123,z124,z125,z126,z127,z128,z129,z130,z131,z132,z133,z134,z135,z136,z137,z138,z139,z140,z141,z142,z143,z144,z145,z146,z147,z148,z149,z150,z151,z152,z153,z154,z155,z156,z157,z158,z159,z160,z161,z162,z163,z164,z165,z166,z167,z168,z169,z170,z171,z172,z173,z174,z175,z176,z177,z178,z179,z180,z181,z182,z183,z184,z185,z186,z187,z188,z189,z190,z191,z192,z193,z194,z195,z196,z197,z198,z199,z200,z201,z202,z203,z204,z205,z206,z207,z208,z209,z210,z211,z212,z213,z214,z215,z216,z217,z218,z219,z220,z221,z222,z223,z224,z225,z226,z227,z228,z229,z230,z231,z232,z233,z234,z235,z236,z237,z238,z239,z240,z241,z242,z243,z244,z245,z246,z247,z248,z249,z250,z251,z252,z253],[]⟩ V:=by
 have H_hR:=Lib.hid hR
 have H_hc0:=Lib.hid hc0
 have H_hK:=Lib.hid hK
 have H_hB:=Lib.hid hB
 have H_hn:=Lib.hid hn
 have H_hKR:=Lib.hid hKR
 clear hR hc0 hK hB hn hKR
 rw [rnE2]
 refine wp_seq_k (fun K2 hK2=>?_)
 have HK2:=Lib.hid hK2
 clear hK2
 conv=>arg 2;whnf
 go_wp2_with fail
 refine HK2.out _ _ ?_
 exact rn_3 w R l H_hR.out H_hc0.out H_hK.out H_hB.out H_hn.out h64 H_hKR.out h1
theorem rn_2e (w:World) (R:Option MapV × Int) (e:Int) {z0 z1 z2 z3 z5 z6 z7 z8 z9 z10 z11 z12 z13 z14 z15 z16 z17 z18 z19 z20 z21 z22 z23 z24 z25 z26 z27 z28 z29 z30 z31 z32 z33 z34 z35 z36 z37 z38 z39 z40 z41 z42 z43 z44 z45 z46 z47 z48 z49 z50 z51 z52 z53 z54 z55 z56 z57 z58 z59 z60 z61 z62 z63 z64 z65 z66 z67 z68 z69 z70 z71 z72 z73 z74 z75 z76 z77 z78 z79 z80 z81 z82 z83 z84 z85 z86 z87 z88 z89 z90 z91 z92 z93 z94 z95 z96 z97 z98 z99 z100 z101 z102 z103 z104 z105 z106 z107 z108 z109 z110 z111 z112 z113 z114 z115 z116 z117 z118 z119 z120 z121 z122 z123 z124 z125 z126 z127 z128 z129 z130 z131 z132 z133 z134 z135 z136 z137 z138 z139 z140 z141 z142 z143 z144 z145 z146 z147 z148 z149 z150 z151 z152 z153 z154 z155 z156 z157 z158 z159 z160 z161 z162 z163 z164 z165 z166 z167 z168 z169 z170 z171 z172 z173 z174 z175 z176 z177 z178 z179 z180 z181 z182 z183 z184 z185 z186 z187 z188 z189 z190 z191 z192 z193 z194 z195 z196 z197 z198 z199 z200 z201 z202 z203 z204 z205 z206 z207 z208 z209 z210 z211 z212 z213 z214 z215 z216 z217 z218 z219 z220 z221 z222 z223 z224 z225 z226 z227 z228 z229 z230 z231 z232 z233 z234 z235 z236 z237 z238 z239 z240 z241 z242 z243 z244 z245 z246 z247 z248 z249 z250 z251 z252 z253:Value} {V:World} (he:e≠0) (hR:R=(none,e)) (hB:Below w.heap.size w V) :
  rnT2.wp Try.prog (bodyPost Try.prog Try.f20 (NewSQ w R)) ⟨#[z0,z1,z2,z3,.int .i64 e,z5,z6,z7,z8,z9,z10,z11,z12,z13,z14,z15,z16,z17,z18,z19,z20,z21,z22,z23,z24,z25,z26,z27,z28,z29,z30,z31,z32,z33,z34,z35,z36,z37,z38,z39,z40,z41,z42,z43,z44,z45,z46,z47,z48,z49,z50,z51,z52,z53,z54,z55,z56,z57,z58,z59,z60,z61,z62,z63,z64,z65,z66,z67,z68,z69,z70,z71,z72,z73,z74,z75,z76,z77,z78,z79,z80,z81,z82,z83,z84,z85,z86,z87,z88,z89,z90,z91,z92,z93,z94,z95,z96,z97,z98,z99,z100,z101,z102,z103,z104,z105,z106,z107,z108,z109,z110,z111,z112,z113,z114,z115,z116,z117,z118,z119,z120,z121,z122,z123,z124,z125,z126,z127,z128,z129,z130,z131,z132,z133,z134,z135,z136,z137,z138,z139,z140,z141,z142,z143,z144,z145,z146,z147,z148,z149,z150,z151,z152,z153,z154,z155,z156,z157,z158,z159,z160,z161,z162,z163,z164,z165,z166,z167,z168,z169,z170,z171,z172,z173,z174,z175,z176,z177,z178,z179,z180,z181,z182,z183,z184,z185,z186,z187,z188,z189,z190,z191,z192,z193,z194,z195,z196,z197,z198,z199,z200,z201,z202,z203,z204,z205,z206,z207,z208,z209,z210,z211,z212,z213,z214,z215,z216,z217,z218,z219,z220,z221,z222,z223,z224,z225,z226,z227,z228,z229,z230,z231,z232,z233,z234,z235,z236,z237,z238,z239,z240,z241,z242,z243,z244,z245,z246,z247,z248,z249,z250,z251,z252,z253],[]⟩ V:=by
 have j0:(e != 0)=true:=by simpa using he
 have HR:=Lib.hid hR
 have HB:=Lib.hid hB
 clear hR hB he
 rw [rnE2]
 refine wp_seq_k (fun K2 hK2=>?_)
 have HK2:=Lib.hid hK2
 clear hK2
 conv=>arg 2;whnf
 go_wp2
 go_ret2
 rw [HR.out]
 exact ⟨_,rfl,rfl,HB.out⟩
theorem qnew_any (A:Option Addr) (l:List Kn) (cap:Nat) (w:World) (hK:KnS w A l) (hR:KnR l) :
  Calls Try.prog 20 #[.slice A l.length cap] w (NewSQ w (noB (newK l))):=by
 obtain ⟨R,hRe⟩:∃ R,R=noB (newK l):=⟨_,rfl⟩
 rw [← hRe]
 obtain ⟨n,hn⟩:∃ n,n=l.length:=⟨_,rfl⟩
 have MC:=Lib.hid (fun (u:World) (h:Below w.heap.size w u)=>cqk_any A l cap u (hK.below h) hR)
 obtain ⟨c,hc⟩:∃ c,chkK l=c:=⟨_,rfl⟩
 rw [← hn] at MC ⊢
 rw [hc] at MC
 have HRE:=Lib.hid hRe
 have HN:=Lib.hid hn
 have HK:=Lib.hid hK
 have HR:=Lib.hid hR
 have HC:=Lib.hid hc
 clear hRe hn hK hR hc
 go_enter Try.func20,Try.ntmps20
 refine Eq.mpr (congrArg (fun c=>Code.wp Try.prog c _ _ _) rnE0) ?_
 refine wp_seq_k (fun K0 hK0=>?_)
 have HK0:=Lib.hid hK0
 clear hK0
 conv=>arg 2;whnf
 go_wp2_with fail
 refine HK0.out _ _ ?_
 rw [rnE1]
 refine wp_seq_k (fun K1 hK1=>?_)
 have HK1:=Lib.hid hK1
 clear hK1
 conv=>arg 2;whnf
 go_wp2_with fail
 with_reducible refine (MC.out _ (Below.refl _ _)).mono ?_
 rintro e_ w1 ⟨rfl,hb1⟩
 go_wp2_with fail
 refine HK1.out _ _ ?_
 by_cases h0:c=0
 ·subst h0
  have hl0:l.length≠0:=fun h=>by have:=HC.out;unfold chkK at this;rw [if_pos h] at this;cases this
  have hl1:¬ 64<l.length:=fun h=>by have:=HC.out;unfold chkK at this;rw [if_neg hl0,if_pos h] at this;cases this
  rcases HK.out with h|⟨al,hA,hKa⟩
  ·exact absurd (by rw [h];rfl) hl0
  ·subst hA
   exact rn_2 w R l HRE.out HC.out (hKa.below hb1) hb1 HN.out (by have:=HN.out;omega) HR.out (by have:=HN.out;omega)
 ·exact rn_2e w R c h0 (by rw [HRE.out,noB_chk (by rw [HC.out];exact h0),HC.out]) hb1
end Go.Proofs.Ythlpaglldhgmfaa.PA
