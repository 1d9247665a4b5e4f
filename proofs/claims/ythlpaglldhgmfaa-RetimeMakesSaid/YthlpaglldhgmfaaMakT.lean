/- Chapter 6: RetimeMakes. -/
import Derived.Test.YthlpaglldhgmfaaRq6
import Derived.Test.YthlpaglldhgmfaaN8
import Derived.Test.YthlpaglldhgmfaaOp6
set_option maxHeartbeats 4000000
set_option maxRecDepth 100000
namespace Go.Proofs.Ythlpaglldhgmfaa.PA
open Go Go.RowKit Go.Proofs.YthlpaglldhgmfaaW.PrintWords Go.Proofs.YthlpaglldhgmfaaW.PrintLast Go.Proofs.YthlpaglldhgmfaaW.PrintMore
attribute [local go_sem high] eqA31 eqA35
set_option linter.unusedSimpArgs false
set_option linter.unusedVariables false
open Go.Proofs.Ythlpaglldhgmfaa.CS
theorem NewR.keep {B:Nat} {w w':World} {v:Value} {r:Option MapV} (h:NewR B w v r) (hb:Below w.heap.size w w'):NewR B w' v r:=by
 cases r with
 | none=>exact h
 | some m =>
  obtain ⟨p,ak,as_,ck,cs,h1,h2,h3⟩:=h
  exact ⟨p,ak,as_,ck,cs,h1,h2.below hb,h3⟩
def Good (r:Option MapV × Int):Prop:=∀ m,r.1=some m → ∃ l,MapQ l m
theorem good_no (e:Int):Good (none,e):=fun m h=>by cases h
theorem good_newK (l:List Kn):Good (newK l):=by
 intro m h
 rcases newK_cases l with ⟨m',hm⟩|⟨e,_,he⟩
 ·rw [hm] at h;cases h;exact ⟨l,newK_Q hm⟩
 ·rw [he] at h;cases h
theorem good_if {p:Prop} [Decidable p] {a b:Option MapV × Int} (ha:Good a) (hb:Good b):Good (if p then a else b):=by split<;>assumption
theorem good_shift (x:Rt):Good (shiftS x):=good_newK _
theorem good_scale (x y:Rt):Good (scaleS x y):=by
 unfold scaleS
 exact good_if (good_no _) (good_if (good_no _) (good_if (good_no _) (good_newK _)))
theorem good_rates (n d:Int) (b:Bool) (m f:Int) (z:Bool):Good (ratesS n d b m f z):=by
 unfold ratesS
 exact good_if (good_no _) (good_if (good_no _) (good_if (good_no _) (good_if (good_no _) (good_if (good_no _) (good_scale _ _)))))
theorem made_of (r:Option MapV × Int) (hg:Good r) (ts:List Rt) {A:Option Addr} {cap B:Nat} {v1 v2:Value} (u:World) (h1:NewR B u v1 r.1) (h2:NewS u v2 (r.1.map (fun m=>⟨m.knots,m.slopes,0⟩))) (hT:RtS u A ts) (hR:∀ t ∈ ts,R64 t) (hN:ts.length≤2000) :
  Calls Try.prog 21 #[v1,.int .i64 r.2,v2,.int .i64 r.2,.slice A ts.length cap] u fun e w'=>e = .returned (.bool true)∧Below u.heap.size u w':=by
 obtain ⟨mo,e⟩:=r
 cases mo with
 | none =>
  have l1:v1 = .pointer none:=h1
  have l2:v2 = .pointer none:=h2
  subst l1 l2
  exact made_nil e A ts.length cap u
 | some m =>
  obtain ⟨l,hq⟩:=hg m rfl
  obtain ⟨p,ak,as_,ck,cs,rfl,hA,_⟩:=h1
  obtain ⟨q,bk,bs,dk,ds,rfl,hB⟩:=h2
  exact made_some e m ts u hA hB.wide hq.ok hq.lens hT hR hN
noncomputable def mksT1:Code:=sndC (Try.f7.body.getD .skip)
noncomputable def mksT2:Code:=sndC mksT1
noncomputable def mksT3:Code:=sndC mksT2
noncomputable def mksT4:Code:=sndC mksT3
noncomputable def mksT5:Code:=sndC mksT4
noncomputable def mksT6:Code:=sndC mksT5
noncomputable def mksT7:Code:=sndC mksT6
noncomputable def mksT8:Code:=sndC mksT7
noncomputable def mksT9:Code:=sndC mksT8
noncomputable def mksT10:Code:=sndC mksT9
noncomputable def mksT11:Code:=sndC mksT10
theorem mksE1:mksT1 = .seq (fstC mksT1) mksT2:=by kernel_rfl
theorem mksE2:mksT2 = .seq (fstC mksT2) mksT3:=by kernel_rfl
theorem mksE3:mksT3 = .seq (fstC mksT3) mksT4:=by kernel_rfl
theorem mksE4:mksT4 = .seq (fstC mksT4) mksT5:=by kernel_rfl
theorem mksE5:mksT5 = .seq (fstC mksT5) mksT6:=by kernel_rfl
theorem mksE6:mksT6 = .seq (fstC mksT6) mksT7:=by kernel_rfl
theorem mksE7:mksT7 = .seq (fstC mksT7) mksT8:=by kernel_rfl
theorem mksE8:mksT8 = .seq (fstC mksT8) mksT9:=by kernel_rfl
theorem mksE9:mksT9 = .seq (fstC mksT9) mksT10:=by kernel_rfl
theorem mksE10:mksT10 = .seq (fstC mksT10) mksT11:=by kernel_rfl
theorem mksE0:Try.f7.body.getD .skip = .seq (fstC (Try.f7.body.getD .skip)) mksT1:=by kernel_rfl
theorem mks_9 (w V:World) (b1 b2 a1 a2 n d m f:Int) (b z:Bool) (ts:List Rt) {z0 z1 z2 z3 z5 z6 z9 z10 z11 z12 z13 z14 z15 z16 z17 z18 z19 z20 z21 z22 z23 z24 z25 z26 z27 z28 z29 z30 z31 z32 z33 z34 z35 z36 z37 z38 z39 z40 z41 z42 z43 z44 z45 z46 z47 z48 z49 z50 z51 z52 z53 z54 z55 z56 z57 z58 z59 z60 z61 z62 z63 z64 z65 z66 z67 z68 z69 z70 z71 z72 z73:Value} {A:Option Addr} {cap nt if_ it:Nat} (hnt:nt=ts.length) (gf:V.heap[if_]?=some (.cells #[.int .i64 n,.int .i64 d,.bool b] 50 (0,0))) (gt:V.heap[it]?=some (.cells #[.int .i64 m,.int .i64 f,.bool z] 50 (0,0))) (rb:R64 (b1,b2)) (ra:R64 (a1,a2)) (rf:R64 (n,d)) (rt:R64 (m,f)) (hT:RtS V A ts) (hR:∀ t ∈ ts,R64 t) (hN:ts.length≤2000) (hB:Below w.heap.size w V) :
  mksT9.wp Try.prog (bodyPost Try.prog Try.f7 (fun e w'=>e = .returned (.bool true)∧Below w.heap.size w w')) ⟨#[z0,z1,z2,z3,.slice A nt cap,z5,z6,.pointer (some ⟨if_,0,none⟩),.pointer (some ⟨it,0,none⟩),z9,z10,z11,z12,z13,z14,z15,z16,z17,z18,z19,z20,z21,z22,z23,z24,z25,z26,z27,z28,z29,z30,z31,z32,z33,z34,z35,z36,z37,z38,z39,z40,z41,z42,z43,z44,z45,z46,z47,z48,z49,z50,z51,z52,z53,z54,z55,z56,z57,z58,z59,z60,z61,z62,z63,z64,z65,z66,z67,z68,z69,z70,z71,z72,z73],[]⟩ V:=by
 have M1:=Lib.hid (fun u=>rates_any n d b m f z rf.a0 rf.a1 rf.b0 rf.b1 rt.a0 rt.a1 rt.b0 rt.b1 u)
 have M2:=Lib.hid (fun u=>qrates_any n d b m f z u)
 have hG:=good_rates n d b m f z
 have HREGS:=Lib.hid (And.intro rb (And.intro ra (And.intro rf rt)))
 clear rb ra rf rt
 obtain ⟨R,hRR⟩:∃ R,ratesS n d b m f z=R:=⟨_,rfl⟩
 rw [hRR] at M1 M2 hG
 clear hRR
 have HG:=Lib.hid hG
 have HR:=Lib.hid hR
 clear hG hR
 subst hnt
 obtain ⟨gf0_,_,gf1_,_,gf2_,_⟩:=Hand.hc3 gf
 obtain ⟨gt0_,_,gt1_,_,gt2_,_⟩:=Hand.hc3 gt
 rw [mksE9]
 refine wp_seq_k (fun K9 hK9=>?_)
 have HK9:=Lib.hid hK9
 clear hK9
 conv=>arg 2;whnf
 go_wp2_with fail
 with_reducible refine (M1.out _).mono ?_
 rintro e_ w1 ⟨v1,rfl,hv1,hb1⟩
 have HV1:=Lib.hid hv1
 clear hv1
 have gf:=Hand.kb hb1 gf
 have gt:=Hand.kb hb1 gt
 have hT:=hT.below hb1
 have hB:=Hand.stepB hb1 hB (Nat.le_refl _)
 clear hb1 gf0_ gf1_ gf2_ gt0_ gt1_ gt2_
 go_wp2
 refine HK9.out _ _ ?_
 obtain ⟨gf0_,_,gf1_,_,gf2_,_⟩:=Hand.hc3 gf
 obtain ⟨gt0_,_,gt1_,_,gt2_,_⟩:=Hand.hc3 gt
 rw [mksE10]
 refine wp_seq_k (fun K10 hK10=>?_)
 have HK10:=Lib.hid hK10
 clear hK10
 conv=>arg 2;whnf
 go_wp2_with fail
 with_reducible refine (M2.out _).mono ?_
 rintro e_ w2 ⟨v2,rfl,hv2,hb2⟩
 dsimp only [noB] at hv2 ⊢
 have HV2:=Lib.hid hv2
 have HV1:=Lib.hid (HV1.out.keep hb2)
 clear hv2
 have gf:=Hand.kb hb2 gf
 have gt:=Hand.kb hb2 gt
 have hT:=hT.below hb2
 have hB:=Hand.stepB hb2 hB (Nat.le_refl _)
 clear hb2 gf0_ gf1_ gf2_ gt0_ gt1_ gt2_
 have MD:=Lib.hid (made_of R HG.out ts (A:=A) (cap:=cap) w2 HV1.out HV2.out hT HR.out hN)
 obtain ⟨nt,hnt⟩:∃ n,ts.length=n:=⟨_,rfl⟩
 rw [hnt] at MD ⊢
 go_wp2
 refine HK10.out _ _ ?_
 conv=>arg 2;whnf
 go_wp2_with fail
 with_reducible refine (MD.out).mono ?_
 rintro e_ w3 ⟨rfl,hb3⟩
 go_wp2
 go_ret
 exact ⟨rfl,Hand.stepB hb3 hB (Nat.le_refl _)⟩
theorem mks_6 (w V:World) (b1 b2 a1 a2 n d m f:Int) (b z:Bool) (ts:List Rt) {z0 z1 z2 z3 z9 z10 z11 z12 z13 z14 z15 z16 z17 z18 z19 z20 z21 z22 z23 z24 z25 z26 z27 z28 z29 z30 z31 z32 z33 z34 z35 z36 z37 z38 z39 z40 z41 z42 z43 z44 z45 z46 z47 z48 z49 z50 z51 z52 z53 z54 z55 z56 z57 z58 z59 z60 z61 z62 z63 z64 z65 z66 z67 z68 z69 z70 z71 z72 z73:Value} {A:Option Addr} {cap nt ib ia if_ it:Nat} (hnt:nt=ts.length) (gb:V.heap[ib]?=some (.cells #[.int .i64 b1,.int .i64 b2] 31 (0,0))) (ga:V.heap[ia]?=some (.cells #[.int .i64 a1,.int .i64 a2] 31 (0,0))) (gf:V.heap[if_]?=some (.cells #[.int .i64 n,.int .i64 d,.bool b] 50 (0,0))) (gt:V.heap[it]?=some (.cells #[.int .i64 m,.int .i64 f,.bool z] 50 (0,0))) (rb:R64 (b1,b2)) (ra:R64 (a1,a2)) (rf:R64 (n,d)) (rt:R64 (m,f)) (hT:RtS V A ts) (hR:∀ t ∈ ts,R64 t) (hN:ts.length≤2000) (hB:Below w.heap.size w V) :
  mksT6.wp Try.prog (bodyPost Try.prog Try.f7 (fun e w'=>e = .returned (.bool true)∧Below w.heap.size w w')) ⟨#[z0,z1,z2,z3,.slice A nt cap,.pointer (some ⟨ib,0,none⟩),.pointer (some ⟨ia,0,none⟩),.pointer (some ⟨if_,0,none⟩),.pointer (some ⟨it,0,none⟩),z9,z10,z11,z12,z13,z14,z15,z16,z17,z18,z19,z20,z21,z22,z23,z24,z25,z26,z27,z28,z29,z30,z31,z32,z33,z34,z35,z36,z37,z38,z39,z40,z41,z42,z43,z44,z45,z46,z47,z48,z49,z50,z51,z52,z53,z54,z55,z56,z57,z58,z59,z60,z61,z62,z63,z64,z65,z66,z67,z68,z69,z70,z71,z72,z73],[]⟩ V:=by
 have M1:=Lib.hid (fun u=>scale_any b1 b2 a1 a2 rb ra u)
 have M2:=Lib.hid (fun u=>qscale_any b1 b2 a1 a2 rb ra u)
 have hG:=good_scale (b1,b2) (a1,a2)
 have HREGS:=Lib.hid (And.intro rb (And.intro ra (And.intro rf rt)))
 clear rb ra rf rt
 obtain ⟨R,hRR⟩:∃ R,scaleS (b1,b2) (a1,a2)=R:=⟨_,rfl⟩
 rw [hRR] at M1 M2 hG
 clear hRR
 have HG:=Lib.hid hG
 have HR:=Lib.hid hR
 clear hG hR
 subst hnt
 obtain ⟨gb0_,_,gb1_,_⟩:=Hand.hc2 gb
 obtain ⟨ga0_,_,ga1_,_⟩:=Hand.hc2 ga
 rw [mksE6]
 refine wp_seq_k (fun K6 hK6=>?_)
 have HK6:=Lib.hid hK6
 clear hK6
 conv=>arg 2;whnf
 go_wp2_with fail
 with_reducible refine (M1.out _).mono ?_
 rintro e_ w1 ⟨v1,rfl,hv1,hb1⟩
 have HV1:=Lib.hid hv1
 clear hv1
 have gb:=Hand.kb hb1 gb
 have ga:=Hand.kb hb1 ga
 have gf:=Hand.kb hb1 gf
 have gt:=Hand.kb hb1 gt
 have hT:=hT.below hb1
 have hB:=Hand.stepB hb1 hB (Nat.le_refl _)
 clear hb1 gb0_ gb1_ ga0_ ga1_
 go_wp2
 refine HK6.out _ _ ?_
 obtain ⟨gb0_,_,gb1_,_⟩:=Hand.hc2 gb
 obtain ⟨ga0_,_,ga1_,_⟩:=Hand.hc2 ga
 rw [mksE7]
 refine wp_seq_k (fun K7 hK7=>?_)
 have HK7:=Lib.hid hK7
 clear hK7
 conv=>arg 2;whnf
 go_wp2_with fail
 with_reducible refine (M2.out _).mono ?_
 rintro e_ w2 ⟨v2,rfl,hv2,hb2⟩
 dsimp only [noB] at hv2 ⊢
 have HV2:=Lib.hid hv2
 have HV1:=Lib.hid (HV1.out.keep hb2)
 clear hv2
 have gb:=Hand.kb hb2 gb
 have ga:=Hand.kb hb2 ga
 have gf:=Hand.kb hb2 gf
 have gt:=Hand.kb hb2 gt
 have hT:=hT.below hb2
 have hB:=Hand.stepB hb2 hB (Nat.le_refl _)
 clear hb2 gb0_ gb1_ ga0_ ga1_
 have MD:=Lib.hid (made_of R HG.out ts (A:=A) (cap:=cap) w2 HV1.out HV2.out hT HR.out hN)
 obtain ⟨nt,hnt⟩:∃ n,ts.length=n:=⟨_,rfl⟩
 rw [hnt] at MD ⊢
 go_wp2
 refine HK7.out _ _ ?_
 rw [mksE8]
 refine wp_seq_k (fun K8 hK8=>?_)
 have HK8:=Lib.hid hK8
 clear hK8
 conv=>arg 2;whnf
 go_wp2_with fail
 with_reducible refine (MD.out).mono ?_
 rintro e_ w3 ⟨rfl,hb3⟩
 have gb:=Hand.kb hb3 gb
 have ga:=Hand.kb hb3 ga
 have gf:=Hand.kb hb3 gf
 have gt:=Hand.kb hb3 gt
 have hT:=hT.below hb3
 have hB:=Hand.stepB hb3 hB (Nat.le_refl _)
 go_wp2
 refine HK8.out _ _ ?_
 exact mks_9 w w3 b1 b2 a1 a2 n d m f b z ts hnt.symm gf gt HREGS.out.1 HREGS.out.2.1 HREGS.out.2.2.1 HREGS.out.2.2.2 hT HR.out hN hB
theorem mks_3 (w V:World) (b1 b2 a1 a2 n d m f:Int) (b z:Bool) (ts:List Rt) {z0 z1 z2 z3 z9 z10 z11 z12 z13 z14 z15 z16 z17 z18 z19 z20 z21 z22 z23 z24 z25 z26 z27 z28 z29 z30 z31 z32 z33 z34 z35 z36 z37 z38 z39 z40 z41 z42 z43 z44 z45 z46 z47 z48 z49 z50 z51 z52 z53 z54 z55 z56 z57 z58 z59 z60 z61 z62 z63 z64 z65 z66 z67 z68 z69 z70 z71 z72 z73:Value} {A:Option Addr} {cap nt ib ia if_ it:Nat} (hnt:nt=ts.length) (gb:V.heap[ib]?=some (.cells #[.int .i64 b1,.int .i64 b2] 31 (0,0))) (ga:V.heap[ia]?=some (.cells #[.int .i64 a1,.int .i64 a2] 31 (0,0))) (gf:V.heap[if_]?=some (.cells #[.int .i64 n,.int .i64 d,.bool b] 50 (0,0))) (gt:V.heap[it]?=some (.cells #[.int .i64 m,.int .i64 f,.bool z] 50 (0,0))) (rb:R64 (b1,b2)) (ra:R64 (a1,a2)) (rf:R64 (n,d)) (rt:R64 (m,f)) (hT:RtS V A ts) (hR:∀ t ∈ ts,R64 t) (hN:ts.length≤2000) (hB:Below w.heap.size w V) :
  mksT3.wp Try.prog (bodyPost Try.prog Try.f7 (fun e w'=>e = .returned (.bool true)∧Below w.heap.size w w')) ⟨#[z0,z1,z2,z3,.slice A nt cap,.pointer (some ⟨ib,0,none⟩),.pointer (some ⟨ia,0,none⟩),.pointer (some ⟨if_,0,none⟩),.pointer (some ⟨it,0,none⟩),z9,z10,z11,z12,z13,z14,z15,z16,z17,z18,z19,z20,z21,z22,z23,z24,z25,z26,z27,z28,z29,z30,z31,z32,z33,z34,z35,z36,z37,z38,z39,z40,z41,z42,z43,z44,z45,z46,z47,z48,z49,z50,z51,z52,z53,z54,z55,z56,z57,z58,z59,z60,z61,z62,z63,z64,z65,z66,z67,z68,z69,z70,z71,z72,z73],[]⟩ V:=by
 have M1:=Lib.hid (fun u=>shift_any b1 b2 rb u)
 have M2:=Lib.hid (fun u=>qshift_any b1 b2 rb u)
 have hG:=good_shift (b1,b2)
 have HREGS:=Lib.hid (And.intro rb (And.intro ra (And.intro rf rt)))
 clear rb ra rf rt
 obtain ⟨R,hRR⟩:∃ R,shiftS (b1,b2)=R:=⟨_,rfl⟩
 rw [hRR] at M1 M2 hG
 clear hRR
 have HG:=Lib.hid hG
 have HR:=Lib.hid hR
 clear hG hR
 subst hnt
 obtain ⟨gb0_,_,gb1_,_⟩:=Hand.hc2 gb
 rw [mksE3]
 refine wp_seq_k (fun K3 hK3=>?_)
 have HK3:=Lib.hid hK3
 clear hK3
 conv=>arg 2;whnf
 go_wp2_with fail
 with_reducible refine (M1.out _).mono ?_
 rintro e_ w1 ⟨v1,rfl,hv1,hb1⟩
 have HV1:=Lib.hid hv1
 clear hv1
 have gb:=Hand.kb hb1 gb
 have ga:=Hand.kb hb1 ga
 have gf:=Hand.kb hb1 gf
 have gt:=Hand.kb hb1 gt
 have hT:=hT.below hb1
 have hB:=Hand.stepB hb1 hB (Nat.le_refl _)
 clear hb1 gb0_ gb1_
 go_wp2
 refine HK3.out _ _ ?_
 obtain ⟨gb0_,_,gb1_,_⟩:=Hand.hc2 gb
 rw [mksE4]
 refine wp_seq_k (fun K4 hK4=>?_)
 have HK4:=Lib.hid hK4
 clear hK4
 conv=>arg 2;whnf
 go_wp2_with fail
 with_reducible refine (M2.out _).mono ?_
 rintro e_ w2 ⟨v2,rfl,hv2,hb2⟩
 dsimp only [noB] at hv2 ⊢
 have HV2:=Lib.hid hv2
 have HV1:=Lib.hid (HV1.out.keep hb2)
 clear hv2
 have gb:=Hand.kb hb2 gb
 have ga:=Hand.kb hb2 ga
 have gf:=Hand.kb hb2 gf
 have gt:=Hand.kb hb2 gt
 have hT:=hT.below hb2
 have hB:=Hand.stepB hb2 hB (Nat.le_refl _)
 clear hb2 gb0_ gb1_
 have MD:=Lib.hid (made_of R HG.out ts (A:=A) (cap:=cap) w2 HV1.out HV2.out hT HR.out hN)
 obtain ⟨nt,hnt⟩:∃ n,ts.length=n:=⟨_,rfl⟩
 rw [hnt] at MD ⊢
 go_wp2
 refine HK4.out _ _ ?_
 rw [mksE5]
 refine wp_seq_k (fun K5 hK5=>?_)
 have HK5:=Lib.hid hK5
 clear hK5
 conv=>arg 2;whnf
 go_wp2_with fail
 with_reducible refine (MD.out).mono ?_
 rintro e_ w3 ⟨rfl,hb3⟩
 have gb:=Hand.kb hb3 gb
 have ga:=Hand.kb hb3 ga
 have gf:=Hand.kb hb3 gf
 have gt:=Hand.kb hb3 gt
 have hT:=hT.below hb3
 have hB:=Hand.stepB hb3 hB (Nat.le_refl _)
 go_wp2
 refine HK5.out _ _ ?_
 exact mks_6 w w3 b1 b2 a1 a2 n d m f b z ts hnt.symm gb ga gf gt HREGS.out.1 HREGS.out.2.1 HREGS.out.2.2.1 HREGS.out.2.2.2 hT HR.out hN hB
theorem makes6 (b1 b2 a1 a2 n d:Int) (b:Bool) (m f:Int) (z:Bool) (ts:List Rt) (w:World) {A:Option Addr} {cap:Nat} (wa0:(Lit.int .i64 b1).wf=true) (wb0:(Lit.int .i64 b2).wf=true) (wa1:(Lit.int .i64 a1).wf=true) (wb1:(Lit.int .i64 a2).wf=true) (wa2:(Lit.int .i64 n).wf=true) (wb2:(Lit.int .i64 d).wf=true) (wa3:(Lit.int .i64 m).wf=true) (wb3:(Lit.int .i64 f).wf=true) (hT:RtS w A ts) (hR:∀ t ∈ ts,R64 t) :
  Calls Try.prog 7 #[.agg #[.int .i64 b1,.int .i64 b2],.agg #[.int .i64 a1,.int .i64 a2],rate n d b,rate m f z,.slice A ts.length cap] w fun e w'=>e = .returned (.bool true)∧Below w.heap.size w w':=by
 have rb:=wf_R64 wa0 wb0
 have ra:=wf_R64 wa1 wb1
 have rf:=wf_R64 wa2 wb2
 have rt:=wf_R64 wa3 wb3
 clear wa0 wb0 wa1 wb1 wa2 wb2 wa3 wb3
 have HREGS:=Lib.hid (And.intro rb (And.intro ra (And.intro rf rt)))
 clear rb ra rf rt
 have MKN:=Lib.hid known6_any
 obtain ⟨nt,hnt⟩:∃ n,ts.length=n:=⟨_,rfl⟩
 rw [hnt]
 have HR:=Lib.hid hR
 clear hR
 go_enter Try.func7,Try.ntmps7
 refine Eq.mpr (congrArg (fun c=>Code.wp Try.prog c _ _ _) mksE0) ?_
 refine wp_seq_k (fun K0 hK0=>?_)
 have HK0:=Lib.hid hK0
 clear hK0
 conv=>arg 2;whnf
 go_wp2
 refine HK0.out _ _ ?_
 obtain ⟨V,hV⟩:∃ V_,V_=(((w.alloc (.cells #[.int .i64 b1,.int .i64 b2] 31)).alloc (.cells #[.int .i64 a1,.int .i64 a2] 31)).alloc (.cells #[.int .i64 n,.int .i64 d,.bool b] 50)).alloc (.cells #[.int .i64 m,.int .i64 f,.bool z] 50):=⟨_,rfl⟩
 rw [← hV]
 have gb:V.heap[w.heap.size]?=some (.cells #[.int .i64 b1,.int .i64 b2] 31 (0,0)):=by rw [hV];simp (disch:=try exact Hand.z) only [Hand.q4,Hand.q3]
 have ga:V.heap[w.heap.size+1]?=some (.cells #[.int .i64 a1,.int .i64 a2] 31 (0,0)):=by rw [hV];simp (disch:=try exact Hand.z) only [Hand.q4,Hand.q3]
 have gf:V.heap[w.heap.size+1+1]?=some (.cells #[.int .i64 n,.int .i64 d,.bool b] 50 (0,0)):=by rw [hV];simp (disch:=try exact Hand.z) only [Hand.q4,Hand.q3]
 have gt:V.heap[w.heap.size+1+1+1]?=some (.cells #[.int .i64 m,.int .i64 f,.bool z] 50 (0,0)):=by rw [hV];simp (disch:=try exact Hand.z) only [Hand.q4,Hand.q3]
 have hB:Below w.heap.size w V:=by rw [hV];exact ((((Below.refl _ _).alloc (by omega) _).alloc (by simp only [World.size_alloc];omega) _).alloc (by simp only [World.size_alloc];omega) _).alloc (by simp only [World.size_alloc];omega) _
 have hT:=hT.below hB
 clear hV
 rw [mksE1]
 refine wp_seq_k (fun K1 hK1=>?_)
 have HK1:=Lib.hid hK1
 clear hK1
 conv=>arg 2;whnf
 go_wp2_with fail
 with_reducible refine (MKN.out _).mono ?_
 rintro e_ w1 ⟨rfl,hb1⟩
 have gb:=Hand.kb hb1 gb
 have ga:=Hand.kb hb1 ga
 have gf:=Hand.kb hb1 gf
 have gt:=Hand.kb hb1 gt
 have hT:=hT.below hb1
 have hB:=Hand.stepB hb1 hB (Nat.le_refl _)
 clear hb1
 go_wp2
 refine HK1.out _ _ ?_
 rw [mksE2]
 refine wp_seq_k (fun K2 hK2=>?_)
 have HK2:=Lib.hid hK2
 clear hK2
 conv=>arg 2;whnf
 by_cases h2:nt≤2000
 ·have q2:((2000:Int)<(nt:Int))=False:=eq_false (by omega)
  have q3:(2000<nt)=False:=eq_false (by omega)
  go_wp2
  refine HK2.out _ _ ?_
  exact mks_3 w w1 b1 b2 a1 a2 n d m f b z ts hnt.symm gb ga gf gt HREGS.out.1 HREGS.out.2.1 HREGS.out.2.2.1 HREGS.out.2.2.2 hT HR.out (by rw [hnt];exact h2) hB
 ·have q2:((2000:Int)<(nt:Int))=True:=eq_true (by omega)
  have q3:(2000<nt)=True:=eq_true (by omega)
  go_wp2
  go_ret
  exact ⟨rfl,hB⟩
end Go.Proofs.Ythlpaglldhgmfaa.PA
