/- Chapter 6: the piece of a map by which a time is reckoned. Chapter 6: Apply, Undo. Chapter 6: rows of ratios, of knots that a call owns; slopes in plain lists, one behind the other. Chapter 6: the slopes between knots. -/
import Derived.Test.YthlpaglldhgmfaaM4
import Derived.Deep.RegionHeld3
import Derived.Deep.AppendLies
set_option maxHeartbeats 1600000
set_option maxRecDepth 100000
namespace Go.Proofs.Ythlpaglldhgmfaa.PA
open Go Go.RowKit Go.Proofs.YthlpaglldhgmfaaW.PrintWords Go.Proofs.YthlpaglldhgmfaaW.PrintLast Go.Proofs.YthlpaglldhgmfaaW.PrintMore
set_option linter.unusedSimpArgs false
set_option linter.unusedVariables false
theorem lastLe_snoc (f:Kn → Rt) (t:Rt) (k:Kn):∀ (l:List Kn) (i a:Nat),lastLe f t (l ++ [k]) i a=if rCmp (f k) t≤0 then i+l.length else lastLe f t l i a:=by
 intro l
 induction l with
 | nil=>intro i a;simp [lastLe]
 | cons b l ih =>
  intro i a
  simp only [List.cons_append,lastLe,List.length_cons]
  rw [ih]
  split
  ·omega
  ·rfl
theorem lastLe_le (f:Kn → Rt) (t:Rt):∀ (l:List Kn) (i a:Nat),a≤i → l≠[] ∨ a<i → lastLe f t l i a<i+l.length:=by
 intro l
 induction l with
 | nil=>intro i a h1 h2;simp [lastLe];rcases h2 with h|h;exact absurd rfl h;exact h
 | cons b l ih =>
  intro i a h1 h2
  simp only [lastLe,List.length_cons]
  have:=ih (i+1) (if rCmp (f b) t≤0 then i else a) (by split<;>omega) (.inr (by split<;>omega))
  omega
structure MapA (w:World) (p:Nat) (ak as_:Addr) (ck cs:Nat) (m:MapV):Prop where
 blk:w.heap[p]?=some (.cells #[.slice (some ak) m.knots.length ck,.slice (some as_) m.slopes.length cs,.int .i64 m.bends] 70 (0,0))
 kn:KnA w ak m.knots
 sl:RtA w as_ m.slopes
 cp:m.knots.length≤ck∧ck≤maxLen
theorem MapA.below {w w':World} {p:Nat} {ak as_:Addr} {ck cs:Nat} {m:MapV} (h:MapA w p ak as_ ck cs m) (hb:Below w.heap.size w w'):MapA w' p ak as_ ck cs m:=⟨Hand.kb hb h.blk,h.kn.below hb,h.sl.below hb,h.cp⟩
structure MapOk (m:MapV):Prop where
 kr:KnR m.knots
 kq:∀ k ∈ m.knots,rRight k.1=true∧rRight k.2=true
 k0:0<m.knots.length
 k1:m.knots.length≤66
 s0:0<m.slopes.length
 s1:m.slopes.length≤64
 sr:∀ s ∈ m.slopes,R64 s
theorem piece_any (p:Nat) (ak as_:Addr) (ck cs:Nat) (m:MapV) (F:FuncId) (f:Kn → Rt) (t:Rt) (w:World) (hm:MapA w p ak as_ ck cs m) (ho:MapOk m) (hen:Ent F)
  (hf:∀ k w,Calls Try.prog F #[kv k] w fun e w'=>e = .returned (rv (f k))∧Below w.heap.size w w') (hfr:∀ k,f k=k.1 ∨ f k=k.2) (ht:R64 t) (htr:rRight t=true) :
  Calls Try.prog 46 #[.pointer (some ⟨p,0,none⟩),rv t,fnv F] w fun e w'=>e = .returned (.tuple #[kv (m.knot (m.at f t)),rv (m.slope (m.at f t))])∧Below w.heap.size w w':=by
 obtain ⟨c0,f0,c1,f1,c2,f2⟩:=Hand.hc3 hm.blk
 obtain ⟨z0,z1,z2,y0,y1⟩:=Hand.hz hm.blk
 have y2:(p=w.heap.size+1+1)=False:=eq_false (by omega)
 obtain ⟨n,hn⟩:∃ n,m.knots.length=n:=⟨_,rfl⟩
 rw [hn] at c0
 have HN:=Lib.hid hn
 have HM:=Lib.hid hm
 have HO:=Lib.hid ho
 have HF:=Lib.hid hf
 have HFR:=Lib.hid hfr
 have HT:=Lib.hid ht
 have HTR:=Lib.hid htr
 have n1:n≤66:=by have:=ho.k1;omega
 have n0:0<n:=by have:=ho.k0;omega
 clear hm ho hf hfr ht htr hn
 go_enter Try.func46,Try.ntmps46
 go_wp2_with fail
 obtain ⟨W,hW⟩:∃ W_,W_=(((w.alloc (.cells #[.int .i64 t.1,.int .i64 t.2] 31)).alloc (.cells #[.int .i64 0,.int .i64 0,.int .i64 0,.int .i64 0] 35)).alloc (.cells #[.int .i64 0,.int .i64 0] 31)):=⟨_,rfl⟩
 rw [← hW]
 have gT:W.heap[w.heap.size]?=some (.cells #[.int .i64 t.1,.int .i64 t.2] 31 (0,0)):=by rw [hW];simp (disch:=try exact Hand.z) only [Hand.q4,Hand.q3]
 have gK:W.heap[w.heap.size+1]?=some (.cells #[.int .i64 0,.int .i64 0,.int .i64 0,.int .i64 0] 35 (0,0)):=by rw [hW];simp (disch:=try exact Hand.z) only [Hand.q4,Hand.q3]
 have gR:W.heap[w.heap.size+1+1]?=some (.cells #[.int .i64 0,.int .i64 0] 31 (0,0)):=by rw [hW];simp (disch:=try exact Hand.z) only [Hand.q4,Hand.q3]
 have hB:Below w.heap.size w W:=by rw [hW];repeat (first|exact Below.refl _ _|refine Below.alloc ?_ Hand.z _)
 have hsz:w.heap.size+3≤W.heap.size:=by rw [hW];simp only [World.size_alloc];omega
 clear hW c0 f0 c1 f1 c2 f2 z0 z1 z2 y0 y1 y2
 have GT:=Lib.hid gT
 have GK:=Lib.hid gK
 have GR:=Lib.hid gR
 have HB:=Lib.hid hB
 clear gT gK gR hB
 go_loopw [8,16] (fun a i wr=>∃ j:Nat,j≤n∧i = .int .i64 j∧a = .int .i64 ((lastLe f t (m.knots.take j) 0 0:Nat):Int)∧Below W.heap.size W wr) (fun _ i _=>n - (intOf i).toNat)
 case atStart=>exact ⟨0,Nat.zero_le _,rfl,rfl,Below.refl _ _⟩
 case round =>
  obtain ⟨j,hj,rfl,rfl,hBr⟩:=hrel
  obtain ⟨av,hav⟩:∃ av,lastLe f t (m.knots.take j) 0 0=av:=⟨_,rfl⟩
  rw [hav]
  have HAV:=Lib.hid hav
  clear hav
  by_cases hjn:j<n
  ·have p1:((j:Int)<(n:Int))=True:=eq_true (by omega)
   have p2:(j<n)=True:=eq_true hjn
   have hjl:j<m.knots.length:=by rw [HN.out];exact hjn
   have hBw:=HB.out.trans (Below.mono hBr (by omega))
   obtain ⟨c0,c1,c2,c3⟩:=((HM.out.below HB.out).kn.below hBr) j hjl
   obtain ⟨t0,ft0,t1,ft1⟩:=Hand.hc2 (Hand.kb hBr GT.out)
   obtain ⟨tz0,tz1,tz2,ty0,ty1⟩:=Hand.hz (Hand.kb hBr GT.out)
   obtain ⟨k,hk⟩:∃ k,m.knots[j]=k:=⟨_,rfl⟩
   rw [hk] at c0 c1 c2 c3
   have HKJ:=Lib.hid hk
   clear hk
   have hkm:k ∈ m.knots:=by rw [← HKJ.out];exact List.getElem_mem hjl
   have hfR:R64 (f k)∧rRight (f k)=true:=by
    have a:=HO.out.kr k hkm
    have b:=HO.out.kq k hkm
    rcases HFR.out k with h|h<;>rw [h]
    ·exact ⟨a.1,b.1⟩
    ·exact ⟨a.2,b.2⟩
   have mc:=Lib.hid (fun w=>cmp_k (f k) t w hfR.1 HT.out hfR.2 HTR.out)
   obtain ⟨q,hq⟩:∃ q,rCmp (f k) t=q:=⟨_,rfl⟩
   rw [hq] at mc
   have HQ:=Lib.hid hq
   obtain ⟨x,hx⟩:∃ x,f k=x:=⟨_,rfl⟩
   have mf:=Lib.hid (fun w=>HF.out k w)
   rw [hx] at mf mc
   clear hq hfR hkm
   go_wp2_with fail
   obtain ⟨V,hV⟩:∃ V_,V_=wr.alloc (.cells #[.int .i64 k.1.1,.int .i64 k.1.2,.int .i64 k.2.1,.int .i64 k.2.2] 35):=⟨_,rfl⟩
   rw [← hV]
   have hBV:Below W.heap.size W V:=by rw [hV];exact hBr.alloc hBr.size _
   have gk:V.heap[wr.heap.size]?=some (.cells #[.int .i64 k.1.1,.int .i64 k.1.2,.int .i64 k.2.1,.int .i64 k.2.2] 35 (0,0)):=by rw [hV];exact Hand.q3 _ _ _ rfl
   clear hV
   obtain ⟨d0,e0,d1,e1,d2,e2,d3,e3⟩:=Hand.hc4 gk
   obtain ⟨u0,v0,u1,v1⟩:=Hand.hc2 (Hand.kb hBV GT.out)
   have zk:=(Hand.hz gk).1
   have zt:=(Hand.hz (Hand.kb hBV GT.out)).1
   have KEEP:=Lib.hid (fun (w_:World) (h:Below V.heap.size V w_)=>(⟨h,(Below.cell h (p:=⟨wr.heap.size,0,none⟩) zk).trans d0,(Below.cell h (p:=⟨wr.heap.size,1,none⟩) zk).trans d1,(Below.cell h (p:=⟨wr.heap.size,2,none⟩) zk).trans d2,(Below.cell h (p:=⟨wr.heap.size,3,none⟩) zk).trans d3,(Below.cell h (p:=⟨w.heap.size,0,none⟩) zt).trans u0,(Below.cell h (p:=⟨w.heap.size,1,none⟩) zt).trans u1⟩:Below V.heap.size V w_∧w_.cell? ⟨wr.heap.size,0,none⟩=some (.int .i64 k.1.1)∧w_.cell? ⟨wr.heap.size,1,none⟩=some (.int .i64 k.1.2)∧w_.cell? ⟨wr.heap.size,2,none⟩=some (.int .i64 k.2.1)∧w_.cell? ⟨wr.heap.size,3,none⟩=some (.int .i64 k.2.2)∧w_.cell? ⟨w.heap.size,0,none⟩=some (.int .i64 t.1)∧w_.cell? ⟨w.heap.size,1,none⟩=some (.int .i64 t.2)))
   have BR:Below V.heap.size V V:=Below.refl _ _
   clear gk c0 c1 c2 c3 t0 ft0 t1 ft1 tz0 tz1 tz2 ty0 ty1
   go_region_held3 (fun w_=>Below V.heap.size V w_∧w_.cell? ⟨wr.heap.size,0,none⟩=some (.int .i64 k.1.1)∧w_.cell? ⟨wr.heap.size,1,none⟩=some (.int .i64 k.1.2)∧w_.cell? ⟨wr.heap.size,2,none⟩=some (.int .i64 k.2.1)∧w_.cell? ⟨wr.heap.size,3,none⟩=some (.int .i64 k.2.2)∧w_.cell? ⟨w.heap.size,0,none⟩=some (.int .i64 t.1)∧w_.cell? ⟨w.heap.size,1,none⟩=some (.int .i64 t.2)) (first|(refine KEEP.out _ ?_;repeat (with_reducible first|assumption|apply Below.drew))) (first|(go_at_fn F;((with_reducible refine (mf.out _).mono ?_);rintro e w4 ⟨rfl,hb4⟩;have BB:Below V.heap.size V w4:=Hand.stepB hb4 (by repeat (with_reducible first|assumption|apply Below.drew)) (Nat.le_refl _)))|(go_at_call 18;((with_reducible refine (mc.out _).mono ?_);rintro e w5 ⟨rfl,hb5⟩;have BB:Below V.heap.size V w5:=Hand.stepB hb5 (by repeat (with_reducible first|assumption|apply Below.drew)) (Nat.le_refl _))))
   have hB5:Below W.heap.size W w5:=Below.trans hBV (Below.mono BB hBV.size)
   have HAT:=Lib.hid (show lastLe f t (m.knots.take (j+1)) 0 0=if q≤0 then j else av from by
    rw [List.take_succ_eq_append_getElem hjl,lastLe_snoc,HKJ.out,HQ.out,HAV.out,List.length_take,Nat.min_eq_left (by omega),Nat.zero_add])
   clear BR BB d0 e0 d1 e1 d2 e2 d3 e3 u0 v0 u1 v1 zk zt
   by_cases hq0:q≤0
   ·have k1:(q≤0)=True:=eq_true hq0
    go_wp2
    go_roundw
    case rel=>exact ⟨j+1,by omega,by rw [Int.natCast_add];rfl,by rw [HAT.out,if_pos hq0],hB5⟩
    case measure=>simp [intOf];omega
   ·have k1:(q≤0)=False:=eq_false hq0
    go_wp2
    go_roundw
    case rel=>exact ⟨j+1,by omega,by rw [Int.natCast_add];rfl,by rw [HAT.out,if_neg hq0],hB5⟩
    case measure=>simp [intOf];omega
  ·have p1:((j:Int)<(n:Int))=False:=eq_false (by omega)
   have p2:(j<n)=False:=eq_false hjn
   have HAT:=Lib.hid (show m.at f t=av from by have:=HAV.out;rw [List.take_of_length_le (by rw [HN.out];omega)] at this;exact this)
   have hlt:av<n:=by
    have:=lastLe_le f t m.knots 0 0 (Nat.le_refl _) (.inl (by intro e;rw [← HN.out,e] at n0;simp at n0))
    have h2:=HAT.out
    unfold MapV.at at h2
    rw [h2,HN.out] at this
    omega
   have hal:av<m.knots.length:=by rw [HN.out];exact hlt
   obtain ⟨k,hk⟩:∃ k,m.knots[av]=k:=⟨_,rfl⟩
   have HKN:=Lib.hid (show m.knot (m.at f t)=k from by unfold MapV.knot;rw [HAT.out,List.getD_eq_getElem?_getD,List.getElem?_eq_getElem hal];exact hk)
   have hBw:Below w.heap.size w wr:=HB.out.trans (Below.mono hBr (by omega))
   have a1:(0:Int)≤(av:Int):=by omega
   have a2:((av:Int)<(n:Int))=True:=eq_true (by omega)
   have a3:(av<n)=True:=eq_true hlt
   have KEEP:=Lib.hid (fun (w_:World) (h:Below w.heap.size w w_)=>(by
    have hm:=HM.out.below h
    obtain ⟨c0,_⟩:=Hand.hc3 hm.blk
    rw [HN.out] at c0
    obtain ⟨e0,e1,e2,e3⟩:=hm.kn av hal
    rw [hk] at e0 e1 e2 e3
    exact ⟨h,c0,e0,e1,e2,e3⟩:Below w.heap.size w w_∧w_.cell? ⟨p,0,none⟩=some (.slice (some ak) n ck)∧w_.cell? (ak.add (av*4))=some (.int .i64 k.1.1)∧w_.cell? ⟨(ak.add (av*4)).block,(ak.add (av*4)).off+1,none⟩=some (.int .i64 k.1.2)∧w_.cell? ⟨(ak.add (av*4)).block,(ak.add (av*4)).off+2,none⟩=some (.int .i64 k.2.1)∧w_.cell? ⟨(ak.add (av*4)).block,(ak.add (av*4)).off+3,none⟩=some (.int .i64 k.2.2)))
   obtain ⟨x0,fx0,x1,fx1,x2,fx2,x3,fx3⟩:=Hand.hc4 (Hand.kb hBr GK.out)
   obtain ⟨r0,fr0,r1,fr1⟩:=Hand.hc2 (Hand.kb hBr GR.out)
   have zr:=(Hand.hz (Hand.kb hBr GR.out)).1
   have SLP:=Lib.hid (fun (u:World) (h:Below w.heap.size w u)=>slope_any p _ as_ m.slopes.length cs _ av m.slopes u (HM.out.below h).blk (HM.out.below h).sl rfl HO.out.s0 HO.out.s1 (by omega))
   obtain ⟨sv,hsv⟩:∃ sv,m.slopes.getD (min av (m.slopes.length - 1)) (0,0)=sv:=⟨_,rfl⟩
   rw [hsv] at SLP
   have HSV:=Lib.hid (show m.slope (m.at f t)=sv from by unfold MapV.slope;rw [HAT.out];exact hsv)
   clear hsv hk
   go_wp2_with fail
   go_region_held3 (fun w_=>Below w.heap.size w w_∧w_.cell? ⟨p,0,none⟩=some (.slice (some ak) n ck)∧w_.cell? (ak.add (av*4))=some (.int .i64 k.1.1)∧w_.cell? ⟨(ak.add (av*4)).block,(ak.add (av*4)).off+1,none⟩=some (.int .i64 k.1.2)∧w_.cell? ⟨(ak.add (av*4)).block,(ak.add (av*4)).off+2,none⟩=some (.int .i64 k.2.1)∧w_.cell? ⟨(ak.add (av*4)).block,(ak.add (av*4)).off+3,none⟩=some (.int .i64 k.2.2)) (first|(refine KEEP.out _ ?_;repeat (with_reducible first|assumption|apply Below.drew|refine Below.setCell ?_ Hand.d _))) (first|(go_at_call 86;((with_reducible refine (SLP.out _ (by repeat (with_reducible first|assumption|apply Below.drew|refine Below.setCell ?_ Hand.d _))).mono ?_);rintro e w6 ⟨rfl,hb6⟩;have BB:Below w.heap.size w w6:=Hand.stepB hb6 (by repeat (with_reducible first|assumption|apply Below.drew|refine Below.setCell ?_ Hand.d _)) Hand.z;have g1:=Hand.kb hb6 (show _=some (.cells #[.int .i64 0,.int .i64 0,.int .i64 0,.int .i64 0] 35 (0,0)) from by first|exact Hand.kb hBr GK.out|(simp only [Hand.q5];exact Hand.kb hBr GK.out));have g2:=Hand.kb hb6 (show _=some (.cells #[.int .i64 0,.int .i64 0] 31 (0,0)) from by first|exact Hand.kb hBr GR.out|(simp only [Hand.q5];exact Hand.kb hBr GR.out));obtain ⟨xx0,fxx0,xx1,fxx1,xx2,fxx2,xx3,fxx3⟩:=Hand.hc4 g1;obtain ⟨rr0,frr0,rr1,frr1⟩:=Hand.hc2 g2)))
   go_wp2
   refine bodyPost_ret (results_cc rfl _ _ (w.heap.size+1) (w.heap.size+1+1) 35 31 #[.int .i64 k.1.1,.int .i64 k.1.2,.int .i64 k.2.1,.int .i64 k.2.2] #[.int .i64 sv.1,.int .i64 sv.2] (0,0) (0,0) _ _ rfl ?_ Try.underlying35 rfl (by kernel_rfl) rfl ?_ Try.underlying31 rfl (by kernel_rfl)) rfl ⟨by rw [HKN.out,HSV.out],?_⟩
   ·simp (disch:=try exact Hand.z) only [Hand.q1,Hand.q2,g1];rfl
   ·simp (disch:=try exact Hand.z) only [Hand.q1,Hand.q2,g2];rfl
   ·repeat (with_reducible first|exact BB|apply Below.drew|refine Below.setCell ?_ Hand.d _)
theorem side_app (k:Kn) (w:World):Calls Try.prog 47 #[kv k] w fun e w'=>e = .returned (rv k.1)∧Below w.heap.size w w':=by
 go_enter Try.func47,Try.ntmps47
 go_wp2
 refine bodyPost_ret (results_cell_row rfl _ _ (w.heap.size+1) 31 #[.int .i64 k.1.1,.int .i64 k.1.2] (0,0) _ rfl (Hand.q3 _ _ _ (by simp)) Try.underlying31 rfl (by kernel_rfl)) rfl ⟨rfl,?_⟩
 exact ((Below.refl _ _).alloc (Nat.le_refl _) _).alloc (by simp) _
theorem ent_app:Ent 47:=enters_of Try.func47 (by kernel_rfl) rfl
theorem app_bad (p:Nat) (t:Rt) (w:World) (ht:R64 t) (htr:rRight t=false) :
  Calls Try.prog 15 #[.pointer (some ⟨p,0,none⟩),rv t] w fun e w'=>e = .returned (.tuple #[.agg #[.int .i64 0,.int .i64 0],.int .i64 12])∧Below w.heap.size w w':=by
 have m1:=fun w=>right_k t w ht
 rw [htr] at m1
 have M1:=Lib.hid m1
 clear m1
 go_enter Try.func15,Try.ntmps15
 go_wp2_with fail
 with_reducible refine (M1.out _).mono ?_
 rintro e w1 ⟨rfl,hb1⟩
 have h_T:w1.heap[w.heap.size]?=some (.cells #[.int .i64 t.1,.int .i64 t.2] 31 (0,0)):=by
  exact Hand.kb hb1 Hand.k
 have h_R:w1.heap[w.heap.size+1]?=some (.cells #[.int .i64 0,.int .i64 0] 31 (0,0)):=by
  exact Hand.kb hb1 Hand.k
 have hB':Below w.heap.size w w1:=Hand.stepB hb1 Hand.b (Nat.le_refl _)
 clear hb1
 have g_T:=h_T
 have g_R:=h_R
 have hB:=hB'
 clear hB' h_T h_R
 obtain ⟨z_T,z1_T,z2_T,y0_T,y1_T⟩:=Hand.hz g_T
 obtain ⟨c_T_0,f_T_0,c_T_1,f_T_1⟩:=Hand.hc2 g_T
 obtain ⟨z_R,z1_R,z2_R,y0_R,y1_R⟩:=Hand.hz g_R
 obtain ⟨c_R_0,f_R_0,c_R_1,f_R_1⟩:=Hand.hc2 g_R
 have zw:w.heap.size≤w1.heap.size:=hB.size
 have HG:=Lib.hid (And.intro g_T (And.intro g_R (hB)))
 clear g_T g_R hB
 go_wp2
 obtain ⟨g_T,g_R,hB⟩:=HG.out
 refine bodyPost_ret (results_ct rfl _ _ (w.heap.size+1) 31 #[.int .i64 0,.int .i64 0] (0,0) _ rfl ?_ Try.underlying31 rfl (by kernel_rfl)) rfl ⟨rfl,?_⟩
 ·simp (disch:=omega) only [Hand.q1,Hand.q2,g_R];rfl
 ·repeat (with_reducible first|exact hB|apply Below.drew|refine Below.setCell ?_ Hand.d _)
theorem app_ok (p:Nat) (ak as_:Addr) (ck cs:Nat) (m:MapV) (t:Rt) (w:World) (hm:MapA w p ak as_ ck cs m) (ho:MapOk m) (ht:R64 t) (htr:rRight t=true) (k:Kn) (s:Rt) (hk:m.knot (m.at (·.1) t)=k) (hs:m.slope (m.at (·.1) t)=s)
  (x y z:Int) (m3:∀ w,Calls Try.prog 40 #[kv k,rv s,rv t] w fun e w'=>e = .returned (.tuple #[.agg #[.int .i64 x,.int .i64 y],.int .i64 z])∧Below w.heap.size w w') :
  Calls Try.prog 15 #[.pointer (some ⟨p,0,none⟩),rv t] w fun e w'=>e = .returned (.tuple #[.agg #[.int .i64 x,.int .i64 y],.int .i64 z])∧Below w.heap.size w w':=by
 have m1:=fun w=>right_k t w ht
 rw [htr] at m1
 have M1:=Lib.hid m1
 have M3:=Lib.hid m3
 have PC:=Lib.hid (fun (u:World) (h:Below w.heap.size w u)=>(by have:=piece_any p ak as_ ck cs m 47 (·.1) t u (hm.below h) ho ent_app side_app (fun k=>Or.inl rfl) ht htr;rw [hk,hs] at this;exact this:Calls Try.prog 46 #[.pointer (some ⟨p,0,none⟩),rv t,fnv 47] u fun e w'=>e = .returned (.tuple #[kv k,rv s])∧Below u.heap.size u w'))
 have HM:=Lib.hid hm
 clear m1 m3 hm hk hs
 go_enter Try.func15,Try.ntmps15
 go_wp2_with fail
 with_reducible refine (M1.out _).mono ?_
 rintro e w1 ⟨rfl,hb1⟩
 have h_T:w1.heap[w.heap.size]?=some (.cells #[.int .i64 t.1,.int .i64 t.2] 31 (0,0)):=by
  exact Hand.kb hb1 Hand.k
 have h_R:w1.heap[w.heap.size+1]?=some (.cells #[.int .i64 0,.int .i64 0] 31 (0,0)):=by
  exact Hand.kb hb1 Hand.k
 have hB':Below w.heap.size w w1:=Hand.stepB hb1 Hand.b (Nat.le_refl _)
 clear hb1
 have g_T:=h_T
 have g_R:=h_R
 have hB:=hB'
 clear hB' h_T h_R
 obtain ⟨z_T,z1_T,z2_T,y0_T,y1_T⟩:=Hand.hz g_T
 obtain ⟨c_T_0,f_T_0,c_T_1,f_T_1⟩:=Hand.hc2 g_T
 obtain ⟨z_R,z1_R,z2_R,y0_R,y1_R⟩:=Hand.hz g_R
 obtain ⟨c_R_0,f_R_0,c_R_1,f_R_1⟩:=Hand.hc2 g_R
 have zw:w.heap.size≤w1.heap.size:=hB.size
 have HG:=Lib.hid (And.intro g_T (And.intro g_R (hB)))
 clear g_T g_R hB
 go_wp2_with fail
 with_reducible refine (PC.out _ HG.out.2.2).mono ?_
 rintro e w2 ⟨rfl,hb2⟩
 obtain ⟨g_T,g_R,hB⟩:=HG.out
 have h_T:w2.heap[w.heap.size]?=some (.cells #[.int .i64 t.1,.int .i64 t.2] 31 (0,0)):=by
  refine Hand.kb hb2 ?_;first|with_reducible exact g_T|(simp (disch:=try exact Hand.z) only [Hand.q2,Hand.q1,Hand.q5,Hand.q6,Hand.q4,Hand.q3,g_T]<;>rfl)
 have h_R:w2.heap[w.heap.size+1]?=some (.cells #[.int .i64 0,.int .i64 0] 31 (0,0)):=by
  refine Hand.kb hb2 ?_;first|with_reducible exact g_R|(simp (disch:=try exact Hand.z) only [Hand.q2,Hand.q1,Hand.q5,Hand.q6,Hand.q4,Hand.q3,g_R]<;>rfl)
 have hB':Below w.heap.size w w2:=Hand.stepB hb2 Hand.b (Nat.le_refl _)
 clear HG hB g_T g_R zw z_T z1_T z2_T y0_T y1_T c_T_0 f_T_0 c_T_1 f_T_1 z_R z1_R z2_R y0_R y1_R c_R_0 f_R_0 c_R_1 f_R_1
 clear hb2
 have g_T:=h_T
 have g_R:=h_R
 have hB:=hB'
 clear hB' h_T h_R
 obtain ⟨z_T,z1_T,z2_T,y0_T,y1_T⟩:=Hand.hz g_T
 obtain ⟨c_T_0,f_T_0,c_T_1,f_T_1⟩:=Hand.hc2 g_T
 obtain ⟨z_R,z1_R,z2_R,y0_R,y1_R⟩:=Hand.hz g_R
 obtain ⟨c_R_0,f_R_0,c_R_1,f_R_1⟩:=Hand.hc2 g_R
 have zw:w.heap.size≤w2.heap.size:=hB.size
 have HG:=Lib.hid (And.intro g_T (And.intro g_R (hB)))
 clear g_T g_R hB
 go_wp2_with fail
 with_reducible refine (M3.out _).mono ?_
 rintro e w3 ⟨rfl,hb3⟩
 obtain ⟨g_T,g_R,hB⟩:=HG.out
 have h_T:w3.heap[w.heap.size]?=some (.cells #[.int .i64 t.1,.int .i64 t.2] 31 (0,0)):=by
  refine Hand.kb hb3 ?_;first|with_reducible exact g_T|(simp (disch:=try exact Hand.z) only [Hand.q2,Hand.q1,Hand.q5,Hand.q6,Hand.q4,Hand.q3,g_T]<;>rfl)
 have h_R:w3.heap[w.heap.size+1]?=some (.cells #[.int .i64 0,.int .i64 0] 31 (0,0)):=by
  refine Hand.kb hb3 ?_;first|with_reducible exact g_R|(simp (disch:=try exact Hand.z) only [Hand.q2,Hand.q1,Hand.q5,Hand.q6,Hand.q4,Hand.q3,g_R]<;>rfl)
 have h_K:w3.heap[w2.heap.size]?=some (.cells #[.int .i64 k.1.1,.int .i64 k.1.2,.int .i64 k.2.1,.int .i64 k.2.2] 35 (0,0)):=by
  exact Hand.kb hb3 Hand.k
 have h_L:w3.heap[w2.heap.size+1]?=some (.cells #[.int .i64 s.1,.int .i64 s.2] 31 (0,0)):=by
  exact Hand.kb hb3 Hand.k
 have hB':Below w.heap.size w w3:=Hand.stepB hb3 Hand.b (Nat.le_refl _)
 clear HG hB g_T g_R zw z_T z1_T z2_T y0_T y1_T c_T_0 f_T_0 c_T_1 f_T_1 z_R z1_R z2_R y0_R y1_R c_R_0 f_R_0 c_R_1 f_R_1
 clear hb3
 have g_T:=h_T
 have g_R:=h_R
 have g_K:=h_K
 have g_L:=h_L
 have hB:=hB'
 clear hB' h_T h_R h_K h_L
 obtain ⟨z_T,z1_T,z2_T,y0_T,y1_T⟩:=Hand.hz g_T
 obtain ⟨c_T_0,f_T_0,c_T_1,f_T_1⟩:=Hand.hc2 g_T
 obtain ⟨z_R,z1_R,z2_R,y0_R,y1_R⟩:=Hand.hz g_R
 obtain ⟨c_R_0,f_R_0,c_R_1,f_R_1⟩:=Hand.hc2 g_R
 obtain ⟨z_K,z1_K,z2_K,y0_K,y1_K⟩:=Hand.hz g_K
 obtain ⟨c_K_0,f_K_0,c_K_1,f_K_1,c_K_2,f_K_2,c_K_3,f_K_3⟩:=Hand.hc4 g_K
 obtain ⟨z_L,z1_L,z2_L,y0_L,y1_L⟩:=Hand.hz g_L
 obtain ⟨c_L_0,f_L_0,c_L_1,f_L_1⟩:=Hand.hc2 g_L
 have zw:w.heap.size≤w3.heap.size:=hB.size
 have HG:=Lib.hid (And.intro g_T (And.intro g_R (And.intro g_K (And.intro g_L (hB)))))
 clear g_T g_R g_K g_L hB
 go_wp2
 obtain ⟨g_T,g_R,g_K,g_L,hB⟩:=HG.out
 refine bodyPost_ret (results_ct rfl _ _ (w.heap.size+1) 31 #[.int .i64 x,.int .i64 y] (0,0) _ rfl ?_ Try.underlying31 rfl (by kernel_rfl)) rfl ⟨rfl,?_⟩
 ·simp (disch:=omega) only [Hand.q1,Hand.q2,g_R];rfl
 ·repeat (with_reducible first|exact hB|apply Below.drew|refine Below.setCell ?_ Hand.d _)
theorem side_undo (k:Kn) (w:World):Calls Try.prog 68 #[kv k] w fun e w'=>e = .returned (rv k.2)∧Below w.heap.size w w':=by
 go_enter Try.func68,Try.ntmps68
 go_wp2
 refine bodyPost_ret (results_cell_row rfl _ _ (w.heap.size+1) 31 #[.int .i64 k.2.1,.int .i64 k.2.2] (0,0) _ rfl (Hand.q3 _ _ _ (by simp)) Try.underlying31 rfl (by kernel_rfl)) rfl ⟨rfl,?_⟩
 exact ((Below.refl _ _).alloc (Nat.le_refl _) _).alloc (by simp) _
theorem ent_undo:Ent 68:=enters_of Try.func68 (by kernel_rfl) rfl
theorem undo_bad (p:Nat) (t:Rt) (w:World) (ht:R64 t) (htr:rRight t=false) :
  Calls Try.prog 31 #[.pointer (some ⟨p,0,none⟩),rv t] w fun e w'=>e = .returned (.tuple #[.agg #[.int .i64 0,.int .i64 0],.int .i64 12])∧Below w.heap.size w w':=by
 have m1:=fun w=>right_k t w ht
 rw [htr] at m1
 have M1:=Lib.hid m1
 clear m1
 go_enter Try.func31,Try.ntmps31
 go_wp2_with fail
 with_reducible refine (M1.out _).mono ?_
 rintro e w1 ⟨rfl,hb1⟩
 have h_T:w1.heap[w.heap.size]?=some (.cells #[.int .i64 t.1,.int .i64 t.2] 31 (0,0)):=by
  exact Hand.kb hb1 Hand.k
 have h_R:w1.heap[w.heap.size+1]?=some (.cells #[.int .i64 0,.int .i64 0] 31 (0,0)):=by
  exact Hand.kb hb1 Hand.k
 have hB':Below w.heap.size w w1:=Hand.stepB hb1 Hand.b (Nat.le_refl _)
 clear hb1
 have g_T:=h_T
 have g_R:=h_R
 have hB:=hB'
 clear hB' h_T h_R
 obtain ⟨z_T,z1_T,z2_T,y0_T,y1_T⟩:=Hand.hz g_T
 obtain ⟨c_T_0,f_T_0,c_T_1,f_T_1⟩:=Hand.hc2 g_T
 obtain ⟨z_R,z1_R,z2_R,y0_R,y1_R⟩:=Hand.hz g_R
 obtain ⟨c_R_0,f_R_0,c_R_1,f_R_1⟩:=Hand.hc2 g_R
 have zw:w.heap.size≤w1.heap.size:=hB.size
 have HG:=Lib.hid (And.intro g_T (And.intro g_R (hB)))
 clear g_T g_R hB
 go_wp2
 obtain ⟨g_T,g_R,hB⟩:=HG.out
 refine bodyPost_ret (results_ct rfl _ _ (w.heap.size+1) 31 #[.int .i64 0,.int .i64 0] (0,0) _ rfl ?_ Try.underlying31 rfl (by kernel_rfl)) rfl ⟨rfl,?_⟩
 ·simp (disch:=omega) only [Hand.q1,Hand.q2,g_R];rfl
 ·repeat (with_reducible first|exact hB|apply Below.drew|refine Below.setCell ?_ Hand.d _)
theorem undo_ok (p:Nat) (ak as_:Addr) (ck cs:Nat) (m:MapV) (t:Rt) (w:World) (hm:MapA w p ak as_ ck cs m) (ho:MapOk m) (ht:R64 t) (htr:rRight t=true) (k:Kn) (s:Rt) (hk:m.knot (m.at (·.2) t)=k) (hs:m.slope (m.at (·.2) t)=s)
  (x y z:Int) (m3:∀ w,Calls Try.prog 69 #[kv k,rv s,rv t] w fun e w'=>e = .returned (.tuple #[.agg #[.int .i64 x,.int .i64 y],.int .i64 z])∧Below w.heap.size w w') :
  Calls Try.prog 31 #[.pointer (some ⟨p,0,none⟩),rv t] w fun e w'=>e = .returned (.tuple #[.agg #[.int .i64 x,.int .i64 y],.int .i64 z])∧Below w.heap.size w w':=by
 have m1:=fun w=>right_k t w ht
 rw [htr] at m1
 have M1:=Lib.hid m1
 have M3:=Lib.hid m3
 have PC:=Lib.hid (fun (u:World) (h:Below w.heap.size w u)=>(by have:=piece_any p ak as_ ck cs m 68 (·.2) t u (hm.below h) ho ent_undo side_undo (fun k=>Or.inr rfl) ht htr;rw [hk,hs] at this;exact this:Calls Try.prog 46 #[.pointer (some ⟨p,0,none⟩),rv t,fnv 68] u fun e w'=>e = .returned (.tuple #[kv k,rv s])∧Below u.heap.size u w'))
 have HM:=Lib.hid hm
 clear m1 m3 hm hk hs
 go_enter Try.func31,Try.ntmps31
 go_wp2_with fail
 with_reducible refine (M1.out _).mono ?_
 rintro e w1 ⟨rfl,hb1⟩
 have h_T:w1.heap[w.heap.size]?=some (.cells #[.int .i64 t.1,.int .i64 t.2] 31 (0,0)):=by
  exact Hand.kb hb1 Hand.k
 have h_R:w1.heap[w.heap.size+1]?=some (.cells #[.int .i64 0,.int .i64 0] 31 (0,0)):=by
  exact Hand.kb hb1 Hand.k
 have hB':Below w.heap.size w w1:=Hand.stepB hb1 Hand.b (Nat.le_refl _)
 clear hb1
 have g_T:=h_T
 have g_R:=h_R
 have hB:=hB'
 clear hB' h_T h_R
 obtain ⟨z_T,z1_T,z2_T,y0_T,y1_T⟩:=Hand.hz g_T
 obtain ⟨c_T_0,f_T_0,c_T_1,f_T_1⟩:=Hand.hc2 g_T
 obtain ⟨z_R,z1_R,z2_R,y0_R,y1_R⟩:=Hand.hz g_R
 obtain ⟨c_R_0,f_R_0,c_R_1,f_R_1⟩:=Hand.hc2 g_R
 have zw:w.heap.size≤w1.heap.size:=hB.size
 have HG:=Lib.hid (And.intro g_T (And.intro g_R (hB)))
 clear g_T g_R hB
 go_wp2_with fail
 with_reducible refine (PC.out _ HG.out.2.2).mono ?_
 rintro e w2 ⟨rfl,hb2⟩
 obtain ⟨g_T,g_R,hB⟩:=HG.out
 have h_T:w2.heap[w.heap.size]?=some (.cells #[.int .i64 t.1,.int .i64 t.2] 31 (0,0)):=by
  refine Hand.kb hb2 ?_;first|with_reducible exact g_T|(simp (disch:=try exact Hand.z) only [Hand.q2,Hand.q1,Hand.q5,Hand.q6,Hand.q4,Hand.q3,g_T]<;>rfl)
 have h_R:w2.heap[w.heap.size+1]?=some (.cells #[.int .i64 0,.int .i64 0] 31 (0,0)):=by
  refine Hand.kb hb2 ?_;first|with_reducible exact g_R|(simp (disch:=try exact Hand.z) only [Hand.q2,Hand.q1,Hand.q5,Hand.q6,Hand.q4,Hand.q3,g_R]<;>rfl)
 have hB':Below w.heap.size w w2:=Hand.stepB hb2 Hand.b (Nat.le_refl _)
 clear HG hB g_T g_R zw z_T z1_T z2_T y0_T y1_T c_T_0 f_T_0 c_T_1 f_T_1 z_R z1_R z2_R y0_R y1_R c_R_0 f_R_0 c_R_1 f_R_1
 clear hb2
 have g_T:=h_T
 have g_R:=h_R
 have hB:=hB'
 clear hB' h_T h_R
 obtain ⟨z_T,z1_T,z2_T,y0_T,y1_T⟩:=Hand.hz g_T
 obtain ⟨c_T_0,f_T_0,c_T_1,f_T_1⟩:=Hand.hc2 g_T
 obtain ⟨z_R,z1_R,z2_R,y0_R,y1_R⟩:=Hand.hz g_R
 obtain ⟨c_R_0,f_R_0,c_R_1,f_R_1⟩:=Hand.hc2 g_R
 have zw:w.heap.size≤w2.heap.size:=hB.size
 have HG:=Lib.hid (And.intro g_T (And.intro g_R (hB)))
 clear g_T g_R hB
 go_wp2_with fail
 with_reducible refine (M3.out _).mono ?_
 rintro e w3 ⟨rfl,hb3⟩
 obtain ⟨g_T,g_R,hB⟩:=HG.out
 have h_T:w3.heap[w.heap.size]?=some (.cells #[.int .i64 t.1,.int .i64 t.2] 31 (0,0)):=by
  refine Hand.kb hb3 ?_;first|with_reducible exact g_T|(simp (disch:=try exact Hand.z) only [Hand.q2,Hand.q1,Hand.q5,Hand.q6,Hand.q4,Hand.q3,g_T]<;>rfl)
 have h_R:w3.heap[w.heap.size+1]?=some (.cells #[.int .i64 0,.int .i64 0] 31 (0,0)):=by
  refine Hand.kb hb3 ?_;first|with_reducible exact g_R|(simp (disch:=try exact Hand.z) only [Hand.q2,Hand.q1,Hand.q5,Hand.q6,Hand.q4,Hand.q3,g_R]<;>rfl)
 have h_K:w3.heap[w2.heap.size]?=some (.cells #[.int .i64 k.1.1,.int .i64 k.1.2,.int .i64 k.2.1,.int .i64 k.2.2] 35 (0,0)):=by
  exact Hand.kb hb3 Hand.k
 have h_L:w3.heap[w2.heap.size+1]?=some (.cells #[.int .i64 s.1,.int .i64 s.2] 31 (0,0)):=by
  exact Hand.kb hb3 Hand.k
 have hB':Below w.heap.size w w3:=Hand.stepB hb3 Hand.b (Nat.le_refl _)
 clear HG hB g_T g_R zw z_T z1_T z2_T y0_T y1_T c_T_0 f_T_0 c_T_1 f_T_1 z_R z1_R z2_R y0_R y1_R c_R_0 f_R_0 c_R_1 f_R_1
 clear hb3
 have g_T:=h_T
 have g_R:=h_R
 have g_K:=h_K
 have g_L:=h_L
 have hB:=hB'
 clear hB' h_T h_R h_K h_L
 obtain ⟨z_T,z1_T,z2_T,y0_T,y1_T⟩:=Hand.hz g_T
 obtain ⟨c_T_0,f_T_0,c_T_1,f_T_1⟩:=Hand.hc2 g_T
 obtain ⟨z_R,z1_R,z2_R,y0_R,y1_R⟩:=Hand.hz g_R
 obtain ⟨c_R_0,f_R_0,c_R_1,f_R_1⟩:=Hand.hc2 g_R
 obtain ⟨z_K,z1_K,z2_K,y0_K,y1_K⟩:=Hand.hz g_K
 obtain ⟨c_K_0,f_K_0,c_K_1,f_K_1,c_K_2,f_K_2,c_K_3,f_K_3⟩:=Hand.hc4 g_K
 obtain ⟨z_L,z1_L,z2_L,y0_L,y1_L⟩:=Hand.hz g_L
 obtain ⟨c_L_0,f_L_0,c_L_1,f_L_1⟩:=Hand.hc2 g_L
 have zw:w.heap.size≤w3.heap.size:=hB.size
 have HG:=Lib.hid (And.intro g_T (And.intro g_R (And.intro g_K (And.intro g_L (hB)))))
 clear g_T g_R g_K g_L hB
 go_wp2
 obtain ⟨g_T,g_R,g_K,g_L,hB⟩:=HG.out
 refine bodyPost_ret (results_ct rfl _ _ (w.heap.size+1) 31 #[.int .i64 x,.int .i64 y] (0,0) _ rfl ?_ Try.underlying31 rfl (by kernel_rfl)) rfl ⟨rfl,?_⟩
 ·simp (disch:=omega) only [Hand.q1,Hand.q2,g_R];rfl
 ·repeat (with_reducible first|exact hB|apply Below.drew|refine Below.setCell ?_ Hand.d _)
theorem app_ (m:MapV) (ho:MapOk m) (f:Kn → Rt) (t:Rt):R64 (m.knot (m.at f t)).1∧R64 (m.knot (m.at f t)).2∧R64 (m.slope (m.at f t)):=by
 have hk:m.knot (m.at f t) ∈ m.knots:=by
  have h:=lastLe_le f t m.knots 0 0 (Nat.le_refl _) (.inl (by intro e;have:=ho.k0;rw [e] at this;exact absurd this (Nat.lt_irrefl _)))
  unfold MapV.knot MapV.at
  rw [Nat.zero_add] at h
  rw [List.getD_eq_getElem?_getD,List.getElem?_eq_getElem h]
  exact List.getElem_mem h
 have hs:m.slope (m.at f t) ∈ m.slopes:=by
  have h:min (m.at f t) (m.slopes.length - 1)<m.slopes.length:=by have:=ho.s0;omega
  unfold MapV.slope
  rw [List.getD_eq_getElem?_getD,List.getElem?_eq_getElem h]
  exact List.getElem_mem h
 exact ⟨(ho.kr _ hk).1,(ho.kr _ hk).2,ho.sr _ hs⟩
theorem app_any (p:Nat) (ak as_:Addr) (ck cs:Nat) (m:MapV) (t:Rt) (w:World) (hm:MapA w p ak as_ ck cs m) (ho:MapOk m) (ht:R64 t) :
  Calls Try.prog 15 #[.pointer (some ⟨p,0,none⟩),rv t] w fun e w'=>e = .returned (.tuple #[rv (m.app t).1,.int .i64 (m.app t).2])∧Below w.heap.size w w':=by
 obtain ⟨h1,h2,h3⟩:=app_ m ho (·.1) t
 unfold MapV.app
 cases h:rRight t
 ·rw [if_neg (by decide)];exact app_bad p t w ht h
 ·rw [if_pos rfl]
  exact app_ok p ak as_ ck cs m t w hm ho ht h _ _ rfl rfl _ _ _ (fun w=>along_any _ _ _ w h1 h2 h3 ht)
theorem undo_any (p:Nat) (ak as_:Addr) (ck cs:Nat) (m:MapV) (t:Rt) (w:World) (hm:MapA w p ak as_ ck cs m) (ho:MapOk m) (ht:R64 t) :
  Calls Try.prog 31 #[.pointer (some ⟨p,0,none⟩),rv t] w fun e w'=>e = .returned (.tuple #[rv (m.undo t).1,.int .i64 (m.undo t).2])∧Below w.heap.size w w':=by
 obtain ⟨h1,h2,h3⟩:=app_ m ho (·.2) t
 unfold MapV.undo
 cases h:rRight t
 ·rw [if_neg (by decide)];exact undo_bad p t w ht h
 ·rw [if_pos rfl]
  exact undo_ok p ak as_ ck cs m t w hm ho ht h _ _ rfl rfl _ _ _ (fun w=>back_any _ _ _ w h1 h2 h3 ht)
def flatT (l:List Rt):List Value:=l.flatMap fun r=>[.int .i64 r.1,.int .i64 r.2]
def flatK (l:List Kn):List Value:=l.flatMap fun k=>[.int .i64 k.1.1,.int .i64 k.1.2,.int .i64 k.2.1,.int .i64 k.2.2]
theorem flatT_len (l:List Rt):(flatT l).length=l.length*2:=by
 induction l with
 | nil=>rfl
 | cons r l ih=>simp only [flatT,List.flatMap_cons,List.length_append,List.length_cons,List.length_nil] at ih ⊢;omega
theorem flatK_len (l:List Kn):(flatK l).length=l.length*4:=by
 induction l with
 | nil=>rfl
 | cons r l ih=>simp only [flatK,List.flatMap_cons,List.length_append,List.length_cons,List.length_nil] at ih ⊢;omega
theorem flatT_snoc (l:List Rt) (r:Rt):flatT (l ++ [r])=flatT l ++ [.int .i64 r.1,.int .i64 r.2]:=by simp [flatT]
theorem flatK_snoc (l:List Kn) (k:Kn):flatK (l ++ [k])=flatK l ++ [.int .i64 k.1.1,.int .i64 k.1.2,.int .i64 k.2.1,.int .i64 k.2.2]:=by simp [flatK]
theorem flatK_app (l m:List Kn):flatK (l ++ m)=flatK l ++ flatK m:=by simp [flatK]
theorem flatT_at (l:List Rt):∀ (j:Nat) (h:j<l.length),(flatT l)[j*2]?=some (.int .i64 l[j].1)∧(flatT l)[j*2+1]?=some (.int .i64 l[j].2):=by
 induction l with
 | nil=>intro j h;exact absurd h (Nat.not_lt_zero _)
 | cons r l ih =>
  intro j h
  have e:flatT (r :: l) = .int .i64 r.1 :: .int .i64 r.2 :: flatT l:=rfl
  rw [e]
  match j with
  | 0=>exact ⟨rfl,rfl⟩
  | j+1 =>
   have:=ih j (by simpa using h)
   rw [show (j+1)*2=j*2+1+1 by omega]
   exact this
theorem flatK_at (l:List Kn):∀ (j:Nat) (h:j<l.length),(flatK l)[j*4]?=some (.int .i64 l[j].1.1)∧(flatK l)[j*4+1]?=some (.int .i64 l[j].1.2)∧(flatK l)[j*4+2]?=some (.int .i64 l[j].2.1)∧(flatK l)[j*4+3]?=some (.int .i64 l[j].2.2):=by
 induction l with
 | nil=>intro j h;exact absurd h (Nat.not_lt_zero _)
 | cons r l ih =>
  intro j h
  have e:flatK (r :: l) = .int .i64 r.1.1 :: .int .i64 r.1.2 :: .int .i64 r.2.1 :: .int .i64 r.2.2 :: flatK l:=rfl
  rw [e]
  match j with
  | 0=>exact ⟨rfl,rfl,rfl,rfl⟩
  | j+1 =>
   have:=ih j (by simpa using h)
   rw [show (j+1)*4=j*4+1+1+1+1 by omega]
   exact this
theorem flatK_one (l:List Kn):∀ u ∈ flatK l,u.oneCell'=true:=by
 intro u hu
 simp only [flatK,List.mem_flatMap,List.mem_cons,List.not_mem_nil,or_false] at hu
 obtain ⟨r,_,h|h|h|h⟩:=hu<;>rw [h]<;>rfl
theorem add0 (g j:Nat):(⟨g,0,none⟩:Addr).add j=⟨g,j,none⟩:=by unfold Addr.add;split<;>simp_all
theorem own_cell {w:World} {base n cap size g:Nat} {e:TypeId} {xs:List Value} (h:w.ownsRow base e size (.slice (some ⟨g,0,none⟩) n cap) n xs) (j:Nat) (u:Value) (hu:xs[j]?=some u):w.cell? ⟨g,j,none⟩=some u:=by
 rcases h.2 with ⟨h0,_⟩|⟨g',cap',cur,hv,hb,hg,hn,hm,hs,ht⟩
 ·cases h0
 ·cases hv
  rw [cell_of_row w g j cur e (0,0) hg]
  rw [← ht,List.getElem?_take] at hu
  split at hu
  ·rw [← hu];exact Array.getElem?_toList.symm
  ·cases hu
theorem own_rta {w:World} {base cap g:Nat} {e:TypeId} {l:List Rt} {n:Nat} (h:w.ownsRow base e 2 (.slice (some ⟨g,0,none⟩) n cap) n (flatT l)):RtA w ⟨g,0,none⟩ l:=fun j hj=>by
 obtain ⟨a,b⟩:=flatT_at l j hj
 rw [add0]
 exact ⟨own_cell h _ _ a,own_cell h _ _ b⟩
theorem own_cap {w:World} {base n cap size g:Nat} {e:TypeId} {xs:List Value} (h:w.ownsRow base e size (.slice (some ⟨g,0,none⟩) n cap) n xs):n≤cap∧cap≤maxLen:=by
 rcases h.2 with ⟨h0,_⟩|⟨g',cap',cur,hv,hb,hg,hn,hm,hs,ht⟩
 ·cases h0
 ·cases hv;exact ⟨hn,hm⟩
theorem own_kna {w:World} {base cap g:Nat} {e:TypeId} {l:List Kn} {n:Nat} (h:w.ownsRow base e 4 (.slice (some ⟨g,0,none⟩) n cap) n (flatK l)):KnA w ⟨g,0,none⟩ l:=fun j hj=>by
 obtain ⟨a,b,c,d⟩:=flatK_at l j hj
 rw [add0]
 exact ⟨own_cell h _ _ a,own_cell h _ _ b,own_cell h _ _ c,own_cell h _ _ d⟩
theorem own_keep {w w':World} {base size n:Nat} {e:TypeId} {v:Value} {xs:List Value} (h:w.ownsRow base e size v n xs) (hk:∀ k,v.ownBlock=some k → w'.heap[k]?=w.heap[k]?):w'.ownsRow base e size v n xs:=by
 refine ⟨h.1,?_⟩
 rcases h.2 with h0|⟨g,cap,cur,hv,hb,hg,r⟩
 ·exact .inl h0
 ·refine .inr ⟨g,cap,cur,hv,hb,?_,r⟩
  rw [hk g (by rw [hv];rfl)];exact hg
theorem own_base {w:World} {base b size n:Nat} {e:TypeId} {v:Value} {xs:List Value} (h:w.ownsRow base e size v n xs) (hb:b≤base):w.ownsRow b e size v n xs:=by
 refine ⟨h.1,?_⟩
 rcases h.2 with h0|⟨g,cap,cur,hv,hb',r⟩
 ·exact .inl h0
 ·exact .inr ⟨g,cap,cur,hv,Nat.le_trans hb hb',r⟩
theorem own_fx {w w':World} {g base size n:Nat} {e:TypeId} {v:Value} {xs:List Value} (h:w.ownsRow base e size v n xs) (hf:Fx g w w') (hg:g<base):w'.ownsRow base e size v n xs :=
 own_keep h fun k hk=>by
  have:=h.lt k hk
  exact hf.block k this.2 (by omega)
theorem own_below {w w':World} {base size n:Nat} {e:TypeId} {v:Value} {xs:List Value} (h:w.ownsRow base e size v n xs) (hb:Below w.heap.size w w'):w'.ownsRow base e size v n xs :=
 own_keep h fun k hk=>hb.block k (h.lt k hk).2
theorem Fx.grown {g:Nat} {a w w':World} {row:Option Nat} (h:Fx g a w) (hg:w.grownBy w' row) (hrow:∀ k,row=some k → a.heap.size≤k):Fx g a w' :=
 ⟨hg.os.trans h.os,hg.tape.trans h.tape,hg.output.trans h.output,Nat.le_trans h.size hg.size,
  fun i hi hne=>(hg.block i (Nat.lt_of_lt_of_le hi h.size) (fun e=>by have:=hrow i e.symm;omega)).trans (h.block i hi hne)⟩
theorem KnA.fx {w w':World} {g:Nat} {ad:Addr} {l:List Kn} (h:KnA w ad l) (hf:Fx g w w') (hg:w.heap.size≤g):KnA w' ad l:=h.below (hf.below (Below.refl _ _) hg (Nat.le_refl _))
theorem kna_flat {w:World} {ad:Addr} {l:List Kn} (h:KnA w ad l):∀ j u,(flatK l)[j]?=some u → w.cell? (ad.add j)=some u:=by
 intro j u hu
 have hl:j<l.length*4:=by rw [← flatK_len];exact (List.getElem?_eq_some_iff.1 hu).1
 have hq:j / 4<l.length:=by omega
 obtain ⟨a,b,c,d⟩:=flatK_at l (j / 4) hq
 obtain ⟨a',b',c',d'⟩:=h (j / 4) hq
 have ad1:∀ m i,(⟨(ad.add m).block,(ad.add m).off+(i+1),none⟩:Addr)=ad.add (m+(i+1)):=by
  intro m i
  unfold Addr.add
  by_cases hm:m=0
  ·subst hm;simp
  ·rw [if_neg hm,if_neg (by omega)];simp [Nat.add_assoc]
 rw [ad1 _ 0] at b'
 rw [ad1 _ 1] at c'
 rw [ad1 _ 2] at d'
 have hm:j % 4<4:=Nat.mod_lt _ (by decide)
 have hj:j=j / 4*4+j % 4:=by omega
 rcases (by omega:j % 4=0 ∨ j % 4=1 ∨ j % 4=2 ∨ j % 4=3) with h0|h0|h0|h0<;>rw [h0] at hj
 ·rw [hj] at hu ⊢;rw [Nat.add_zero] at hu ⊢;rw [a] at hu;cases hu;exact a'
 ·rw [hj] at hu ⊢;rw [b] at hu;cases hu;exact b'
 ·rw [hj] at hu ⊢;rw [c] at hu;cases hu;exact c'
 ·rw [hj] at hu ⊢;rw [d] at hu;cases hu;exact d'
theorem slpF_snoc (a b:Kn):∀ (l:List Kn) (e:Int),slpF (l ++ [a,b]) e=((slpF (l ++ [a]) e).1 ++ [(pieceS (slpF (l ++ [a]) e).2 a b).1],(pieceS (slpF (l ++ [a]) e).2 a b).2):=by
 intro l
 induction l with
 | nil=>intro e;rfl
 | cons x l ih =>
  intro e
  cases l with
  | nil=>rfl
  | cons y l =>
   have:=ih (pieceS e x y).2
   simp only [List.cons_append] at this ⊢
   simp only [slpF,this,List.cons_append]
theorem slpF_take (l:List Kn) (j:Nat) (h:j+1<l.length) (e:Int):slpF (l.take (j+2)) e=((slpF (l.take (j+1)) e).1 ++ [(pieceS (slpF (l.take (j+1)) e).2 l[j] l[j+1]).1],(pieceS (slpF (l.take (j+1)) e).2 l[j] l[j+1]).2):=by
 rw [List.take_succ_eq_append_getElem h,List.take_succ_eq_append_getElem (i:=j) (by omega)]
 have:=slpF_snoc l[j] l[j+1] (l.take j) e
 simp only [List.append_assoc,List.singleton_append] at this ⊢
 exact this
theorem slpF_len:∀ (l:List Kn) (e:Int),(slpF l e).1.length=l.length - 1
 | [],_=>rfl
 | [_],_=>rfl
 | k :: k' :: l,e=>by
  have:=slpF_len (k' :: l) (pieceS e k k').2
  simp only [slpF,List.length_cons] at this ⊢
  omega
theorem pieceS_R (e:Int) (k k':Kn):R64 (pieceS e k k').1:=by unfold pieceS;exact do_R div_R _ _ _
theorem slpF_R:∀ (l:List Kn) (e:Int),∀ s ∈ (slpF l e).1,R64 s
 | [],_=>fun s h=>absurd h (by simp [slpF])
 | [_],_=>fun s h=>absurd h (by simp [slpF])
 | k :: k' :: l,e=>by
  have:=slpF_R (k' :: l) (pieceS e k k').2
  intro s hs
  simp only [slpF,List.mem_cons] at hs
  rcases hs with rfl|hs
  ·exact pieceS_R _ _ _
  ·exact this s hs
theorem sls_many (ad:Addr) (l:List Kn) (n cap:Nat) (w:World) (hn:n=l.length) (hK:KnA w ad l) (hR:KnR l) (h0:2≤n) (h1:n≤66) :
  Calls Try.prog 38 #[.slice (some ad) n cap] w fun e w'=>∃ g c,e = .returned (.tuple #[.slice (some ⟨g,0,none⟩) (n - 1) c,.int .i64 (slpF l 0).2])∧w'.ownsRow w.heap.size 31 2 (.slice (some ⟨g,0,none⟩) (n - 1) c) (n - 1) (flatT (slpF l 0).1)∧Below w.heap.size w w':=by
 have b1:((n:Int) == 1)=false:=by simp;omega
 have b2:(n == 1)=false:=by simp;omega
 have HN:=Lib.hid hn
 have HK:=Lib.hid hK
 have HR:=Lib.hid hR
 clear hn hK hR
 go_enter Try.func38,Try.ntmps38
 go_wp2_with fail
 obtain ⟨W,hW⟩:∃ W_,W_=w.alloc (.cells #[.int .i64 0] 72):=⟨_,rfl⟩
 rw [← hW]
 have gS:W.heap[w.heap.size]?=some (stp 0):=by rw [hW];exact Hand.q3 _ _ _ rfl
 have hBW:Below w.heap.size w W:=by rw [hW];exact (Below.refl _ _).alloc (Nat.le_refl _) _
 have hsz:W.heap.size=w.heap.size+1:=by rw [hW];simp only [World.size_alloc]
 have gs0:w.heap.size<W.heap.size:=by omega
 have HSZ:=Lib.hid hsz
 clear hW hsz
 have GS:=Lib.hid gS
 have HBW:=Lib.hid hBW
 clear gS hBW
 go_loopw [4,6] (fun v i wr=>∃ j:Nat,∃ xs:List Rt,∃ e:Int,j+1≤n∧i = .int .i64 ((j:Int)+1)∧slpF (l.take (j+1)) 0=(xs,e)∧wr.ownsRow W.heap.size 31 2 v j (flatT xs)∧(0<j → ∃ g c,v = .slice (some ⟨g,0,none⟩) j c)∧wr.heap[w.heap.size]?=some (stp e)∧Fx w.heap.size W wr) (fun _ i _=>n - (intOf i).toNat)
 case atStart=>exact ⟨0,[],0,by omega,rfl,by cases l with|nil=>rfl|cons a l=>rfl,World.ownsRow_nil _ _ _ _,fun h=>absurd h (Nat.lt_irrefl _),GS.out,Fx.refl _ _⟩
 case round =>
  obtain ⟨j,xs,e,hj,rfl,hxs,hown,hval,hst,hF⟩:=hrel
  have HXS:=Lib.hid hxs
  have HOWN:=Lib.hid hown
  have HVAL:=Lib.hid hval
  clear hxs hown hval
  by_cases hjn:j+1<n
  ·have p1:((j:Int)+1<(n:Int))=True:=eq_true (by omega)
   have hjl:j+1<l.length:=by rw [← HN.out];exact hjn
   have hBr:Below w.heap.size w wr:=hF.below HBW.out (Nat.le_refl _) HBW.out.size
   have gzr:w.heap.size<wr.heap.size:=(Hand.hz hst).1
   obtain ⟨c0,c1,c2,c3⟩:=(HK.out.below hBr) j (by omega)
   obtain ⟨d0,d1,d2,d3⟩:=(HK.out.below hBr) (j+1) hjl
   have hra:=HR.out _ (List.getElem_mem (show j<l.length by omega))
   have hrb:=HR.out _ (List.getElem_mem hjl)
   have HSTEP:=Lib.hid (slpF_take l j hjl 0)
   obtain ⟨⟨⟨a1,a2⟩,a3,a4⟩,hka⟩:∃ k,l[j]=k:=⟨_,rfl⟩
   obtain ⟨⟨⟨b1_,b2_⟩,b3,b4⟩,hkb⟩:∃ k,l[j+1]=k:=⟨_,rfl⟩
   rw [hka,hkb] at HSTEP
   rw [HXS.out] at HSTEP
   rw [hka] at c0 c1 c2 c3 hra
   rw [hkb] at d0 d1 d2 d3 hrb
   dsimp only at c0 c1 c2 c3 d0 d1 d2 d3
   clear hka hkb
   obtain ⟨⟨⟨x1,x2⟩,e1⟩,hX⟩:∃ X,doS rSub e (b3,b4) (a3,a4)=X:=⟨_,rfl⟩
   obtain ⟨⟨⟨y1,y2⟩,e2⟩,hY⟩:∃ X,doS rSub e1 (b1_,b2_) (a1,a2)=X:=⟨_,rfl⟩
   obtain ⟨⟨⟨z1,z2⟩,e3⟩,hZ⟩:∃ X,doS rDiv e2 (x1,x2) (y1,y2)=X:=⟨_,rfl⟩
   have HP:=Lib.hid (show pieceS e ((a1,a2),(a3,a4)) ((b1_,b2_),(b3,b4))=((z1,z2),e3) from by unfold pieceS;dsimp only;rw [hX];dsimp only;rw [hY];exact hZ)
   have rx:R64 (x1,x2):=by have:=do_R sub_R e (b3,b4) (a3,a4);rw [hX] at this;exact this
   have ry:R64 (y1,y2):=by have:=do_R sub_R e1 (b1_,b2_) (a1,a2);rw [hY] at this;exact this
   have M1:=Lib.hid (fun (u:World) (h:u.heap[w.heap.size]?=some (stp e))=>(by have:=do_any w.heap.size 43 rSub e (b3,b4) (a3,a4) u h ent_sub (fun _=>f_sub hrb.2 hra.2);rw [hX] at this;exact this:Calls Try.prog 42 #[.pointer (some ⟨w.heap.size,0,none⟩),fnv 43,.agg #[.int .i64 b3,.int .i64 b4],.agg #[.int .i64 a3,.int .i64 a4]] u fun e_ w'=>e_ = .returned (.agg #[.int .i64 x1,.int .i64 x2])∧w'.heap[w.heap.size]?=some (stp e1)∧Fx w.heap.size u w'))
   have M2:=Lib.hid (fun (u:World) (h:u.heap[w.heap.size]?=some (stp e1))=>(by have:=do_any w.heap.size 43 rSub e1 (b1_,b2_) (a1,a2) u h ent_sub (fun _=>f_sub hrb.1 hra.1);rw [hY] at this;exact this:Calls Try.prog 42 #[.pointer (some ⟨w.heap.size,0,none⟩),fnv 43,.agg #[.int .i64 b1_,.int .i64 b2_],.agg #[.int .i64 a1,.int .i64 a2]] u fun e_ w'=>e_ = .returned (.agg #[.int .i64 y1,.int .i64 y2])∧w'.heap[w.heap.size]?=some (stp e2)∧Fx w.heap.size u w'))
   have M3:=Lib.hid (fun (u:World) (h:u.heap[w.heap.size]?=some (stp e2))=>(by have:=do_any w.heap.size 63 rDiv e2 (x1,x2) (y1,y2) u h ent_div (fun _=>f_div rx ry);rw [hZ] at this;exact this:Calls Try.prog 42 #[.pointer (some ⟨w.heap.size,0,none⟩),fnv 63,.agg #[.int .i64 x1,.int .i64 x2],.agg #[.int .i64 y1,.int .i64 y2]] u fun e_ w'=>e_ = .returned (.agg #[.int .i64 z1,.int .i64 z2])∧w'.heap[w.heap.size]?=some (stp e3)∧Fx w.heap.size u w'))
   clear hX hY hZ rx ry hra hrb
   have w1:IntKind.i64.wrap ((j:Int)+1 - 1)=(j:Int):=by rw [IntKind.wrap_i64];omega
   have w2:IntKind.i64.wrap (j:Int)=(j:Int):=by rw [IntKind.wrap_i64];omega
   have p3:(0:Int)≤(j:Int)+1:=by omega
   have p4:((j:Int)<(n:Int))=True:=eq_true (by omega)
   have p5:(0:Int)≤(j:Int):=by omega
   have p6:(j<n)=True:=eq_true (by omega)
   have p7:(j+1<n)=True:=eq_true (by omega)
   have zb0:∀ p u,w.cell? p=some u → p.block<w.heap.size:=fun p u h=>World.block_lt_of_cell? w _ h
   have KC:=Lib.hid (fun (w_:World) (h:Fx w.heap.size W w_)=>(by have hB:=h.below HBW.out (Nat.le_refl _) HBW.out.size;have st:∀ p v,(∃ u,w.cell? p=some u) → wr.cell? p=some v → w_.cell? p=some v:=(fun p v ⟨u,hu⟩ hp=>(hB.cell (zb0 p u hu)).trans ((hBr.cell (zb0 p u hu)).symm.trans hp));obtain ⟨k0,k1,k2,k3⟩:=HK.out j (by omega);obtain ⟨l0,l1,l2,l3⟩:=HK.out (j+1) hjl;exact ⟨st _ _ ⟨_,l2⟩ d2,st _ _ ⟨_,l3⟩ d3,st _ _ ⟨_,k2⟩ c2,st _ _ ⟨_,k3⟩ c3,st _ _ ⟨_,l0⟩ d0,st _ _ ⟨_,l1⟩ d1,st _ _ ⟨_,k0⟩ c0,st _ _ ⟨_,k1⟩ c1⟩:w_.cell? ⟨(ad.add ((j+1)*4)).block,(ad.add ((j+1)*4)).off+2,none⟩=some (.int .i64 b3)∧w_.cell? ⟨(ad.add ((j+1)*4)).block,(ad.add ((j+1)*4)).off+3,none⟩=some (.int .i64 b4)∧w_.cell? ⟨(ad.add (j*4)).block,(ad.add (j*4)).off+2,none⟩=some (.int .i64 a3)∧w_.cell? ⟨(ad.add (j*4)).block,(ad.add (j*4)).off+3,none⟩=some (.int .i64 a4)∧w_.cell? (ad.add ((j+1)*4))=some (.int .i64 b1_)∧w_.cell? ⟨(ad.add ((j+1)*4)).block,(ad.add ((j+1)*4)).off+1,none⟩=some (.int .i64 b2_)∧w_.cell? (ad.add (j*4))=some (.int .i64 a1)∧w_.cell? ⟨(ad.add (j*4)).block,(ad.add (j*4)).off+1,none⟩=some (.int .i64 a2)))
   have HKEEP:=Lib.hid (fun (w_:World) (h:Fx w.heap.size wr w_)=>(by obtain ⟨o1,o2,o3,o4,_⟩:=KC.out w_ (hF.trans h);exact ⟨h,o1,o2,o3,o4⟩:Fx w.heap.size wr w_∧w_.cell? ⟨(ad.add ((j+1)*4)).block,(ad.add ((j+1)*4)).off+2,none⟩=some (.int .i64 b3)∧w_.cell? ⟨(ad.add ((j+1)*4)).block,(ad.add ((j+1)*4)).off+3,none⟩=some (.int .i64 b4)∧w_.cell? ⟨(ad.add (j*4)).block,(ad.add (j*4)).off+2,none⟩=some (.int .i64 a3)∧w_.cell? ⟨(ad.add (j*4)).block,(ad.add (j*4)).off+3,none⟩=some (.int .i64 a4)))
   have BR:Fx w.heap.size wr wr:=Fx.refl _ _
   clear c0 c1 c2 c3 d0 d1 d2 d3
   go_wp2_with fail
   go_region_held3 (fun w_=>Fx w.heap.size wr w_∧w_.cell? ⟨(ad.add ((j+1)*4)).block,(ad.add ((j+1)*4)).off+2,none⟩=some (.int .i64 b3)∧w_.cell? ⟨(ad.add ((j+1)*4)).block,(ad.add ((j+1)*4)).off+3,none⟩=some (.int .i64 b4)∧w_.cell? ⟨(ad.add (j*4)).block,(ad.add (j*4)).off+2,none⟩=some (.int .i64 a3)∧w_.cell? ⟨(ad.add (j*4)).block,(ad.add (j*4)).off+3,none⟩=some (.int .i64 a4)) (first|(refine HKEEP.out _ ?_;repeat (with_reducible first|assumption|apply Fx.drew|apply Fx.alloc|refine Fx.setNew ?_ Hand.z _ _))) (first|(go_at_call 42;((with_reducible refine (M1.out _ Hand.q).mono ?_);rintro e w4 ⟨rfl,hx_w4,hF_w4⟩;have BB:Fx w.heap.size wr w4:=Fx.trans (by repeat (with_reducible first|assumption|apply Fx.drew|apply Fx.alloc|refine Fx.setNew ?_ Hand.z _ _)) hF_w4;have zB_w4:=BB.size;obtain ⟨cs,fs⟩:=Hand.hc1 hx_w4;obtain ⟨sz0,sz1,sz2,sy0,sy1⟩:=Hand.hz hx_w4;(try (have nx:=hF_w4.kb (k:=wr.heap.size) (o:=.cells #[.int .i64 0,.int .i64 0] 31 (0,0)) (by first|(exact Hand.q3 _ _ _ rfl)|(simp (disch:=try exact Hand.z) only [Hand.q5,Hand.q4,Hand.q3];done)|fail) (by omega);obtain ⟨nc0,nf0,nc1,nf1⟩:=Hand.hc2 nx;obtain ⟨nz0,nz1,nz2,ny0,ny1⟩:=Hand.hz nx;have ne1:(wr.heap.size=w.heap.size)=False:=eq_false (by omega);have ne2:(w.heap.size=wr.heap.size)=False:=eq_false (by omega))))))
   ·have hF4:Fx w.heap.size W w4:=hF.trans BB
    have own4:=own_fx HOWN.out BB gs0
    obtain ⟨V,hV⟩:∃ V_,V_=w4.alloc (.cells #[.int .i64 x1,.int .i64 x2] 31):=⟨_,rfl⟩
    rw [← hV]
    have vX:V.heap[w4.heap.size]?=some (.cells #[.int .i64 x1,.int .i64 x2] 31 (0,0)):=by rw [hV];exact Hand.q3 _ _ _ rfl
    have vS:V.heap[w.heap.size]?=some (stp e1):=by rw [hV];simp (disch:=try exact Hand.z) only [Hand.q2,Hand.q4,hx_w4]
    have vF:Fx w.heap.size W V:=by rw [hV];repeat (with_reducible first|exact hF4|refine Fx.setNew ?_ (by have:=hF.size;omega) _ _|apply Fx.alloc)
    have vO:V.ownsRow W.heap.size 31 2 u4 j (flatT xs):=own_keep own4 (fun k hk=>by have hl:=HOWN.out.lt k hk;have:=BB.size;rw [hV];simp (disch:=try exact Hand.z) only [Hand.q2,Hand.q4])
    have vN:∀ k,u4.ownBlock=some k → k≠w4.heap.size:=fun k hk=>by have hl:=HOWN.out.lt k hk;have:=BB.size;omega
    have vZ:w.heap.size<w4.heap.size:=by have:=BB.size;omega
    obtain ⟨gx,hgx⟩:∃ gx,gx=w4.heap.size:=⟨_,rfl⟩
    rw [← hgx] at vX vN vZ ⊢
    have VX:=Lib.hid vX
    have VS:=Lib.hid vS
    have VF:=Lib.hid vF
    have VO:=Lib.hid vO
    have VN:=Lib.hid vN
    clear hV hgx vX vS vF vO vN HKEEP BB hF4 own4 hF_w4 hx_w4 cs fs sz0 sz1 sz2 sy0 sy1 zB_w4 BR
    obtain ⟨u0,f0,u1,f1⟩:=Hand.hc2 VX.out
    have vxz:=(Hand.hz VX.out).1
    have KEEP9:=Lib.hid (fun (w_:World) (h:Fx w.heap.size V w_)=>(by obtain ⟨_,_,_,_,o1,o2,o3,o4⟩:=KC.out w_ (VF.out.trans h);exact ⟨VF.out.trans h,o1,o2,o3,o4,(h.cell _ vxz Hand.d).trans u0,(h.cell _ vxz Hand.d).trans u1⟩:Fx w.heap.size W w_∧w_.cell? (ad.add ((j+1)*4))=some (.int .i64 b1_)∧w_.cell? ⟨(ad.add ((j+1)*4)).block,(ad.add ((j+1)*4)).off+1,none⟩=some (.int .i64 b2_)∧w_.cell? (ad.add (j*4))=some (.int .i64 a1)∧w_.cell? ⟨(ad.add (j*4)).block,(ad.add (j*4)).off+1,none⟩=some (.int .i64 a2)∧w_.cell? ⟨gx,0,none⟩=some (.int .i64 x1)∧w_.cell? ⟨gx,1,none⟩=some (.int .i64 x2)))
    have GROW9:=Lib.hid (fun (a_ w_:World) (h:Fx w.heap.size V a_) (hg:a_.grownBy w_ u4.ownBlock)=>(by have hW2:=Fx.grown (VF.out.trans h) hg (fun k hk=>(VO.out.lt k hk).1);obtain ⟨_,_,_,_,o1,o2,o3,o4⟩:=KC.out w_ hW2;have sz:=h.size;have ng:some gx≠u4.ownBlock:=(fun e=>VN.out gx e.symm rfl);exact ⟨hW2,o1,o2,o3,o4,(World.grownBy.cell hg ((h.cell _ vxz Hand.d).trans u0) ng),(World.grownBy.cell hg ((h.cell _ vxz Hand.d).trans u1) ng)⟩:Fx w.heap.size W w_∧w_.cell? (ad.add ((j+1)*4))=some (.int .i64 b1_)∧w_.cell? ⟨(ad.add ((j+1)*4)).block,(ad.add ((j+1)*4)).off+1,none⟩=some (.int .i64 b2_)∧w_.cell? (ad.add (j*4))=some (.int .i64 a1)∧w_.cell? ⟨(ad.add (j*4)).block,(ad.add (j*4)).off+1,none⟩=some (.int .i64 a2)∧w_.cell? ⟨gx,0,none⟩=some (.int .i64 x1)∧w_.cell? ⟨gx,1,none⟩=some (.int .i64 x2)))
    have BV:Fx w.heap.size V V:=Fx.refl _ _
    have vsS:=VS.out
    go_wp2_with fail
    go_region_held3 (fun w_=>Fx w.heap.size W w_∧w_.cell? (ad.add ((j+1)*4))=some (.int .i64 b1_)∧w_.cell? ⟨(ad.add ((j+1)*4)).block,(ad.add ((j+1)*4)).off+1,none⟩=some (.int .i64 b2_)∧w_.cell? (ad.add (j*4))=some (.int .i64 a1)∧w_.cell? ⟨(ad.add (j*4)).block,(ad.add (j*4)).off+1,none⟩=some (.int .i64 a2)∧w_.cell? ⟨gx,0,none⟩=some (.int .i64 x1)∧w_.cell? ⟨gx,1,none⟩=some (.int .i64 x2)) (first|exact GROW9.out _ _ FB hgrow|(refine KEEP9.out _ ?_;repeat (with_reducible first|assumption|apply Fx.drew|apply Fx.alloc|refine Fx.setNew ?_ Hand.z _ _))) (first|(go_at_call 42;((with_reducible refine (M2.out _ Hand.q).mono ?_);rintro e w5 ⟨rfl,hx_w5,hF_w5⟩;have BB:Fx w.heap.size V w5:=Fx.trans (by repeat (with_reducible first|assumption|apply Fx.drew|apply Fx.alloc|refine Fx.setNew ?_ Hand.z _ _)) hF_w5;have zB_w5:=BB.size;obtain ⟨cs,fs⟩:=Hand.hc1 hx_w5;obtain ⟨sz0,sz1,sz2,sy0,sy1⟩:=Hand.hz hx_w5))|(go_at_call 42;((with_reducible refine (M3.out _ Hand.q).mono ?_);rintro e w6 ⟨rfl,hx_w6,hF_w6⟩;have BB:Fx w.heap.size V w6:=Fx.trans (by repeat (with_reducible first|assumption|apply Fx.drew|apply Fx.alloc|refine Fx.setNew ?_ Hand.z _ _)) hF_w6;have zB_w6:=BB.size;obtain ⟨cs,fs⟩:=Hand.hc1 hx_w6;obtain ⟨sz0,sz1,sz2,sy0,sy1⟩:=Hand.hz hx_w6))|(refine step_append_lies _ rfl (.tmp 31) (.tmp 46) 23 rfl W.heap.size 31 _ (.agg #[.int .i64 0,.int .i64 0]) 2 16 Try.underlying23 rfl rfl rfl rfl rfl (by decide) u4 j (flatT xs) rfl (own_fx (own_fx VO.out BB gs0) (Fx.alloc (Fx.refl _ _) _) gs0) ⟨w6.heap.size,0,none⟩ 1 1 [.int .i64 z1,.int .i64 z2] rfl rfl (World.news_of_block (Hand.q3 _ _ _ rfl)) (by intro u hu;simp at hu;rcases hu with rfl|rfl<;>rfl) (by decide) (by unfold maxLen;omega) (by omega) (by have:=VF.out.size;have:=BB.size;simp only [World.size_alloc];omega) _ rfl ?_;intro go_g go_c w7 hown hgrow hat hlt;have FB:Fx w.heap.size V (w6.alloc (.cells #[.int .i64 z1,.int .i64 z2] 31)):=Fx.alloc BB _))
    have hst7:w7.heap[w.heap.size]?=some (stp e3):=by rw [hgrow.block _ (by have:=zB_w6;simp only [World.size_alloc];omega) (fun h=>by have:=VO.out.lt _ h.symm;omega)];simp (disch:=try exact Hand.z) only [Hand.q4,hx_w6]
    have hF7:=Fx.grown (VF.out.trans FB) hgrow (fun k hk=>(VO.out.lt k hk).1)
    go_wp2
    go_roundw
    case rel=>exact ⟨j+1,xs ++ [(z1,z2)],e3,by omega,by rw [Int.natCast_add];rfl,by rw [HSTEP.out,HP.out],by rw [flatT_snoc];exact hown,fun _=>⟨_,_,rfl⟩,hst7,hF7⟩
    case measure=>simp [intOf];omega
   ·have hF4:Fx w.heap.size W w4:=hF.trans BB
    have own4:=own_fx HOWN.out BB gs0
    obtain ⟨V,hV⟩:∃ V_,V_=(w4.setCell ⟨wr.heap.size,0,none⟩ (.int .i64 x1)).setCell ⟨wr.heap.size,1,none⟩ (.int .i64 x2):=⟨_,rfl⟩
    rw [← hV]
    have vX:V.heap[wr.heap.size]?=some (.cells #[.int .i64 x1,.int .i64 x2] 31 (0,0)):=by rw [hV];simp (disch:=try exact Hand.z) only [Hand.q1,nx];rfl
    have vS:V.heap[w.heap.size]?=some (stp e1):=by rw [hV];simp (disch:=try exact Hand.z) only [Hand.q2,Hand.q4,hx_w4]
    have vF:Fx w.heap.size W V:=by rw [hV];repeat (with_reducible first|exact hF4|refine Fx.setNew ?_ (by have:=hF.size;omega) _ _|apply Fx.alloc)
    have vO:V.ownsRow W.heap.size 31 2 u4 j (flatT xs):=own_keep own4 (fun k hk=>by have hl:=HOWN.out.lt k hk;have:=BB.size;rw [hV];simp (disch:=try exact Hand.z) only [Hand.q2,Hand.q4])
    have vN:∀ k,u4.ownBlock=some k → k≠wr.heap.size:=fun k hk=>by have hl:=HOWN.out.lt k hk;have:=BB.size;omega
    have vZ:w.heap.size<wr.heap.size:=by have:=BB.size;omega
    obtain ⟨gx,hgx⟩:∃ gx,gx=wr.heap.size:=⟨_,rfl⟩
    rw [← hgx] at vX vN vZ ⊢
    have VX:=Lib.hid vX
    have VS:=Lib.hid vS
    have VF:=Lib.hid vF
    have VO:=Lib.hid vO
    have VN:=Lib.hid vN
    clear hV hgx vX vS vF vO vN HKEEP BB hF4 own4 hF_w4 hx_w4 cs fs sz0 sz1 sz2 sy0 sy1 zB_w4 BR
    clear nx nc0 nf0 nc1 nf1 nz0 nz1 nz2 ny0 ny1 ne1 ne2
    obtain ⟨u0,f0,u1,f1⟩:=Hand.hc2 VX.out
    have vxz:=(Hand.hz VX.out).1
    have KEEP9:=Lib.hid (fun (w_:World) (h:Fx w.heap.size V w_)=>(by obtain ⟨_,_,_,_,o1,o2,o3,o4⟩:=KC.out w_ (VF.out.trans h);exact ⟨VF.out.trans h,o1,o2,o3,o4,(h.cell _ vxz Hand.d).trans u0,(h.cell _ vxz Hand.d).trans u1⟩:Fx w.heap.size W w_∧w_.cell? (ad.add ((j+1)*4))=some (.int .i64 b1_)∧w_.cell? ⟨(ad.add ((j+1)*4)).block,(ad.add ((j+1)*4)).off+1,none⟩=some (.int .i64 b2_)∧w_.cell? (ad.add (j*4))=some (.int .i64 a1)∧w_.cell? ⟨(ad.add (j*4)).block,(ad.add (j*4)).off+1,none⟩=some (.int .i64 a2)∧w_.cell? ⟨gx,0,none⟩=some (.int .i64 x1)∧w_.cell? ⟨gx,1,none⟩=some (.int .i64 x2)))
    have GROW9:=Lib.hid (fun (a_ w_:World) (h:Fx w.heap.size V a_) (hg:a_.grownBy w_ u4.ownBlock)=>(by have hW2:=Fx.grown (VF.out.trans h) hg (fun k hk=>(VO.out.lt k hk).1);obtain ⟨_,_,_,_,o1,o2,o3,o4⟩:=KC.out w_ hW2;have sz:=h.size;have ng:some gx≠u4.ownBlock:=(fun e=>VN.out gx e.symm rfl);exact ⟨hW2,o1,o2,o3,o4,(World.grownBy.cell hg ((h.cell _ vxz Hand.d).trans u0) ng),(World.grownBy.cell hg ((h.cell _ vxz Hand.d).trans u1) ng)⟩:Fx w.heap.size W w_∧w_.cell? (ad.add ((j+1)*4))=some (.int .i64 b1_)∧w_.cell? ⟨(ad.add ((j+1)*4)).block,(ad.add ((j+1)*4)).off+1,none⟩=some (.int .i64 b2_)∧w_.cell? (ad.add (j*4))=some (.int .i64 a1)∧w_.cell? ⟨(ad.add (j*4)).block,(ad.add (j*4)).off+1,none⟩=some (.int .i64 a2)∧w_.cell? ⟨gx,0,none⟩=some (.int .i64 x1)∧w_.cell? ⟨gx,1,none⟩=some (.int .i64 x2)))
    have BV:Fx w.heap.size V V:=Fx.refl _ _
    have vsS:=VS.out
    go_wp2_with fail
    go_region_held3 (fun w_=>Fx w.heap.size W w_∧w_.cell? (ad.add ((j+1)*4))=some (.int .i64 b1_)∧w_.cell? ⟨(ad.add ((j+1)*4)).block,(ad.add ((j+1)*4)).off+1,none⟩=some (.int .i64 b2_)∧w_.cell? (ad.add (j*4))=some (.int .i64 a1)∧w_.cell? ⟨(ad.add (j*4)).block,(ad.add (j*4)).off+1,none⟩=some (.int .i64 a2)∧w_.cell? ⟨gx,0,none⟩=some (.int .i64 x1)∧w_.cell? ⟨gx,1,none⟩=some (.int .i64 x2)) (first|exact GROW9.out _ _ FB hgrow|(refine KEEP9.out _ ?_;repeat (with_reducible first|assumption|apply Fx.drew|apply Fx.alloc|refine Fx.setNew ?_ Hand.z _ _))) (first|(go_at_call 42;((with_reducible refine (M2.out _ Hand.q).mono ?_);rintro e w5 ⟨rfl,hx_w5,hF_w5⟩;have BB:Fx w.heap.size V w5:=Fx.trans (by repeat (with_reducible first|assumption|apply Fx.drew|apply Fx.alloc|refine Fx.setNew ?_ Hand.z _ _)) hF_w5;have zB_w5:=BB.size;obtain ⟨cs,fs⟩:=Hand.hc1 hx_w5;obtain ⟨sz0,sz1,sz2,sy0,sy1⟩:=Hand.hz hx_w5))|(go_at_call 42;((with_reducible refine (M3.out _ Hand.q).mono ?_);rintro e w6 ⟨rfl,hx_w6,hF_w6⟩;have BB:Fx w.heap.size V w6:=Fx.trans (by repeat (with_reducible first|assumption|apply Fx.drew|apply Fx.alloc|refine Fx.setNew ?_ Hand.z _ _)) hF_w6;have zB_w6:=BB.size;obtain ⟨cs,fs⟩:=Hand.hc1 hx_w6;obtain ⟨sz0,sz1,sz2,sy0,sy1⟩:=Hand.hz hx_w6))|(refine step_append_lies _ rfl (.tmp 31) (.tmp 46) 23 rfl W.heap.size 31 _ (.agg #[.int .i64 0,.int .i64 0]) 2 16 Try.underlying23 rfl rfl rfl rfl rfl (by decide) u4 j (flatT xs) rfl (own_fx (own_fx VO.out BB gs0) (Fx.alloc (Fx.refl _ _) _) gs0) ⟨w6.heap.size,0,none⟩ 1 1 [.int .i64 z1,.int .i64 z2] rfl rfl (World.news_of_block (Hand.q3 _ _ _ rfl)) (by intro u hu;simp at hu;rcases hu with rfl|rfl<;>rfl) (by decide) (by unfold maxLen;omega) (by omega) (by have:=VF.out.size;have:=BB.size;simp only [World.size_alloc];omega) _ rfl ?_;intro go_g go_c w7 hown hgrow hat hlt;have FB:Fx w.heap.size V (w6.alloc (.cells #[.int .i64 z1,.int .i64 z2] 31)):=Fx.alloc BB _))
    have hst7:w7.heap[w.heap.size]?=some (stp e3):=by rw [hgrow.block _ (by have:=zB_w6;simp only [World.size_alloc];omega) (fun h=>by have:=VO.out.lt _ h.symm;omega)];simp (disch:=try exact Hand.z) only [Hand.q4,hx_w6]
    have hF7:=Fx.grown (VF.out.trans FB) hgrow (fun k hk=>(VO.out.lt k hk).1)
    go_wp2
    go_roundw
    case rel=>exact ⟨j+1,xs ++ [(z1,z2)],e3,by omega,by rw [Int.natCast_add];rfl,by rw [HSTEP.out,HP.out],by rw [flatT_snoc];exact hown,fun _=>⟨_,_,rfl⟩,hst7,hF7⟩
    case measure=>simp [intOf];omega
  ·have p1:((j:Int)+1<(n:Int))=False:=eq_false (by omega)
   obtain ⟨go_g,go_c,rfl⟩:=HVAL.out (by omega)
   have hBr:Below w.heap.size w wr:=hF.below HBW.out (Nat.le_refl _) HBW.out.size
   obtain ⟨cs,fs⟩:=Hand.hc1 hst
   have HLX:=Lib.hid (show slpF l 0=(xs,e) from by have:=HXS.out;rwa [List.take_of_length_le (by rw [← HN.out];omega)] at this)
   have HJ:=Lib.hid (show j=n - 1 from by omega)
   go_wp2_with fail
   go_region_held3 (fun w_=>w_.cell? ⟨w.heap.size,0,none⟩=some (.int .i64 e)) (first|exact cs|go_keep) (first|fail)
   go_wp2
   go_ret2
   rw [HLX.out,← HJ.out]
   exact ⟨go_g,go_c,rfl,own_base (own_keep HOWN.out fun k hk=>rfl) (by omega),hBr.drew⟩
theorem whole_any (n:Int) (w:World):Calls Try.prog 41 #[.int .i64 n] w fun e w'=>e = .returned (rv (n,1))∧Below w.heap.size w w':=by
 go_enter Try.func41,Try.ntmps41
 go_wp2
 refine bodyPost_ret (results_cell_row rfl _ _ (w.heap.size) 31 #[.int .i64 n,.int .i64 1] (0,0) _ rfl (Hand.q3 _ _ _ (by simp)) Try.underlying31 rfl (by kernel_rfl)) rfl ⟨rfl,?_⟩
 exact (Below.refl _ _).alloc (Nat.le_refl _) _
theorem sls_one (A:Option Addr) (cap:Nat) (w:World) :
  Calls Try.prog 38 #[.slice A 1 cap] w fun e w'=>∃ g c,e = .returned (.tuple #[.slice (some ⟨g,0,none⟩) 1 c,.int .i64 0])∧w'.ownsRow w.heap.size 31 2 (.slice (some ⟨g,0,none⟩) 1 c) 1 (flatT [(1,1)])∧Below w.heap.size w w':=by
 have M1:=Lib.hid (fun w=>whole_any 1 w)
 go_enter Try.func38,Try.ntmps38
 go_wp2_with fail
 with_reducible refine (M1.out _).mono ?_
 rintro e w1 ⟨rfl,hb1⟩
 go_wp2
 go_ret2
 refine ⟨_,_,rfl,⟨rfl,.inr ⟨_,_,_,rfl,hb1.size,Hand.q3 _ _ _ rfl,by decide,by decide,rfl,rfl⟩⟩,hb1.alloc hb1.size _⟩
theorem slopesS_len (l:List Kn) (h:0<l.length):(slopesS l).1.length=max 1 (l.length - 1):=by
 unfold slopesS
 by_cases h1:l.length=1
 ·rw [if_pos h1,h1];rfl
 ·rw [if_neg h1,slpF_len];omega
theorem slopesS_R (l:List Kn):∀ s ∈ (slopesS l).1,R64 s:=by
 unfold slopesS
 by_cases h1:l.length=1
 ·rw [if_pos h1];intro s hs;simp at hs;rw [hs];exact ⟨by decide,by decide,by decide,by decide⟩
 ·rw [if_neg h1];exact slpF_R l 0
theorem sls_any (ad:Addr) (l:List Kn) (cap:Nat) (w:World) (hK:KnA w ad l) (hR:KnR l) (h0:0<l.length) (h1:l.length≤66) :
  Calls Try.prog 38 #[.slice (some ad) l.length cap] w fun e w'=>∃ g c,e = .returned (.tuple #[.slice (some ⟨g,0,none⟩) (slopesS l).1.length c,.int .i64 (slopesS l).2])∧w'.ownsRow w.heap.size 31 2 (.slice (some ⟨g,0,none⟩) (slopesS l).1.length c) (slopesS l).1.length (flatT (slopesS l).1)∧Below w.heap.size w w':=by
 rw [slopesS_len l h0]
 unfold slopesS
 by_cases h:l.length=1
 ·rw [if_pos h,h];exact sls_one _ cap w
 ·rw [if_neg h,show max 1 (l.length - 1)=l.length - 1 by omega]
  exact sls_many ad l l.length cap w rfl hK hR (by omega) h1
end Go.Proofs.Ythlpaglldhgmfaa.PA
