/- Chapter 6: the reference's map. The reference's Apply, Undo, All. -/
import Derived.Test.YthlpaglldhgmfaaN3
import Derived.Test.YthlpaglldhgmfaaM9
import Derived.Deep.RegionHeld3
set_option maxHeartbeats 4000000
set_option maxRecDepth 100000
namespace Go.Proofs.Ythlpaglldhgmfaa.PA
open Go Go.RowKit Go.Proofs.YthlpaglldhgmfaaW.PrintWords Go.Proofs.YthlpaglldhgmfaaW.PrintLast Go.Proofs.YthlpaglldhgmfaaW.PrintMore
attribute [local go_sem high] eqA31
set_option linter.unusedSimpArgs false
set_option linter.unusedVariables false
structure MapB (w:World) (p:Nat) (al as_:Addr) (cl cs:Nat) (m:MapV):Prop where
 blk:w.heap[p]?=some (.cells #[.slice (some al) m.knots.length cl,.slice (some as_) m.slopes.length cs] 97 (0,0))
 kn:KnA w al m.knots
 sl:RtA w as_ m.slopes
theorem MapB.below {w w':World} {p:Nat} {al as_:Addr} {cl cs:Nat} {m:MapV} (h:MapB w p al as_ cl cs m) (hb:Below w.heap.size w w'):MapB w' p al as_ cl cs m:=⟨Hand.kb hb h.blk,h.kn.below hb,h.sl.below hb⟩
theorem piece_stuck {e:Int} (h:e≠0) (a b:Kn):pieceS e a b=((0,0),e):=by
 unfold pieceS doS
 simp only [if_neg h]
theorem slp_stuck:∀ (l:List Kn) (e:Int),e≠0 → (slpF l e).2=e
 | [],_,_=>rfl
 | [_],_,_=>rfl
 | a :: b :: l,e,h=>by
  simp only [slpF,piece_stuck h]
  exact slp_stuck (b :: l) e h
theorem slp_at:∀ (l:List Kn) (j:Nat) (h:j+1<l.length),(∀ i (hi:i+1<l.length),i<j → (pieceS 0 l[i] l[i+1]).2=0) → (pieceS 0 l[j] l[j+1]).2≠0 → (slpF l 0).2=(pieceS 0 l[j] l[j+1]).2
 | [],_,h,_,_=>absurd h (by simp)
 | [_],_,h,_,_=>absurd h (by simp)
 | a :: b :: l,0,_,_,hn=>by
  simp only [slpF,List.getElem_cons_zero,List.getElem_cons_succ] at hn ⊢
  exact slp_stuck _ _ hn
 | a :: b :: l,j+1,h,hz,hn=>by
  have h0:=hz 0 (by simp) (by omega)
  simp only [List.getElem_cons_zero,List.getElem_cons_succ] at h0
  have ih:=slp_at (b :: l) j (by simpa using h) (fun i hi hij=>by have:=hz (i+1) (by simpa using hi) (by omega);simpa using this) (by simpa using hn)
  simp only [slpF,h0]
  simpa using ih
theorem slp_all:∀ (l:List Kn),(∀ i (hi:i+1<l.length),(pieceS 0 l[i] l[i+1]).2=0) → (slpF l 0).2=0
 | [],_=>rfl
 | [_],_=>rfl
 | a :: b :: l,hz=>by
  have h0:=hz 0 (by simp)
  simp only [List.getElem_cons_zero,List.getElem_cons_succ] at h0
  simp only [slpF,h0]
  exact slp_all (b :: l) (fun i hi=>by have:=hz (i+1) (by simpa using hi);simpa using this)
theorem qown_any (p:Nat) (al as_:Addr) (cl cs:Nat) (m:MapV) (w:World) (hm:MapB w p al as_ cl cs m) (hR:KnR m.knots) (h100:m.knots.length≤100) :
  Calls Try.prog 58 #[.pointer (some ⟨p,0,none⟩)] w fun e w'=>e = .returned (.tuple #[if (slpF m.knots 0).2=0 then .pointer (some ⟨p,0,none⟩) else .pointer none,.int .i64 (slpF m.knots 0).2])∧Below w.heap.size w w':=by
 obtain ⟨v,hv⟩:∃ v:Value,(if (slpF m.knots 0).2=0 then .pointer (some ⟨p,0,none⟩) else .pointer none)=v:=⟨_,rfl⟩
 rw [hv]
 obtain ⟨q,hq⟩:∃ q,(slpF m.knots 0).2=q:=⟨_,rfl⟩
 rw [hq]
 have HV:=Lib.hid hv
 have HQV:=Lib.hid hq
 clear hv hq
 obtain ⟨n,hn⟩:∃ n,m.knots.length=n:=⟨_,rfl⟩
 have hb:=hm.blk
 rw [hn] at hb
 have HM:=Lib.hid hm
 have HN:=Lib.hid hn
 have HR:=Lib.hid hR
 have HBK:=Lib.hid hb
 have hn2:n≤100:=by omega
 clear hm hn hR hb h100
 go_enter Try.func58,Try.ntmps58
 go_wp2_with fail
 go_loopw [4] (fun i wr=>∃ j:Nat,(j=0 ∨ j+1≤n)∧i = .int .i64 ((j:Int)+1)∧(∀ i (hi:i+1<m.knots.length),i<j → (pieceS 0 m.knots[i] m.knots[i+1]).2=0)∧Below w.heap.size w wr) (fun i _=>n - (intOf i).toNat)
 case atStart=>exact ⟨0,.inl rfl,rfl,fun i _ h=>absurd h (Nat.not_lt_zero _),Below.refl _ _⟩
 case round =>
  obtain ⟨j,hj,rfl,hall,hB⟩:=hrel
  have HALL:=Lib.hid hall
  clear hall
  have gb:=Hand.kb hB HBK.out
  obtain ⟨c0,fc0,c1,fc1⟩:=Hand.hc2 gb
  by_cases hjn:j+1<n
  ·have p1:((j:Int)+1<(n:Int))=True:=eq_true (by omega)
   have hj1:j+1<m.knots.length:=by have:=HN.out;omega
   have hj0:j<m.knots.length:=by omega
   have w1_:IntKind.i64.wrap ((j:Int)+1 - 1)=(j:Int):=by rw [IntKind.wrap_i64];omega
   have w2_:IntKind.i64.wrap (j:Int)=(j:Int):=by rw [IntKind.wrap_i64];omega
   have p3:(0:Int)≤(j:Int)+1:=by omega
   have p4:((j:Int)<(n:Int))=True:=eq_true (by omega)
   have p5:(0:Int)≤(j:Int):=by omega
   have p6:(j<n)=True:=eq_true (by omega)
   have p7:(j+1<n)=True:=eq_true (by omega)
   have hra:=HR.out _ (List.getElem_mem hj0)
   have hst:=slp_at m.knots j hj1 HALL.out
   obtain ⟨⟨⟨a1,a2⟩,a3,a4⟩,hka⟩:∃ k,m.knots[j]=k:=⟨_,rfl⟩
   obtain ⟨⟨⟨b1,b2⟩,b3,b4⟩,hkb⟩:∃ k,m.knots[j+1]=k:=⟨_,rfl⟩
   have HC:=Lib.hid (fun (w_:World) (h:Below w.heap.size w w_)=>(by have k:=(HM.out.kn.below h) j hj0;have k2:=(HM.out.kn.below h) (j+1) hj1;rw [hka] at k;rw [hkb] at k2;obtain ⟨x0,x1,x2,x3⟩:=k;obtain ⟨y0,y1,y2,y3⟩:=k2;have g:=(Hand.hc2 (Hand.kb h HBK.out)).1;exact ⟨h,g,x0,x1,x2,x3,y0,y1,y2,y3⟩:Below w.heap.size w w_∧w_.cell? ⟨p,0,none⟩=some (.slice (some al) n cl)∧w_.cell? (al.add (j*4))=some (.int .i64 a1)∧w_.cell? ⟨(al.add (j*4)).block,(al.add (j*4)).off+1,none⟩=some (.int .i64 a2)∧w_.cell? ⟨(al.add (j*4)).block,(al.add (j*4)).off+2,none⟩=some (.int .i64 a3)∧w_.cell? ⟨(al.add (j*4)).block,(al.add (j*4)).off+3,none⟩=some (.int .i64 a4)∧w_.cell? (al.add ((j+1)*4))=some (.int .i64 b1)∧w_.cell? ⟨(al.add ((j+1)*4)).block,(al.add ((j+1)*4)).off+1,none⟩=some (.int .i64 b2)∧w_.cell? ⟨(al.add ((j+1)*4)).block,(al.add ((j+1)*4)).off+2,none⟩=some (.int .i64 b3)∧w_.cell? ⟨(al.add ((j+1)*4)).block,(al.add ((j+1)*4)).off+3,none⟩=some (.int .i64 b4)))
   have hnx:(pieceS 0 ((a1,a2),(a3,a4)) ((b1,b2),(b3,b4))).2=0 → ∀ i (hi:i+1<m.knots.length),i<j+1 → (pieceS 0 m.knots[i] m.knots[i+1]).2=0:=fun h0 i hi hij=>by by_cases e:i=j;subst e;rw [hka,hkb];exact h0;exact HALL.out i hi (by omega)
   rw [hka,hkb] at hst
   rw [hka] at hra
   have MS:=Lib.hid (fun u=>qslope_any ((a1,a2),(a3,a4)) ((b1,b2),(b3,b4)) u hra)
   obtain ⟨⟨⟨s1,s2⟩,e1⟩,hP⟩:∃ X,pieceS 0 ((a1,a2),(a3,a4)) ((b1,b2),(b3,b4))=X:=⟨_,rfl⟩
   rw [hP] at MS hst hnx
   dsimp only [rv,kv] at MS hst hnx
   have HST:=Lib.hid hst
   have HNX:=Lib.hid hnx
   clear hka hkb hra hst hnx hP
   have BR:=hB
   have zB0:=hB.size
   go_wp2_with fail
   go_region_held3 (fun w_=>Below w.heap.size w w_∧w_.cell? ⟨p,0,none⟩=some (.slice (some al) n cl)∧w_.cell? (al.add (j*4))=some (.int .i64 a1)∧w_.cell? ⟨(al.add (j*4)).block,(al.add (j*4)).off+1,none⟩=some (.int .i64 a2)∧w_.cell? ⟨(al.add (j*4)).block,(al.add (j*4)).off+2,none⟩=some (.int .i64 a3)∧w_.cell? ⟨(al.add (j*4)).block,(al.add (j*4)).off+3,none⟩=some (.int .i64 a4)∧w_.cell? (al.add ((j+1)*4))=some (.int .i64 b1)∧w_.cell? ⟨(al.add ((j+1)*4)).block,(al.add ((j+1)*4)).off+1,none⟩=some (.int .i64 b2)∧w_.cell? ⟨(al.add ((j+1)*4)).block,(al.add ((j+1)*4)).off+2,none⟩=some (.int .i64 b3)∧w_.cell? ⟨(al.add ((j+1)*4)).block,(al.add ((j+1)*4)).off+3,none⟩=some (.int .i64 b4)) (first|(refine HC.out _ ?_;repeat (with_reducible first|assumption|apply Below.drew|refine Below.setCell ?_ (by dsimp only;first|omega|(have:=Below.size hB;omega)) _|refine Below.alloc ?_ (by first|omega|(simp only [World.size_alloc,World.size_drew,World.size_setCell];first|omega|(have:=Below.size hB;omega))) _))) (first|(go_at_call 54;((with_reducible refine (MS.out _).mono ?_);rintro e_ w4 ⟨rfl,hb4⟩;have BB:Below w.heap.size w w4:=Hand.stepB hb4 (by repeat (with_reducible first|assumption|apply Below.drew|refine Below.setCell ?_ (by dsimp only;first|omega|(have:=Below.size hB;omega)) _|refine Below.alloc ?_ (by first|omega|(simp only [World.size_alloc,World.size_drew,World.size_setCell];first|omega|(have:=Below.size hB;omega))) _)) (Nat.le_refl _);have zBB:=BB.size;(try (have nx:=Hand.kb (i:=wr.heap.size) (x:=.cells #[.int .i64 0,.int .i64 0] 31 (0,0)) hb4 (by first|exact Hand.q3 _ _ _ rfl|(rw [Hand.q5];exact Hand.q3 _ _ _ rfl)|exact Hand.q3 _ _ _ (by simp));obtain ⟨nc0,nf0,nc1,nf1⟩:=Hand.hc2 nx;obtain ⟨nz0,nz1,nz2,ny0,ny1⟩:=Hand.hz nx)))))
   all_goals (by_cases he:e1=0)
   all_goals (first|(have k0:(e1 != 0)=false:=by simpa using he)|(have k0:(e1 != 0)=true:=by simpa using he))
   all_goals (first|(have HE:=Lib.hid he;clear he;go_wp2;go_roundw;(first|(simp [intOf];omega)|exact ⟨j+1,.inr (by omega),by rw [Int.natCast_add];rfl,HNX.out HE.out,by repeat (with_reducible first|assumption|apply Below.drew|refine Below.setCell ?_ (by dsimp only;first|omega|(have:=Below.size hB;omega)) _|refine Below.alloc ?_ (by first|omega|(simp only [World.size_alloc,World.size_drew,World.size_setCell];first|omega|(have:=Below.size hB;omega))) _)⟩))|(have HE:=Lib.hid he;clear he;go_wp2;go_ret2;rw [← HV.out,← HQV.out,HST.out HE.out,if_neg HE.out];exact ⟨rfl,by repeat (with_reducible first|assumption|apply Below.drew|refine Below.setCell ?_ (by dsimp only;first|omega|(have:=Below.size hB;omega)) _|refine Below.alloc ?_ (by first|omega|(simp only [World.size_alloc,World.size_drew,World.size_setCell];first|omega|(have:=Below.size hB;omega))) _)⟩))
   all_goals (first|(simp [intOf];omega)|skip)
  ·have p1:((j:Int)+1<(n:Int))=False:=eq_false (by omega)
   have HE:=Lib.hid (slp_all m.knots (fun i hi=>HALL.out i hi (by have:=HN.out;omega)))
   go_wp2
   go_ret2
   rw [← HV.out,← HQV.out,HE.out,if_pos rfl]
   exact ⟨rfl,hB⟩
theorem qfrom_in (p:Nat) (al as_:Addr) (cl cs:Nat) (m:MapV) (t:Rt) (w:World) (hm:MapB w p al as_ cl cs m) (ho:MapOk m) (hl:m.knots.length=m.slopes.length+1) (htr:rRight t=true) :
  Calls Try.prog 104 #[.pointer (some ⟨p,0,none⟩),rv t,.bool false] w fun e w'=>e = .returned (.tuple #[kv (m.knot (m.at (·.1) t)),rv (m.slope (m.at (·.1) t))])∧Below w.heap.size w w':=by
 obtain ⟨t1,t2⟩:=t
 obtain ⟨n,hn⟩:∃ n,m.knots.length=n:=⟨_,rfl⟩
 obtain ⟨ns,hns⟩:∃ n,m.slopes.length=n:=⟨_,rfl⟩
 have hb:=hm.blk
 have h0:=ho.k0
 have h66:=ho.k1
 have hs0:=ho.s0
 rw [hns] at hs0
 rw [hn,hns] at hb hl
 rw [hn] at h0 h66
 have HM:=Lib.hid hm
 have HO:=Lib.hid ho
 have HN:=Lib.hid hn
 have HNS:=Lib.hid hns
 have HBK:=Lib.hid hb
 have HT:=Lib.hid htr
 have hpz:=(Hand.hz hb).1
 clear hm ho hn hns hb htr
 have hst:m.at (·.1) (t1,t2)=lastLe (·.1) (t1,t2) (m.knots.drop 1) 1 0:=by unfold MapV.at;cases m.knots with|nil=>rfl|cons k L=>simp [lastLe]
 have HST:=Lib.hid hst
 clear hst
 go_enter Try.func104,Try.ntmps104
 go_wp2_with fail
 obtain ⟨W,hW⟩:∃ W_,W_=((w.alloc (.cells #[.int .i64 t1,.int .i64 t2] 31)).alloc (.cells #[.int .i64 0,.int .i64 0,.int .i64 0,.int .i64 0] 35)).alloc (.cells #[.int .i64 0,.int .i64 0] 31):=⟨_,rfl⟩
 rw [← hW]
 have gT:W.heap[w.heap.size]?=some (.cells #[.int .i64 t1,.int .i64 t2] 31 (0,0)):=by rw [hW,Hand.q4 _ _ _ (by simp only [World.size_alloc];omega),Hand.q4 _ _ _ (by simp only [World.size_alloc];omega)];exact Hand.q3 _ _ _ rfl
 have gK:W.heap[w.heap.size+1]?=some (.cells #[.int .i64 0,.int .i64 0,.int .i64 0,.int .i64 0] 35 (0,0)):=by rw [hW,Hand.q4 _ _ _ (by simp only [World.size_alloc];omega)];exact Hand.q3 _ _ _ (by simp)
 have gS:W.heap[w.heap.size+1+1]?=some (.cells #[.int .i64 0,.int .i64 0] 31 (0,0)):=by rw [hW];exact Hand.q3 _ _ _ (by simp)
 have hBW:Below w.heap.size w W:=by rw [hW];exact (((Below.refl _ _).alloc (Nat.le_refl _) _).alloc (by simp) _).alloc (by simp;omega) _
 clear hW
 have GT:=Lib.hid gT
 have GK:=Lib.hid gK
 have GS:=Lib.hid gS
 have HBW:=Lib.hid hBW
 have hWz:=(Hand.hz gS).1
 clear gT gK gS hBW
 go_loopw [8,9] (fun a_ i wr=>∃ (j a:Nat),j+1≤n∧a≤j∧i = .int .i64 ((j:Int)+1)∧a_ = .int .i64 (a:Int)∧m.at (·.1) (t1,t2)=lastLe (·.1) (t1,t2) (m.knots.drop (j+1)) (j+1) a∧Below W.heap.size W wr) (fun _ i _=>n - (intOf i).toNat)
 case atStart=>exact ⟨0,0,by omega,Nat.le_refl _,rfl,rfl,HST.out,Below.refl _ _⟩
 case round =>
  obtain ⟨j,a,hj,haj,rfl,rfl,hat,hB⟩:=hrel
  have HAT:=Lib.hid hat
  clear hat
  have hBw:Below w.heap.size w wr:=HBW.out.trans (Below.mono hB HBW.out.size)
  have gb:=Hand.kb hBw HBK.out
  have gT:=Hand.kb hB GT.out
  have gK:=Hand.kb hB GK.out
  have gS:=Hand.kb hB GS.out
  obtain ⟨c0,fc0,c1,fc1⟩:=Hand.hc2 gb
  obtain ⟨d0,fd0,d1,fd1⟩:=Hand.hc2 gT
  have zb:=(Hand.hz gb).1
  have zS:=(Hand.hz gS).1
  by_cases hjn:j+1<n
  ·have p1:((j:Int)+1<(n:Int))=True:=eq_true (by omega)
   have hj1:j+1<m.knots.length:=by have:=HN.out;omega
   have w2_:IntKind.i64.wrap (j:Int)=(j:Int):=by rw [IntKind.wrap_i64];omega
   have p3:(0:Int)≤(j:Int)+1:=by omega
   have p7:(j+1<n)=True:=eq_true (by omega)
   have hrt:=HO.out.kq _ (List.getElem_mem hj1)
   obtain ⟨k0,k1_,k2_,k3_⟩:=(HM.out.kn.below hBw) (j+1) hj1
   have hdr:m.knots.drop (j+1)=m.knots[j+1] :: m.knots.drop (j+1+1):=List.drop_eq_getElem_cons hj1
   obtain ⟨⟨⟨k1,k2⟩,k3,k4⟩,hk⟩:∃ k,m.knots[j+1]=k:=⟨_,rfl⟩
   rw [hk] at k0 k1_ k2_ k3_ hrt hdr
   dsimp only at k0 k1_ k2_ k3_ hrt
   have M1:=Lib.hid (fun u=>qcmp_any (k1,k2) (t1,t2) u hrt.1 HT.out)
   have hat2:=HAT.out
   rw [hdr] at hat2
   simp only [lastLe] at hat2
   obtain ⟨q,hq⟩:∃ q,rCmp (k1,k2) (t1,t2)=q:=⟨_,rfl⟩
   rw [hq] at M1 hat2
   dsimp only [rv] at M1
   have HAT2:=Lib.hid hat2
   have CKJ:=Lib.hid (fun (w_:World) (h:Below w.heap.size w w_)=>(by have x:=(HM.out.kn.below h) (j+1) hj1;rw [hk] at x;exact x:w_.cell? (al.add ((j+1)*4))=some (.int .i64 k1)∧w_.cell? ⟨(al.add ((j+1)*4)).block,(al.add ((j+1)*4)).off+1,none⟩=some (.int .i64 k2)∧w_.cell? ⟨(al.add ((j+1)*4)).block,(al.add ((j+1)*4)).off+2,none⟩=some (.int .i64 k3)∧w_.cell? ⟨(al.add ((j+1)*4)).block,(al.add ((j+1)*4)).off+3,none⟩=some (.int .i64 k4)))
   clear hk hrt hdr hq hat2
   have zw:(wr.heap.size=w.heap.size)=False:=eq_false (by omega)
   have zw2:(w.heap.size=wr.heap.size)=False:=eq_false (by omega)
   obtain ⟨tz0,tz1,tz2,ty0,ty1⟩:=Hand.hz gT
   have hBA:=hBw.alloc (o:=.cells #[.int .i64 k1,.int .i64 k2] 31) hBw.size
   obtain ⟨v0,v1,v2,v3⟩:=CKJ.out _ hBA
   obtain ⟨l0,_,l1,_⟩:=Hand.hc2 (Hand.kb hBA HBK.out)
   obtain ⟨tt0,ft0,tt1,ft1⟩:=Hand.hc2 (Hand.kb (hB.alloc (o:=.cells #[.int .i64 k1,.int .i64 k2] 31) hB.size) GT.out)
   go_wp2_with fail
   with_reducible refine (M1.out _).mono ?_
   rintro e_ w2 ⟨rfl,hb2⟩
   have hB2:Below W.heap.size W w2:=Hand.stepB hb2 (by repeat (with_reducible first|assumption|refine Below.setCell ?_ (by dsimp only;have:=hB.size;omega) _|refine Below.alloc ?_ hB.size _)) (Nat.le_refl _)
   clear hb2
   by_cases hq0:q≤0
   ·have k0:(q≤0)=True:=eq_true hq0
    go_wp2
    go_roundw
    case rel=>exact ⟨j+1,j+1,by omega,by omega,by rw [Int.natCast_add];rfl,by rw [Int.natCast_add];rfl,HAT2.out.trans (by rw [if_pos hq0]),hB2⟩
    case measure=>simp [intOf];omega
   ·have k0:(q≤0)=False:=eq_false hq0
    go_wp2
    go_roundw
    case rel=>exact ⟨j+1,a,by omega,by omega,by rw [Int.natCast_add];rfl,rfl,HAT2.out.trans (by rw [if_neg (by omega)]),hB2⟩
    case measure=>simp [intOf];omega
  ·have p1:((j:Int)+1<(n:Int))=False:=eq_false (by omega)
   have HA:=Lib.hid (show m.at (·.1) (t1,t2)=a from by rw [HAT.out,List.drop_eq_nil_of_le (by have:=HN.out;omega)];rfl)
   have hal:a<m.knots.length:=by have:=HN.out;omega
   obtain ⟨s,hs⟩:∃ s,min a (ns - 1)=s:=⟨_,rfl⟩
   have hsl:s<m.slopes.length:=by have:=HNS.out;omega
   have HKN:=Lib.hid (show m.knot (m.at (·.1) (t1,t2))=m.knots[a] from by rw [HA.out];unfold MapV.knot;rw [List.getD_eq_getElem?_getD,List.getElem?_eq_getElem hal];rfl)
   have HSN:=Lib.hid (show m.slope (m.at (·.1) (t1,t2))=m.slopes[s] from by rw [HA.out];unfold MapV.slope;rw [HNS.out,hs,List.getD_eq_getElem?_getD,List.getElem?_eq_getElem hsl];rfl)
   obtain ⟨⟨⟨k1,k2⟩,k3,k4⟩,hk⟩:∃ k,m.knots[a]=k:=⟨_,rfl⟩
   obtain ⟨⟨q1,q2⟩,hq⟩:∃ k,m.slopes[s]=k:=⟨_,rfl⟩
   rw [hk] at HKN
   rw [hq] at HSN
   have HC:=Lib.hid (fun (w_:World) (h:Below w.heap.size w w_)=>(by have x:=(HM.out.kn.below h) a hal;have y:=(HM.out.sl.below h) s hsl;rw [hk] at x;rw [hq] at y;obtain ⟨x0,x1,x2,x3⟩:=x;have g:=Hand.hc2 (Hand.kb h HBK.out);exact ⟨h,g.1,g.2.2.1,x0,x1,x2,x3,y.1,y.2⟩:Below w.heap.size w w_∧w_.cell? ⟨p,0,none⟩=some (.slice (some al) n cl)∧w_.cell? ⟨p,1,none⟩=some (.slice (some as_) ns cs)∧w_.cell? (al.add (a*4))=some (.int .i64 k1)∧w_.cell? ⟨(al.add (a*4)).block,(al.add (a*4)).off+1,none⟩=some (.int .i64 k2)∧w_.cell? ⟨(al.add (a*4)).block,(al.add (a*4)).off+2,none⟩=some (.int .i64 k3)∧w_.cell? ⟨(al.add (a*4)).block,(al.add (a*4)).off+3,none⟩=some (.int .i64 k4)∧w_.cell? (as_.add (s*2))=some (.int .i64 q1)∧w_.cell? ⟨(as_.add (s*2)).block,(as_.add (s*2)).off+1,none⟩=some (.int .i64 q2)))
   clear hk hq
   obtain ⟨e0,fe0,e1,fe1,e2,fe2,e3,fe3⟩:=Hand.hc4 gK
   obtain ⟨h0_,fh0,h1_,fh1⟩:=Hand.hc2 gS
   have pa:(0:Int)≤(a:Int):=by omega
   have pa1:((a:Int)<(n:Int))=True:=eq_true (by omega)
   have pa2:(a<n)=True:=eq_true (by omega)
   have ps:(0:Int)≤(s:Int):=by omega
   have ps1:((s:Int)<(ns:Int))=True:=eq_true (by have:=HNS.out;omega)
   have ps2:(s<ns)=True:=eq_true (by have:=HNS.out;omega)
   have wa:IntKind.i64.wrap (a:Int)=(a:Int):=by rw [IntKind.wrap_i64];omega
   by_cases has:a=ns
   ·have hsa:s=ns - 1:=by omega
    have wb:IntKind.i64.wrap ((a:Int) - 1)=(s:Int):=by rw [IntKind.wrap_i64];omega
    have k0:((a:Int) == (ns:Int))=true:=by simp;omega
    have k0':(a == ns)=true:=by simp;omega
    clear has hsa
    clear hl
    go_wp2_with fail
    go_region_held3 (fun w_=>Below w.heap.size w w_∧w_.cell? ⟨p,0,none⟩=some (.slice (some al) n cl)∧w_.cell? ⟨p,1,none⟩=some (.slice (some as_) ns cs)∧w_.cell? (al.add (a*4))=some (.int .i64 k1)∧w_.cell? ⟨(al.add (a*4)).block,(al.add (a*4)).off+1,none⟩=some (.int .i64 k2)∧w_.cell? ⟨(al.add (a*4)).block,(al.add (a*4)).off+2,none⟩=some (.int .i64 k3)∧w_.cell? ⟨(al.add (a*4)).block,(al.add (a*4)).off+3,none⟩=some (.int .i64 k4)∧w_.cell? (as_.add (s*2))=some (.int .i64 q1)∧w_.cell? ⟨(as_.add (s*2)).block,(as_.add (s*2)).off+1,none⟩=some (.int .i64 q2)) (first|(refine HC.out _ ?_;repeat (with_reducible first|assumption|apply Below.drew|refine Below.setCell ?_ Hand.d _|refine Below.alloc ?_ Hand.z _))) (first|fail)
    all_goals (go_wp2;refine bodyPost_ret (results_cc rfl _ _ (w.heap.size+1) (w.heap.size+1+1) 35 31 #[.int .i64 k1,.int .i64 k2,.int .i64 k3,.int .i64 k4] #[.int .i64 q1,.int .i64 q2] (0,0) (0,0) _ _ rfl ?_ Try.underlying35 rfl (by kernel_rfl) rfl ?_ Try.underlying31 rfl (by kernel_rfl)) rfl ⟨?_,?_⟩)
    all_goals (first|(rw [HKN.out,HSN.out];first|done|rfl)|(simp (disch:=try exact Hand.z) only [Hand.q1,Hand.q2,Hand.q4,Hand.q3,Hand.q5,Option.map_some,Hand.putc_cells,List.setIfInBounds_toArray,List.set_cons_zero,List.set_cons_succ,gK,gS];done)|(simp (disch:=try exact Hand.z) only [Hand.q1,Hand.q2,Hand.q4,Hand.q3,Hand.q5,Option.map_some,Hand.putc_cells,List.setIfInBounds_toArray,List.set_cons_zero,List.set_cons_succ,gK,gS];rfl)|(repeat (with_reducible first|assumption|apply Below.drew|refine Below.setCell ?_ Hand.d _|refine Below.alloc ?_ Hand.z _)))
   ·have hsa:a=s:=by omega
    have k0:((a:Int) == (ns:Int))=false:=by simp;omega
    have k0':(a == ns)=false:=by simp;omega
    subst hsa
    clear hl
    go_wp2_with fail
    go_region_held3 (fun w_=>Below w.heap.size w w_∧w_.cell? ⟨p,0,none⟩=some (.slice (some al) n cl)∧w_.cell? ⟨p,1,none⟩=some (.slice (some as_) ns cs)∧w_.cell? (al.add (a*4))=some (.int .i64 k1)∧w_.cell? ⟨(al.add (a*4)).block,(al.add (a*4)).off+1,none⟩=some (.int .i64 k2)∧w_.cell? ⟨(al.add (a*4)).block,(al.add (a*4)).off+2,none⟩=some (.int .i64 k3)∧w_.cell? ⟨(al.add (a*4)).block,(al.add (a*4)).off+3,none⟩=some (.int .i64 k4)∧w_.cell? (as_.add (a*2))=some (.int .i64 q1)∧w_.cell? ⟨(as_.add (a*2)).block,(as_.add (a*2)).off+1,none⟩=some (.int .i64 q2)) (first|(refine HC.out _ ?_;repeat (with_reducible first|assumption|apply Below.drew|refine Below.setCell ?_ Hand.d _|refine Below.alloc ?_ Hand.z _))) (first|fail)
    all_goals (go_wp2;refine bodyPost_ret (results_cc rfl _ _ (w.heap.size+1) (w.heap.size+1+1) 35 31 #[.int .i64 k1,.int .i64 k2,.int .i64 k3,.int .i64 k4] #[.int .i64 q1,.int .i64 q2] (0,0) (0,0) _ _ rfl ?_ Try.underlying35 rfl (by kernel_rfl) rfl ?_ Try.underlying31 rfl (by kernel_rfl)) rfl ⟨?_,?_⟩)
    all_goals (first|(rw [HKN.out,HSN.out];first|done|rfl)|(simp (disch:=try exact Hand.z) only [Hand.q1,Hand.q2,Hand.q4,Hand.q3,Hand.q5,Option.map_some,Hand.putc_cells,List.setIfInBounds_toArray,List.set_cons_zero,List.set_cons_succ,gK,gS];done)|(simp (disch:=try exact Hand.z) only [Hand.q1,Hand.q2,Hand.q4,Hand.q3,Hand.q5,Option.map_some,Hand.putc_cells,List.setIfInBounds_toArray,List.set_cons_zero,List.set_cons_succ,gK,gS];rfl)|(repeat (with_reducible first|assumption|apply Below.drew|refine Below.setCell ?_ Hand.d _|refine Below.alloc ?_ Hand.z _)))
theorem qfrom_out (p:Nat) (al as_:Addr) (cl cs:Nat) (m:MapV) (t:Rt) (w:World) (hm:MapB w p al as_ cl cs m) (ho:MapOk m) (hl:m.knots.length=m.slopes.length+1) (htr:rRight t=true) :
  Calls Try.prog 104 #[.pointer (some ⟨p,0,none⟩),rv t,.bool true] w fun e w'=>e = .returned (.tuple #[kv (m.knot (m.at (·.2) t)),rv (m.slope (m.at (·.2) t))])∧Below w.heap.size w w':=by
 obtain ⟨t1,t2⟩:=t
 obtain ⟨n,hn⟩:∃ n,m.knots.length=n:=⟨_,rfl⟩
 obtain ⟨ns,hns⟩:∃ n,m.slopes.length=n:=⟨_,rfl⟩
 have hb:=hm.blk
 have h0:=ho.k0
 have h66:=ho.k1
 have hs0:=ho.s0
 rw [hns] at hs0
 rw [hn,hns] at hb hl
 rw [hn] at h0 h66
 have HM:=Lib.hid hm
 have HO:=Lib.hid ho
 have HN:=Lib.hid hn
 have HNS:=Lib.hid hns
 have HBK:=Lib.hid hb
 have HT:=Lib.hid htr
 have hpz:=(Hand.hz hb).1
 clear hm ho hn hns hb htr
 have hst:m.at (·.2) (t1,t2)=lastLe (·.2) (t1,t2) (m.knots.drop 1) 1 0:=by unfold MapV.at;cases m.knots with|nil=>rfl|cons k L=>simp [lastLe]
 have HST:=Lib.hid hst
 clear hst
 go_enter Try.func104,Try.ntmps104
 go_wp2_with fail
 obtain ⟨W,hW⟩:∃ W_,W_=((w.alloc (.cells #[.int .i64 t1,.int .i64 t2] 31)).alloc (.cells #[.int .i64 0,.int .i64 0,.int .i64 0,.int .i64 0] 35)).alloc (.cells #[.int .i64 0,.int .i64 0] 31):=⟨_,rfl⟩
 rw [← hW]
 have gT:W.heap[w.heap.size]?=some (.cells #[.int .i64 t1,.int .i64 t2] 31 (0,0)):=by rw [hW,Hand.q4 _ _ _ (by simp only [World.size_alloc];omega),Hand.q4 _ _ _ (by simp only [World.size_alloc];omega)];exact Hand.q3 _ _ _ rfl
 have gK:W.heap[w.heap.size+1]?=some (.cells #[.int .i64 0,.int .i64 0,.int .i64 0,.int .i64 0] 35 (0,0)):=by rw [hW,Hand.q4 _ _ _ (by simp only [World.size_alloc];omega)];exact Hand.q3 _ _ _ (by simp)
 have gS:W.heap[w.heap.size+1+1]?=some (.cells #[.int .i64 0,.int .i64 0] 31 (0,0)):=by rw [hW];exact Hand.q3 _ _ _ (by simp)
 have hBW:Below w.heap.size w W:=by rw [hW];exact (((Below.refl _ _).alloc (Nat.le_refl _) _).alloc (by simp) _).alloc (by simp;omega) _
 clear hW
 have GT:=Lib.hid gT
 have GK:=Lib.hid gK
 have GS:=Lib.hid gS
 have HBW:=Lib.hid hBW
 have hWz:=(Hand.hz gS).1
 clear gT gK gS hBW
 go_loopw [8,9] (fun a_ i wr=>∃ (j a:Nat),j+1≤n∧a≤j∧i = .int .i64 ((j:Int)+1)∧a_ = .int .i64 (a:Int)∧m.at (·.2) (t1,t2)=lastLe (·.2) (t1,t2) (m.knots.drop (j+1)) (j+1) a∧Below W.heap.size W wr) (fun _ i _=>n - (intOf i).toNat)
 case atStart=>exact ⟨0,0,by omega,Nat.le_refl _,rfl,rfl,HST.out,Below.refl _ _⟩
 case round =>
  obtain ⟨j,a,hj,haj,rfl,rfl,hat,hB⟩:=hrel
  have HAT:=Lib.hid hat
  clear hat
  have hBw:Below w.heap.size w wr:=HBW.out.trans (Below.mono hB HBW.out.size)
  have gb:=Hand.kb hBw HBK.out
  have gT:=Hand.kb hB GT.out
  have gK:=Hand.kb hB GK.out
  have gS:=Hand.kb hB GS.out
  obtain ⟨c0,fc0,c1,fc1⟩:=Hand.hc2 gb
  obtain ⟨d0,fd0,d1,fd1⟩:=Hand.hc2 gT
  have zb:=(Hand.hz gb).1
  have zS:=(Hand.hz gS).1
  by_cases hjn:j+1<n
  ·have p1:((j:Int)+1<(n:Int))=True:=eq_true (by omega)
   have hj1:j+1<m.knots.length:=by have:=HN.out;omega
   have w2_:IntKind.i64.wrap (j:Int)=(j:Int):=by rw [IntKind.wrap_i64];omega
   have p3:(0:Int)≤(j:Int)+1:=by omega
   have p7:(j+1<n)=True:=eq_true (by omega)
   have hrt:=HO.out.kq _ (List.getElem_mem hj1)
   obtain ⟨k0,k1_,k2_,k3_⟩:=(HM.out.kn.below hBw) (j+1) hj1
   have hdr:m.knots.drop (j+1)=m.knots[j+1] :: m.knots.drop (j+1+1):=List.drop_eq_getElem_cons hj1
   obtain ⟨⟨⟨k1,k2⟩,k3,k4⟩,hk⟩:∃ k,m.knots[j+1]=k:=⟨_,rfl⟩
   rw [hk] at k0 k1_ k2_ k3_ hrt hdr
   dsimp only at k0 k1_ k2_ k3_ hrt
   have M1:=Lib.hid (fun u=>qcmp_any (k3,k4) (t1,t2) u hrt.2 HT.out)
   have hat2:=HAT.out
   rw [hdr] at hat2
   simp only [lastLe] at hat2
   obtain ⟨q,hq⟩:∃ q,rCmp (k3,k4) (t1,t2)=q:=⟨_,rfl⟩
   rw [hq] at M1 hat2
   dsimp only [rv] at M1
   have HAT2:=Lib.hid hat2
   have CKJ:=Lib.hid (fun (w_:World) (h:Below w.heap.size w w_)=>(by have x:=(HM.out.kn.below h) (j+1) hj1;rw [hk] at x;exact x:w_.cell? (al.add ((j+1)*4))=some (.int .i64 k1)∧w_.cell? ⟨(al.add ((j+1)*4)).block,(al.add ((j+1)*4)).off+1,none⟩=some (.int .i64 k2)∧w_.cell? ⟨(al.add ((j+1)*4)).block,(al.add ((j+1)*4)).off+2,none⟩=some (.int .i64 k3)∧w_.cell? ⟨(al.add ((j+1)*4)).block,(al.add ((j+1)*4)).off+3,none⟩=some (.int .i64 k4)))
   clear hk hrt hdr hq hat2
   have zw:(wr.heap.size=w.heap.size)=False:=eq_false (by omega)
   have zw2:(w.heap.size=wr.heap.size)=False:=eq_false (by omega)
   obtain ⟨tz0,tz1,tz2,ty0,ty1⟩:=Hand.hz gT
   have hBA:=hBw.alloc (o:=.cells #[.int .i64 k1,.int .i64 k2] 31) hBw.size
   obtain ⟨v0,v1,v2,v3⟩:=CKJ.out _ hBA
   obtain ⟨l0,_,l1,_⟩:=Hand.hc2 (Hand.kb hBA HBK.out)
   obtain ⟨tt0,ft0,tt1,ft1⟩:=Hand.hc2 (Hand.kb (hB.alloc (o:=.cells #[.int .i64 k1,.int .i64 k2] 31) hB.size) GT.out)
   go_wp2_with fail
   with_reducible refine (M1.out _).mono ?_
   rintro e_ w2 ⟨rfl,hb2⟩
   have hB2:Below W.heap.size W w2:=Hand.stepB hb2 (by repeat (with_reducible first|assumption|refine Below.setCell ?_ (by dsimp only;have:=hB.size;omega) _|refine Below.alloc ?_ hB.size _)) (Nat.le_refl _)
   clear hb2
   by_cases hq0:q≤0
   ·have k0:(q≤0)=True:=eq_true hq0
    go_wp2
    go_roundw
    case rel=>exact ⟨j+1,j+1,by omega,by omega,by rw [Int.natCast_add];rfl,by rw [Int.natCast_add];rfl,HAT2.out.trans (by rw [if_pos hq0]),hB2⟩
    case measure=>simp [intOf];omega
   ·have k0:(q≤0)=False:=eq_false hq0
    go_wp2
    go_roundw
    case rel=>exact ⟨j+1,a,by omega,by omega,by rw [Int.natCast_add];rfl,rfl,HAT2.out.trans (by rw [if_neg (by omega)]),hB2⟩
    case measure=>simp [intOf];omega
  ·have p1:((j:Int)+1<(n:Int))=False:=eq_false (by omega)
   have HA:=Lib.hid (show m.at (·.2) (t1,t2)=a from by rw [HAT.out,List.drop_eq_nil_of_le (by have:=HN.out;omega)];rfl)
   have hal:a<m.knots.length:=by have:=HN.out;omega
   obtain ⟨s,hs⟩:∃ s,min a (ns - 1)=s:=⟨_,rfl⟩
   have hsl:s<m.slopes.length:=by have:=HNS.out;omega
   have HKN:=Lib.hid (show m.knot (m.at (·.2) (t1,t2))=m.knots[a] from by rw [HA.out];unfold MapV.knot;rw [List.getD_eq_getElem?_getD,List.getElem?_eq_getElem hal];rfl)
   have HSN:=Lib.hid (show m.slope (m.at (·.2) (t1,t2))=m.slopes[s] from by rw [HA.out];unfold MapV.slope;rw [HNS.out,hs,List.getD_eq_getElem?_getD,List.getElem?_eq_getElem hsl];rfl)
   obtain ⟨⟨⟨k1,k2⟩,k3,k4⟩,hk⟩:∃ k,m.knots[a]=k:=⟨_,rfl⟩
   obtain ⟨⟨q1,q2⟩,hq⟩:∃ k,m.slopes[s]=k:=⟨_,rfl⟩
   rw [hk] at HKN
   rw [hq] at HSN
   have HC:=Lib.hid (fun (w_:World) (h:Below w.heap.size w w_)=>(by have x:=(HM.out.kn.below h) a hal;have y:=(HM.out.sl.below h) s hsl;rw [hk] at x;rw [hq] at y;obtain ⟨x0,x1,x2,x3⟩:=x;have g:=Hand.hc2 (Hand.kb h HBK.out);exact ⟨h,g.1,g.2.2.1,x0,x1,x2,x3,y.1,y.2⟩:Below w.heap.size w w_∧w_.cell? ⟨p,0,none⟩=some (.slice (some al) n cl)∧w_.cell? ⟨p,1,none⟩=some (.slice (some as_) ns cs)∧w_.cell? (al.add (a*4))=some (.int .i64 k1)∧w_.cell? ⟨(al.add (a*4)).block,(al.add (a*4)).off+1,none⟩=some (.int .i64 k2)∧w_.cell? ⟨(al.add (a*4)).block,(al.add (a*4)).off+2,none⟩=some (.int .i64 k3)∧w_.cell? ⟨(al.add (a*4)).block,(al.add (a*4)).off+3,none⟩=some (.int .i64 k4)∧w_.cell? (as_.add (s*2))=some (.int .i64 q1)∧w_.cell? ⟨(as_.add (s*2)).block,(as_.add (s*2)).off+1,none⟩=some (.int .i64 q2)))
   clear hk hq
   obtain ⟨e0,fe0,e1,fe1,e2,fe2,e3,fe3⟩:=Hand.hc4 gK
   obtain ⟨h0_,fh0,h1_,fh1⟩:=Hand.hc2 gS
   have pa:(0:Int)≤(a:Int):=by omega
   have pa1:((a:Int)<(n:Int))=True:=eq_true (by omega)
   have pa2:(a<n)=True:=eq_true (by omega)
   have ps:(0:Int)≤(s:Int):=by omega
   have ps1:((s:Int)<(ns:Int))=True:=eq_true (by have:=HNS.out;omega)
   have ps2:(s<ns)=True:=eq_true (by have:=HNS.out;omega)
   have wa:IntKind.i64.wrap (a:Int)=(a:Int):=by rw [IntKind.wrap_i64];omega
   by_cases has:a=ns
   ·have hsa:s=ns - 1:=by omega
    have wb:IntKind.i64.wrap ((a:Int) - 1)=(s:Int):=by rw [IntKind.wrap_i64];omega
    have k0:((a:Int) == (ns:Int))=true:=by simp;omega
    have k0':(a == ns)=true:=by simp;omega
    clear has hsa
    clear hl
    go_wp2_with fail
    go_region_held3 (fun w_=>Below w.heap.size w w_∧w_.cell? ⟨p,0,none⟩=some (.slice (some al) n cl)∧w_.cell? ⟨p,1,none⟩=some (.slice (some as_) ns cs)∧w_.cell? (al.add (a*4))=some (.int .i64 k1)∧w_.cell? ⟨(al.add (a*4)).block,(al.add (a*4)).off+1,none⟩=some (.int .i64 k2)∧w_.cell? ⟨(al.add (a*4)).block,(al.add (a*4)).off+2,none⟩=some (.int .i64 k3)∧w_.cell? ⟨(al.add (a*4)).block,(al.add (a*4)).off+3,none⟩=some (.int .i64 k4)∧w_.cell? (as_.add (s*2))=some (.int .i64 q1)∧w_.cell? ⟨(as_.add (s*2)).block,(as_.add (s*2)).off+1,none⟩=some (.int .i64 q2)) (first|(refine HC.out _ ?_;repeat (with_reducible first|assumption|apply Below.drew|refine Below.setCell ?_ Hand.d _|refine Below.alloc ?_ Hand.z _))) (first|fail)
    all_goals (go_wp2;refine bodyPost_ret (results_cc rfl _ _ (w.heap.size+1) (w.heap.size+1+1) 35 31 #[.int .i64 k1,.int .i64 k2,.int .i64 k3,.int .i64 k4] #[.int .i64 q1,.int .i64 q2] (0,0) (0,0) _ _ rfl ?_ Try.underlying35 rfl (by kernel_rfl) rfl ?_ Try.underlying31 rfl (by kernel_rfl)) rfl ⟨?_,?_⟩)
    all_goals (first|(rw [HKN.out,HSN.out];first|done|rfl)|(simp (disch:=try exact Hand.z) only [Hand.q1,Hand.q2,Hand.q4,Hand.q3,Hand.q5,Option.map_some,Hand.putc_cells,List.setIfInBounds_toArray,List.set_cons_zero,List.set_cons_succ,gK,gS];done)|(simp (disch:=try exact Hand.z) only [Hand.q1,Hand.q2,Hand.q4,Hand.q3,Hand.q5,Option.map_some,Hand.putc_cells,List.setIfInBounds_toArray,List.set_cons_zero,List.set_cons_succ,gK,gS];rfl)|(repeat (with_reducible first|assumption|apply Below.drew|refine Below.setCell ?_ Hand.d _|refine Below.alloc ?_ Hand.z _)))
   ·have hsa:a=s:=by omega
    have k0:((a:Int) == (ns:Int))=false:=by simp;omega
    have k0':(a == ns)=false:=by simp;omega
    subst hsa
    clear hl
    go_wp2_with fail
    go_region_held3 (fun w_=>Below w.heap.size w w_∧w_.cell? ⟨p,0,none⟩=some (.slice (some al) n cl)∧w_.cell? ⟨p,1,none⟩=some (.slice (some as_) ns cs)∧w_.cell? (al.add (a*4))=some (.int .i64 k1)∧w_.cell? ⟨(al.add (a*4)).block,(al.add (a*4)).off+1,none⟩=some (.int .i64 k2)∧w_.cell? ⟨(al.add (a*4)).block,(al.add (a*4)).off+2,none⟩=some (.int .i64 k3)∧w_.cell? ⟨(al.add (a*4)).block,(al.add (a*4)).off+3,none⟩=some (.int .i64 k4)∧w_.cell? (as_.add (a*2))=some (.int .i64 q1)∧w_.cell? ⟨(as_.add (a*2)).block,(as_.add (a*2)).off+1,none⟩=some (.int .i64 q2)) (first|(refine HC.out _ ?_;repeat (with_reducible first|assumption|apply Below.drew|refine Below.setCell ?_ Hand.d _|refine Below.alloc ?_ Hand.z _))) (first|fail)
    all_goals (go_wp2;refine bodyPost_ret (results_cc rfl _ _ (w.heap.size+1) (w.heap.size+1+1) 35 31 #[.int .i64 k1,.int .i64 k2,.int .i64 k3,.int .i64 k4] #[.int .i64 q1,.int .i64 q2] (0,0) (0,0) _ _ rfl ?_ Try.underlying35 rfl (by kernel_rfl) rfl ?_ Try.underlying31 rfl (by kernel_rfl)) rfl ⟨?_,?_⟩)
    all_goals (first|(rw [HKN.out,HSN.out];first|done|rfl)|(simp (disch:=try exact Hand.z) only [Hand.q1,Hand.q2,Hand.q4,Hand.q3,Hand.q5,Option.map_some,Hand.putc_cells,List.setIfInBounds_toArray,List.set_cons_zero,List.set_cons_succ,gK,gS];done)|(simp (disch:=try exact Hand.z) only [Hand.q1,Hand.q2,Hand.q4,Hand.q3,Hand.q5,Option.map_some,Hand.putc_cells,List.setIfInBounds_toArray,List.set_cons_zero,List.set_cons_succ,gK,gS];rfl)|(repeat (with_reducible first|assumption|apply Below.drew|refine Below.setCell ?_ Hand.d _|refine Below.alloc ?_ Hand.z _)))
end Go.Proofs.Ythlpaglldhgmfaa.PA
namespace Go.Proofs.Ythlpaglldhgmfaa.PA
open Go Go.RowKit Go.Proofs.YthlpaglldhgmfaaW.PrintWords Go.Proofs.YthlpaglldhgmfaaW.PrintLast Go.Proofs.YthlpaglldhgmfaaW.PrintMore
set_option linter.unusedSimpArgs false
set_option linter.unusedVariables false
theorem rapp_bad (p:Nat) (t1 t2:Int) (w:World)
  (m1:∀ w,Calls Try.prog 61 #[.agg #[.int .i64 t1,.int .i64 t2]] w fun e w'=>e = .returned (.bool false)∧Below w.heap.size w w') :
  Calls Try.prog 73 #[.pointer (some ⟨p,0,none⟩),.agg #[.int .i64 t1,.int .i64 t2]] w fun e w'=>e = .returned (.tuple #[.agg #[.int .i64 0,.int .i64 0],.int .i64 12])∧Below w.heap.size w w':=by
 have M1:=Lib.hid m1
 clear m1
 go_enter Try.func73,Try.ntmps73
 go_wp2_with fail
 with_reducible refine (M1.out _).mono ?_
 rintro e w1 ⟨rfl,hb1⟩
 have h_T:w1.heap[w.heap.size]?=some (.cells #[.int .i64 t1,.int .i64 t2] 31 (0,0)):=by
  exact Hand.kb hb1 Hand.k
 have h_R:w1.heap[w.heap.size+1]?=some (.cells #[.int .i64 0,.int .i64 0] 31 (0,0)):=by
  exact Hand.kb hb1 Hand.k
 have hB':Below w.heap.size w w1:=Hand.stepB hb1 Hand.b (Nat.le_refl _)
 clear hb1
 have g_T:=h_T
 have g_R:=h_R
 have hB:=hB'
 clear hB' h_T h_R
 obtain ⟨z_T,z1_T,z2_T,y0_T,y1_T⟩:=Hand.hz g_T
 obtain ⟨c_T_0,f_T_0,c_T_1,f_T_1⟩:=Hand.hc2 g_T
 obtain ⟨z_R,z1_R,z2_R,y0_R,y1_R⟩:=Hand.hz g_R
 obtain ⟨c_R_0,f_R_0,c_R_1,f_R_1⟩:=Hand.hc2 g_R
 have zw:w.heap.size≤w1.heap.size:=hB.size
 have HG:=Lib.hid (And.intro g_T (And.intro g_R (hB)))
 clear g_T g_R hB
 go_wp2
 obtain ⟨g_T,g_R,hB⟩:=HG.out
 refine bodyPost_ret (results_ct rfl _ _ (w.heap.size+1) 31 #[.int .i64 0,.int .i64 0] (0,0) _ rfl ?_ Try.underlying31 rfl (by kernel_rfl)) rfl ⟨rfl,?_⟩
 ·simp (disch:=try exact Hand.z) only [Hand.q1,Hand.q2,Hand.q4,Hand.q3,Hand.q5,Hand.q6,Option.map_some,Hand.putc_cells,List.setIfInBounds_toArray,List.set_cons_zero,List.set_cons_succ,g_R];try rfl
 ·exact Hand.b
theorem rapp_ok (p:Nat) (t1 t2 k1 k2 k3 k4 s1 s2 x1 x2 e1:Int) (w:World)
  (m1:∀ w,Calls Try.prog 61 #[.agg #[.int .i64 t1,.int .i64 t2]] w fun e w'=>e = .returned (.bool true)∧Below w.heap.size w w')
  (m2:∀ u,Below w.heap.size w u → Calls Try.prog 104 #[.pointer (some ⟨p,0,none⟩),.agg #[.int .i64 t1,.int .i64 t2],.bool false] u fun e w'=>e = .returned (.tuple #[.agg #[.int .i64 k1,.int .i64 k2,.int .i64 k3,.int .i64 k4],.agg #[.int .i64 s1,.int .i64 s2]])∧Below u.heap.size u w')
  (m3:∀ w,Calls Try.prog 90 #[.agg #[.int .i64 k1,.int .i64 k2,.int .i64 k3,.int .i64 k4],.agg #[.int .i64 s1,.int .i64 s2],.agg #[.int .i64 t1,.int .i64 t2]] w fun e w'=>e = .returned (.tuple #[.agg #[.int .i64 x1,.int .i64 x2],.int .i64 e1])∧Below w.heap.size w w') :
  Calls Try.prog 73 #[.pointer (some ⟨p,0,none⟩),.agg #[.int .i64 t1,.int .i64 t2]] w fun e w'=>e = .returned (.tuple #[.agg #[.int .i64 x1,.int .i64 x2],.int .i64 e1])∧Below w.heap.size w w':=by
 have M1:=Lib.hid m1
 have M2:=Lib.hid m2
 have M3:=Lib.hid m3
 clear m1 m2 m3
 go_enter Try.func73,Try.ntmps73
 go_wp2_with fail
 with_reducible refine (M1.out _).mono ?_
 rintro e w1 ⟨rfl,hb1⟩
 have h_T:w1.heap[w.heap.size]?=some (.cells #[.int .i64 t1,.int .i64 t2] 31 (0,0)):=by
  exact Hand.kb hb1 Hand.k
 have h_R:w1.heap[w.heap.size+1]?=some (.cells #[.int .i64 0,.int .i64 0] 31 (0,0)):=by
  exact Hand.kb hb1 Hand.k
 have hB':Below w.heap.size w w1:=Hand.stepB hb1 Hand.b (Nat.le_refl _)
 clear hb1
 have g_T:=h_T
 have g_R:=h_R
 have hB:=hB'
 clear hB' h_T h_R
 obtain ⟨z_T,z1_T,z2_T,y0_T,y1_T⟩:=Hand.hz g_T
 obtain ⟨c_T_0,f_T_0,c_T_1,f_T_1⟩:=Hand.hc2 g_T
 obtain ⟨z_R,z1_R,z2_R,y0_R,y1_R⟩:=Hand.hz g_R
 obtain ⟨c_R_0,f_R_0,c_R_1,f_R_1⟩:=Hand.hc2 g_R
 have zw:w.heap.size≤w1.heap.size:=hB.size
 have HG:=Lib.hid (And.intro g_T (And.intro g_R (hB)))
 clear g_T g_R hB
 go_wp2_with fail
 with_reducible refine (M2.out _ HG.out.2.2).mono ?_
 rintro e w2 ⟨rfl,hb2⟩
 obtain ⟨g_T,g_R,hB⟩:=HG.out
 have h_T:w2.heap[w.heap.size]?=some (.cells #[.int .i64 t1,.int .i64 t2] 31 (0,0)):=by
  refine Hand.kb hb2 ?_;first|with_reducible exact g_T|(simp (disch:=try exact Hand.z) only [Hand.q2,Hand.q1,Hand.q5,Hand.q6,Hand.q4,Hand.q3,g_T]<;>rfl)
 have h_R:w2.heap[w.heap.size+1]?=some (.cells #[.int .i64 0,.int .i64 0] 31 (0,0)):=by
  refine Hand.kb hb2 ?_;first|with_reducible exact g_R|(simp (disch:=try exact Hand.z) only [Hand.q2,Hand.q1,Hand.q5,Hand.q6,Hand.q4,Hand.q3,g_R]<;>rfl)
 have hB':Below w.heap.size w w2:=Hand.stepB hb2 Hand.b (Nat.le_refl _)
 clear HG hB g_T g_R zw z_T z1_T z2_T y0_T y1_T c_T_0 f_T_0 c_T_1 f_T_1 z_R z1_R z2_R y0_R y1_R c_R_0 f_R_0 c_R_1 f_R_1
 clear hb2
 have g_T:=h_T
 have g_R:=h_R
 have hB:=hB'
 clear hB' h_T h_R
 obtain ⟨z_T,z1_T,z2_T,y0_T,y1_T⟩:=Hand.hz g_T
 obtain ⟨c_T_0,f_T_0,c_T_1,f_T_1⟩:=Hand.hc2 g_T
 obtain ⟨z_R,z1_R,z2_R,y0_R,y1_R⟩:=Hand.hz g_R
 obtain ⟨c_R_0,f_R_0,c_R_1,f_R_1⟩:=Hand.hc2 g_R
 have zw:w.heap.size≤w2.heap.size:=hB.size
 have HG:=Lib.hid (And.intro g_T (And.intro g_R (hB)))
 clear g_T g_R hB
 go_wp2_with fail
 with_reducible refine (M3.out _).mono ?_
 rintro e w3 ⟨rfl,hb3⟩
 obtain ⟨g_T,g_R,hB⟩:=HG.out
 have h_T:w3.heap[w.heap.size]?=some (.cells #[.int .i64 t1,.int .i64 t2] 31 (0,0)):=by
  refine Hand.kb hb3 ?_;first|with_reducible exact g_T|(simp (disch:=try exact Hand.z) only [Hand.q2,Hand.q1,Hand.q5,Hand.q6,Hand.q4,Hand.q3,g_T]<;>rfl)
 have h_R:w3.heap[w.heap.size+1]?=some (.cells #[.int .i64 0,.int .i64 0] 31 (0,0)):=by
  refine Hand.kb hb3 ?_;first|with_reducible exact g_R|(simp (disch:=try exact Hand.z) only [Hand.q2,Hand.q1,Hand.q5,Hand.q6,Hand.q4,Hand.q3,g_R]<;>rfl)
 have h_K:w3.heap[w2.heap.size]?=some (.cells #[.int .i64 k1,.int .i64 k2,.int .i64 k3,.int .i64 k4] 35 (0,0)):=by
  exact Hand.kb hb3 Hand.k
 have h_S:w3.heap[w2.heap.size+1]?=some (.cells #[.int .i64 s1,.int .i64 s2] 31 (0,0)):=by
  exact Hand.kb hb3 Hand.k
 have hB':Below w.heap.size w w3:=Hand.stepB hb3 Hand.b (Nat.le_refl _)
 clear HG hB g_T g_R zw z_T z1_T z2_T y0_T y1_T c_T_0 f_T_0 c_T_1 f_T_1 z_R z1_R z2_R y0_R y1_R c_R_0 f_R_0 c_R_1 f_R_1
 clear hb3
 have g_T:=h_T
 have g_R:=h_R
 have g_K:=h_K
 have g_S:=h_S
 have hB:=hB'
 clear hB' h_T h_R h_K h_S
 obtain ⟨z_T,z1_T,z2_T,y0_T,y1_T⟩:=Hand.hz g_T
 obtain ⟨c_T_0,f_T_0,c_T_1,f_T_1⟩:=Hand.hc2 g_T
 obtain ⟨z_R,z1_R,z2_R,y0_R,y1_R⟩:=Hand.hz g_R
 obtain ⟨c_R_0,f_R_0,c_R_1,f_R_1⟩:=Hand.hc2 g_R
 obtain ⟨z_K,z1_K,z2_K,y0_K,y1_K⟩:=Hand.hz g_K
 obtain ⟨c_K_0,f_K_0,c_K_1,f_K_1,c_K_2,f_K_2,c_K_3,f_K_3⟩:=Hand.hc4 g_K
 obtain ⟨z_S,z1_S,z2_S,y0_S,y1_S⟩:=Hand.hz g_S
 obtain ⟨c_S_0,f_S_0,c_S_1,f_S_1⟩:=Hand.hc2 g_S
 have zw:w.heap.size≤w3.heap.size:=hB.size
 have HG:=Lib.hid (And.intro g_T (And.intro g_R (And.intro g_K (And.intro g_S (hB)))))
 clear g_T g_R g_K g_S hB
 go_wp2
 obtain ⟨g_T,g_R,g_K,g_S,hB⟩:=HG.out
 refine bodyPost_ret (results_ct rfl _ _ (w.heap.size+1) 31 #[.int .i64 x1,.int .i64 x2] (0,0) _ rfl ?_ Try.underlying31 rfl (by kernel_rfl)) rfl ⟨rfl,?_⟩
 ·simp (disch:=try exact Hand.z) only [Hand.q1,Hand.q2,Hand.q4,Hand.q3,Hand.q5,Hand.q6,Option.map_some,Hand.putc_cells,List.setIfInBounds_toArray,List.set_cons_zero,List.set_cons_succ,g_R];try rfl
 ·exact Hand.b
theorem rund_bad (p:Nat) (t1 t2:Int) (w:World)
  (m1:∀ w,Calls Try.prog 61 #[.agg #[.int .i64 t1,.int .i64 t2]] w fun e w'=>e = .returned (.bool false)∧Below w.heap.size w w') :
  Calls Try.prog 71 #[.pointer (some ⟨p,0,none⟩),.agg #[.int .i64 t1,.int .i64 t2]] w fun e w'=>e = .returned (.tuple #[.agg #[.int .i64 0,.int .i64 0],.int .i64 12])∧Below w.heap.size w w':=by
 have M1:=Lib.hid m1
 clear m1
 go_enter Try.func71,Try.ntmps71
 go_wp2_with fail
 with_reducible refine (M1.out _).mono ?_
 rintro e w1 ⟨rfl,hb1⟩
 have h_T:w1.heap[w.heap.size]?=some (.cells #[.int .i64 t1,.int .i64 t2] 31 (0,0)):=by
  exact Hand.kb hb1 Hand.k
 have h_R:w1.heap[w.heap.size+1]?=some (.cells #[.int .i64 0,.int .i64 0] 31 (0,0)):=by
  exact Hand.kb hb1 Hand.k
 have hB':Below w.heap.size w w1:=Hand.stepB hb1 Hand.b (Nat.le_refl _)
 clear hb1
 have g_T:=h_T
 have g_R:=h_R
 have hB:=hB'
 clear hB' h_T h_R
 obtain ⟨z_T,z1_T,z2_T,y0_T,y1_T⟩:=Hand.hz g_T
 obtain ⟨c_T_0,f_T_0,c_T_1,f_T_1⟩:=Hand.hc2 g_T
 obtain ⟨z_R,z1_R,z2_R,y0_R,y1_R⟩:=Hand.hz g_R
 obtain ⟨c_R_0,f_R_0,c_R_1,f_R_1⟩:=Hand.hc2 g_R
 have zw:w.heap.size≤w1.heap.size:=hB.size
 have HG:=Lib.hid (And.intro g_T (And.intro g_R (hB)))
 clear g_T g_R hB
 go_wp2
 obtain ⟨g_T,g_R,hB⟩:=HG.out
 refine bodyPost_ret (results_ct rfl _ _ (w.heap.size+1) 31 #[.int .i64 0,.int .i64 0] (0,0) _ rfl ?_ Try.underlying31 rfl (by kernel_rfl)) rfl ⟨rfl,?_⟩
 ·simp (disch:=try exact Hand.z) only [Hand.q1,Hand.q2,Hand.q4,Hand.q3,Hand.q5,Hand.q6,Option.map_some,Hand.putc_cells,List.setIfInBounds_toArray,List.set_cons_zero,List.set_cons_succ,g_R];try rfl
 ·exact Hand.b
theorem rund_ok (p:Nat) (t1 t2 k1 k2 k3 k4 s1 s2 x1 x2 e1:Int) (w:World)
  (m1:∀ w,Calls Try.prog 61 #[.agg #[.int .i64 t1,.int .i64 t2]] w fun e w'=>e = .returned (.bool true)∧Below w.heap.size w w')
  (m2:∀ u,Below w.heap.size w u → Calls Try.prog 104 #[.pointer (some ⟨p,0,none⟩),.agg #[.int .i64 t1,.int .i64 t2],.bool true] u fun e w'=>e = .returned (.tuple #[.agg #[.int .i64 k1,.int .i64 k2,.int .i64 k3,.int .i64 k4],.agg #[.int .i64 s1,.int .i64 s2]])∧Below u.heap.size u w')
  (m3:∀ w,Calls Try.prog 105 #[.agg #[.int .i64 k1,.int .i64 k2,.int .i64 k3,.int .i64 k4],.agg #[.int .i64 s1,.int .i64 s2],.agg #[.int .i64 t1,.int .i64 t2]] w fun e w'=>e = .returned (.tuple #[.agg #[.int .i64 x1,.int .i64 x2],.int .i64 e1])∧Below w.heap.size w w') :
  Calls Try.prog 71 #[.pointer (some ⟨p,0,none⟩),.agg #[.int .i64 t1,.int .i64 t2]] w fun e w'=>e = .returned (.tuple #[.agg #[.int .i64 x1,.int .i64 x2],.int .i64 e1])∧Below w.heap.size w w':=by
 have M1:=Lib.hid m1
 have M2:=Lib.hid m2
 have M3:=Lib.hid m3
 clear m1 m2 m3
 go_enter Try.func71,Try.ntmps71
 go_wp2_with fail
 with_reducible refine (M1.out _).mono ?_
 rintro e w1 ⟨rfl,hb1⟩
 have h_T:w1.heap[w.heap.size]?=some (.cells #[.int .i64 t1,.int .i64 t2] 31 (0,0)):=by
  exact Hand.kb hb1 Hand.k
 have h_R:w1.heap[w.heap.size+1]?=some (.cells #[.int .i64 0,.int .i64 0] 31 (0,0)):=by
  exact Hand.kb hb1 Hand.k
 have hB':Below w.heap.size w w1:=Hand.stepB hb1 Hand.b (Nat.le_refl _)
 clear hb1
 have g_T:=h_T
 have g_R:=h_R
 have hB:=hB'
 clear hB' h_T h_R
 obtain ⟨z_T,z1_T,z2_T,y0_T,y1_T⟩:=Hand.hz g_T
 obtain ⟨c_T_0,f_T_0,c_T_1,f_T_1⟩:=Hand.hc2 g_T
 obtain ⟨z_R,z1_R,z2_R,y0_R,y1_R⟩:=Hand.hz g_R
 obtain ⟨c_R_0,f_R_0,c_R_1,f_R_1⟩:=Hand.hc2 g_R
 have zw:w.heap.size≤w1.heap.size:=hB.size
 have HG:=Lib.hid (And.intro g_T (And.intro g_R (hB)))
 clear g_T g_R hB
 go_wp2_with fail
 with_reducible refine (M2.out _ HG.out.2.2).mono ?_
 rintro e w2 ⟨rfl,hb2⟩
 obtain ⟨g_T,g_R,hB⟩:=HG.out
 have h_T:w2.heap[w.heap.size]?=some (.cells #[.int .i64 t1,.int .i64 t2] 31 (0,0)):=by
  refine Hand.kb hb2 ?_;first|with_reducible exact g_T|(simp (disch:=try exact Hand.z) only [Hand.q2,Hand.q1,Hand.q5,Hand.q6,Hand.q4,Hand.q3,g_T]<;>rfl)
 have h_R:w2.heap[w.heap.size+1]?=some (.cells #[.int .i64 0,.int .i64 0] 31 (0,0)):=by
  refine Hand.kb hb2 ?_;first|with_reducible exact g_R|(simp (disch:=try exact Hand.z) only [Hand.q2,Hand.q1,Hand.q5,Hand.q6,Hand.q4,Hand.q3,g_R]<;>rfl)
 have hB':Below w.heap.size w w2:=Hand.stepB hb2 Hand.b (Nat.le_refl _)
 clear HG hB g_T g_R zw z_T z1_T z2_T y0_T y1_T c_T_0 f_T_0 c_T_1 f_T_1 z_R z1_R z2_R y0_R y1_R c_R_0 f_R_0 c_R_1 f_R_1
 clear hb2
 have g_T:=h_T
 have g_R:=h_R
 have hB:=hB'
 clear hB' h_T h_R
 obtain ⟨z_T,z1_T,z2_T,y0_T,y1_T⟩:=Hand.hz g_T
 obtain ⟨c_T_0,f_T_0,c_T_1,f_T_1⟩:=Hand.hc2 g_T
 obtain ⟨z_R,z1_R,z2_R,y0_R,y1_R⟩:=Hand.hz g_R
 obtain ⟨c_R_0,f_R_0,c_R_1,f_R_1⟩:=Hand.hc2 g_R
 have zw:w.heap.size≤w2.heap.size:=hB.size
 have HG:=Lib.hid (And.intro g_T (And.intro g_R (hB)))
 clear g_T g_R hB
 go_wp2_with fail
 with_reducible refine (M3.out _).mono ?_
 rintro e w3 ⟨rfl,hb3⟩
 obtain ⟨g_T,g_R,hB⟩:=HG.out
 have h_T:w3.heap[w.heap.size]?=some (.cells #[.int .i64 t1,.int .i64 t2] 31 (0,0)):=by
  refine Hand.kb hb3 ?_;first|with_reducible exact g_T|(simp (disch:=try exact Hand.z) only [Hand.q2,Hand.q1,Hand.q5,Hand.q6,Hand.q4,Hand.q3,g_T]<;>rfl)
 have h_R:w3.heap[w.heap.size+1]?=some (.cells #[.int .i64 0,.int .i64 0] 31 (0,0)):=by
  refine Hand.kb hb3 ?_;first|with_reducible exact g_R|(simp (disch:=try exact Hand.z) only [Hand.q2,Hand.q1,Hand.q5,Hand.q6,Hand.q4,Hand.q3,g_R]<;>rfl)
 have h_K:w3.heap[w2.heap.size]?=some (.cells #[.int .i64 k1,.int .i64 k2,.int .i64 k3,.int .i64 k4] 35 (0,0)):=by
  exact Hand.kb hb3 Hand.k
 have h_S:w3.heap[w2.heap.size+1]?=some (.cells #[.int .i64 s1,.int .i64 s2] 31 (0,0)):=by
  exact Hand.kb hb3 Hand.k
 have hB':Below w.heap.size w w3:=Hand.stepB hb3 Hand.b (Nat.le_refl _)
 clear HG hB g_T g_R zw z_T z1_T z2_T y0_T y1_T c_T_0 f_T_0 c_T_1 f_T_1 z_R z1_R z2_R y0_R y1_R c_R_0 f_R_0 c_R_1 f_R_1
 clear hb3
 have g_T:=h_T
 have g_R:=h_R
 have g_K:=h_K
 have g_S:=h_S
 have hB:=hB'
 clear hB' h_T h_R h_K h_S
 obtain ⟨z_T,z1_T,z2_T,y0_T,y1_T⟩:=Hand.hz g_T
 obtain ⟨c_T_0,f_T_0,c_T_1,f_T_1⟩:=Hand.hc2 g_T
 obtain ⟨z_R,z1_R,z2_R,y0_R,y1_R⟩:=Hand.hz g_R
 obtain ⟨c_R_0,f_R_0,c_R_1,f_R_1⟩:=Hand.hc2 g_R
 obtain ⟨z_K,z1_K,z2_K,y0_K,y1_K⟩:=Hand.hz g_K
 obtain ⟨c_K_0,f_K_0,c_K_1,f_K_1,c_K_2,f_K_2,c_K_3,f_K_3⟩:=Hand.hc4 g_K
 obtain ⟨z_S,z1_S,z2_S,y0_S,y1_S⟩:=Hand.hz g_S
 obtain ⟨c_S_0,f_S_0,c_S_1,f_S_1⟩:=Hand.hc2 g_S
 have zw:w.heap.size≤w3.heap.size:=hB.size
 have HG:=Lib.hid (And.intro g_T (And.intro g_R (And.intro g_K (And.intro g_S (hB)))))
 clear g_T g_R g_K g_S hB
 go_wp2
 obtain ⟨g_T,g_R,g_K,g_S,hB⟩:=HG.out
 refine bodyPost_ret (results_ct rfl _ _ (w.heap.size+1) 31 #[.int .i64 x1,.int .i64 x2] (0,0) _ rfl ?_ Try.underlying31 rfl (by kernel_rfl)) rfl ⟨rfl,?_⟩
 ·simp (disch:=try exact Hand.z) only [Hand.q1,Hand.q2,Hand.q4,Hand.q3,Hand.q5,Hand.q6,Option.map_some,Hand.putc_cells,List.setIfInBounds_toArray,List.set_cons_zero,List.set_cons_succ,g_R];try rfl
 ·exact Hand.b
theorem qapp_any (p:Nat) (al as_:Addr) (cl cs:Nat) (m:MapV) (t:Rt) (w:World) (hm:MapB w p al as_ cl cs m) (ho:MapOk m) (hl:m.knots.length=m.slopes.length+1) :
  Calls Try.prog 73 #[.pointer (some ⟨p,0,none⟩),rv t] w fun e w'=>e = .returned (.tuple #[rv (m.app t).1,.int .i64 (m.app t).2])∧Below w.heap.size w w':=by
 have hk:=app_ m ho (·.1) t
 have MR:=fun w=>qright_any t w
 unfold MapV.app
 cases h:rRight t
 ·rw [if_neg (by decide)]
  rw [h] at MR
  exact rapp_bad p t.1 t.2 w MR
 ·rw [if_pos rfl]
  rw [h] at MR
  have MF:=fun (u:World) (hb:Below w.heap.size w u)=>qfrom_in p al as_ cl cs m t u (hm.below hb) ho hl h
  obtain ⟨k,hkk⟩:∃ k,m.knot (m.at (·.1) t)=k:=⟨_,rfl⟩
  obtain ⟨s,hss⟩:∃ s,m.slope (m.at (·.1) t)=s:=⟨_,rfl⟩
  rw [hkk,hss] at MF hk ⊢
  exact rapp_ok p t.1 t.2 k.1.1 k.1.2 k.2.1 k.2.2 s.1 s.2 _ _ _ w MR MF (fun w=>qreckon_any k s t w hk.1)
theorem qundo_any (p:Nat) (al as_:Addr) (cl cs:Nat) (m:MapV) (t:Rt) (w:World) (hm:MapB w p al as_ cl cs m) (ho:MapOk m) (hl:m.knots.length=m.slopes.length+1) :
  Calls Try.prog 71 #[.pointer (some ⟨p,0,none⟩),rv t] w fun e w'=>e = .returned (.tuple #[rv (m.undo t).1,.int .i64 (m.undo t).2])∧Below w.heap.size w w':=by
 have hk:=app_ m ho (·.2) t
 have MR:=fun w=>qright_any t w
 unfold MapV.undo
 cases h:rRight t
 ·rw [if_neg (by decide)]
  rw [h] at MR
  exact rund_bad p t.1 t.2 w MR
 ·rw [if_pos rfl]
  rw [h] at MR
  have MF:=fun (u:World) (hb:Below w.heap.size w u)=>qfrom_out p al as_ cl cs m t u (hm.below hb) ho hl h
  obtain ⟨k,hkk⟩:∃ k,m.knot (m.at (·.2) t)=k:=⟨_,rfl⟩
  obtain ⟨s,hss⟩:∃ s,m.slope (m.at (·.2) t)=s:=⟨_,rfl⟩
  rw [hkk,hss] at MF hk ⊢
  exact rund_ok p t.1 t.2 k.1.1 k.1.2 k.2.1 k.2.2 s.1 s.2 _ _ _ w MR MF (fun w=>qback_any k s t w hk.2.1)
theorem qall_none (p:Nat) (A:Option Addr) (cap:Nat) (m:MapV) (w:World) :
  Calls Try.prog 74 #[.pointer (some ⟨p,0,none⟩),.slice A 0 cap] w fun e w'=>∃ v,e = .returned (.tuple #[v,.int .i64 (allS m []).2.1,.int .i64 (allS m []).2.2])∧w'.ownsRow w.heap.size 31 2 v (allS m []).1.length (flatT (allS m []).1)∧Below w.heap.size w w':=by
 have hr:w.ownsRow w.heap.size 31 2 (.slice none 0 0) 0 []:=World.ownsRow_nil _ _ _ _
 go_enter Try.func74,Try.ntmps74
 go_wp2_with fail
 go_loopw [7,8] (fun v i wr=>v = .slice none 0 0∧i = .int .i64 0∧w=wr) (fun _ _ _=>0)
 case atStart=>exact ⟨rfl,rfl,rfl⟩
 case round =>
  obtain ⟨rfl,rfl,rfl⟩:=hrel
  go_wp2
  go_ret3
  exact ⟨_,rfl,hr,Below.refl _ _⟩
theorem qall_some (p:Nat) (ak as_:Addr) (ck cs:Nat) (m:MapV) (ad:Addr) (l:List Rt) (n cap:Nat) (w:World) (hn:n=l.length) (hm:MapB w p ak as_ ck cs m) (ho:MapOk m) (hls:m.knots.length=m.slopes.length+1) (hL:RtA w ad l) (hR:∀ t ∈ l,R64 t) (hN:n≤2000) :
  Calls Try.prog 74 #[.pointer (some ⟨p,0,none⟩),.slice (some ad) n cap] w fun e w'=>∃ v,e = .returned (.tuple #[v,.int .i64 (allS m l).2.1,.int .i64 (allS m l).2.2])∧w'.ownsRow w.heap.size 31 2 v (allS m l).1.length (flatT (allS m l).1)∧Below w.heap.size w w':=by
 have HM:=Lib.hid hm
 have HO:=Lib.hid ho
 have HL:=Lib.hid hL
 have HR:=Lib.hid hR
 have HN:=Lib.hid hn
 clear hm ho hL hR hn
 go_enter Try.func74,Try.ntmps74
 go_wp2_with fail
 go_loopw [7,8] (fun v i wr=>∃ (j:Nat) (xs:List Rt),j≤n∧i = .int .i64 (j:Int)∧allS m l=allF m (l.drop j) j xs∧xs.length=j∧wr.ownsRow w.heap.size 31 2 v j (flatT xs)∧Below w.heap.size w wr) (fun _ i _=>n - (intOf i).toNat)
 case atStart=>exact ⟨0,[],Nat.zero_le _,rfl,rfl,rfl,World.ownsRow_nil _ _ _ _,Below.refl _ _⟩
 case round =>
  obtain ⟨j,xs,hj,rfl,hall,hxl,hown,hB⟩:=hrel
  have HA:=Lib.hid hall
  have HXL:=Lib.hid hxl
  have HOWN:=Lib.hid hown
  clear hall hxl hown
  by_cases hjn:j<n
  ·have p1:((j:Int)<(n:Int))=True:=eq_true (by omega)
   have p5:(0:Int)≤(j:Int):=by omega
   have p6:(j<n)=True:=eq_true (by omega)
   have w2:IntKind.i64.wrap (j:Int)=(j:Int):=by rw [IntKind.wrap_i64];omega
   have hjl:j<l.length:=by have:=HN.out;omega
   obtain ⟨c0,c1⟩:=(HL.out.below hB) j hjl
   have hr:=HR.out _ (List.getElem_mem hjl)
   have hdrop:l.drop j=l[j] :: l.drop (j+1):=List.drop_eq_getElem_cons hjl
   obtain ⟨⟨t1,t2⟩,ht⟩:∃ t,l[j]=t:=⟨_,rfl⟩
   rw [ht] at c0 c1 hr hdrop
   dsimp only at c0 c1
   have MA:=Lib.hid (fun (u:World) (h:Below w.heap.size w u)=>qapp_any p ak as_ ck cs m (t1,t2) u (HM.out.below h) HO.out hls)
   have hxr:=app_R m HO.out (t1,t2) hr
   have HA2:=Lib.hid (show allS m l=allF m ((t1,t2) :: l.drop (j+1)) j xs from by rw [HA.out,hdrop])
   simp only [allF] at HA2
   obtain ⟨⟨⟨x1,x2⟩,er⟩,hx⟩:∃ x,m.app (t1,t2)=x:=⟨_,rfl⟩
   rw [hx] at MA HA2 hxr
   dsimp only [rv] at MA HA2
   clear ht hr hdrop hx
   go_wp2_with fail
   with_reducible refine (MA.out _ hB).mono ?_
   rintro e w1 ⟨rfl,hb1⟩
   have hB1:Below w.heap.size w w1:=Hand.stepB hb1 hB (Nat.le_refl _)
   by_cases he:er=0
   ·have j0:(er != 0)=false:=by simpa using he
    have j1:(er == 0)=true:=by simpa using he
    have HBB:=Lib.hid (hB1.alloc hB1.size (.cells #[.int .i64 x1,.int .i64 x2] 31))
    have HOW2:∀ u,Below wr.heap.size wr u → u.ownsRow w.heap.size 31 2 _ j (flatT xs):=fun u hu=>own_below HOWN.out hu
    have HO2:=Lib.hid HOW2
    clear HOW2
    have hbr:=Lib.hid (Hand.stepB hb1 (Below.refl _ wr) (Nat.le_refl _))
    go_wp2_with (at_builtin;refine wpList_append_lies _ rfl _ _ 23 rfl w.heap.size 31 _ (.agg #[.int .i64 0,.int .i64 0]) 2 16 Try.underlying23 rfl rfl rfl rfl rfl (by decide) _ j _ rfl (HO2.out _ ((hbr.out.alloc hbr.out.size _).alloc (by have:=hbr.out.size;simp only [World.size_alloc];omega) _)) ⟨w1.heap.size+1,0,none⟩ 1 1 [.int .i64 x1,.int .i64 x2] rfl rfl (World.news_of_block (Hand.q3 _ _ _ (by simp))) (by intro u hu;simp at hu;rcases hu with rfl|rfl<;>rfl) (by decide) (by unfold maxLen;omega) (by omega) (by simp only [World.size_alloc];have:=HBB.out.size;simp only [World.size_alloc] at this;omega) _ rfl ?_)
    intro g2 cap2 w2 hown hgrow hat hlt
    have hB2:Below w.heap.size w w2:=(HBB.out.alloc HBB.out.size _).grown hgrow (by have:=HBB.out.size;simp only [World.size_alloc] at this ⊢;omega) (fun k hk=>(HOWN.out.lt k hk).1)
    go_wp2
    go_roundw
    case rel=>exact ⟨j+1,xs ++ [(x1,x2)],by omega,by rw [Int.natCast_add];rfl,by rw [HA2.out,if_neg (by simp [he])],by simp [HXL.out],by rw [flatT_snoc];exact hown,hB2⟩
    case measure=>simp [intOf];omega
   ·have j0:(er != 0)=true:=by simpa using he
    go_wp2
    go_ret3
    rw [HA2.out,if_pos he]
    exact ⟨_,rfl,World.ownsRow_nil _ _ _ _,hB1.alloc hB1.size _⟩
  ·have p1:((j:Int)<(n:Int))=False:=eq_false (by omega)
   have hjn2:j=n:=by omega
   have HE:=Lib.hid (show allS m l=(xs,0,0) from by rw [HA.out,List.drop_eq_nil_of_le (by have:=HN.out;omega)];rfl)
   go_wp2
   go_ret3
   rw [HE.out]
   refine ⟨_,rfl,?_,hB⟩
   rw [HXL.out]
   exact HOWN.out
theorem qall_any (p:Nat) (ak as_:Addr) (ck cs:Nat) (m:MapV) (A:Option Addr) (l:List Rt) (cap:Nat) (w:World) (hm:MapB w p ak as_ ck cs m) (ho:MapOk m) (hls:m.knots.length=m.slopes.length+1) (hL:RtS w A l) (hR:∀ t ∈ l,R64 t) (hN:l.length≤2000) :
  Calls Try.prog 74 #[.pointer (some ⟨p,0,none⟩),.slice A l.length cap] w fun e w'=>∃ v,e = .returned (.tuple #[v,.int .i64 (allS m l).2.1,.int .i64 (allS m l).2.2])∧w'.ownsRow w.heap.size 31 2 v (allS m l).1.length (flatT (allS m l).1)∧Below w.heap.size w w':=by
 rcases hL with rfl|⟨ad,rfl,hL⟩
 ·exact qall_none p A cap m w
 ·exact qall_some p ak as_ ck cs m ad l l.length cap w rfl hm ho hls hL hR hN
end Go.Proofs.Ythlpaglldhgmfaa.PA
