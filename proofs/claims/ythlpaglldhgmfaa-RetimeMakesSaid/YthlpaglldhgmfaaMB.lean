/- Chapter 6: the law's helpers: fine, knots; what a made map may be asked for. Chapter 6: a map's own knots make the map; a knot laid down on it changes nothing. Chapter 6: one map behind another, the map backwards: in plain lists. RetimeOwn: rows that are written over; what lies elsewhere. Chapter 6: Inverse told; a map's bends told. -/
import Derived.Test.YthlpaglldhgmfaaM9
import Derived.Test.YthlpaglldhgmfaaMA
import Derived.StillTailTactics
set_option maxHeartbeats 1600000
set_option maxRecDepth 100000
namespace Go.Proofs.Ythlpaglldhgmfaa.PA
open Go Go.RowKit Go.Proofs.YthlpaglldhgmfaaW.PrintWords Go.Proofs.YthlpaglldhgmfaaW.PrintLast Go.Proofs.YthlpaglldhgmfaaW.PrintMore
set_option linter.unusedSimpArgs false
set_option linter.unusedVariables false
theorem right_R64 {r:Rt} (h:rRight r=true):R64 r:=by
 obtain ⟨h1,h2,h3,_⟩:=rightS_iff.1 h
 exact ⟨by omega,by omega,by omega,by omega⟩
theorem MapQ.ok {l:List Kn} {m:MapV} (h:MapQ l m):MapOk m:=by
 obtain ⟨p,q,L,o1,o2,o3,o4⟩:=h.own
 have:=h.ns
 exact ⟨fun k hk=>⟨right_R64 (h.kr k hk).1,right_R64 (h.kr k hk).2⟩,h.kr,by omega,by omega,by omega,by omega,fun s hs=>right_R64 (h.sr s hs)⟩
attribute [local go_sem high] eqA31
theorem eqA35 (d:Nat) (w:World) (x0 x1 x2 x3 y0 y1 y2 y3:Int) :
  (Op.equalIn (d+3) 35 (.agg #[.int .i64 x0,.int .i64 x1,.int .i64 x2,.int .i64 x3]) (.agg #[.int .i64 y0,.int .i64 y1,.int .i64 y2,.int .i64 y3])).run Try.prog w = .ok ((x0 == y0 && (x1 == y1)) && (x2 == y2 && (x3 == y3))) w:=by
 refine eqA_of Try.underlying35 (by kernel_rfl) ?_
 refine eqf_cons (by rfl) (by go_simp;rfl) (by go_simp;rfl) (by go_simp) ?_
 exact eqf_last (by rfl) (by go_simp;rfl) (by go_simp;rfl) (by go_simp)
attribute [local go_sem high] eqA35
theorem lknots_some (ad ad':Addr) (l:List Kn) (n cap cap':Nat) (w:World) (hn:n=l.length) (hK:KnA w ad l) (hK':KnA w ad' l) (hN:n≤100000) :
  Calls Try.prog 19 #[.slice (some ad) n cap,.slice (some ad') n cap'] w fun e w'=>e = .returned (.bool true)∧Below w.heap.size w w':=by
 have HK:=Lib.hid hK
 have HK':=Lib.hid hK'
 have HN:=Lib.hid hn
 clear hK hK' hn
 go_enter Try.func19,Try.ntmps19
 go_wp2_with fail
 go_loopw [5] (fun i wr=>∃ j:Nat,j≤n∧i = .int .i64 (j:Int)∧Below w.heap.size w wr) (fun i _=>n - (intOf i).toNat)
 case atStart=>exact ⟨0,Nat.zero_le _,rfl,Below.refl _ _⟩
 case round =>
  obtain ⟨j,hj,rfl,hB⟩:=hrel
  by_cases hjn:j<n
  ·have p1:((j:Int)<(n:Int))=True:=eq_true (by omega)
   have p5:(0:Int)≤(j:Int):=by omega
   have p6:(j<n)=True:=eq_true (by omega)
   have w2:IntKind.i64.wrap (j:Int)=(j:Int):=by rw [IntKind.wrap_i64];omega
   have hjl:j<l.length:=by have:=HN.out;omega
   obtain ⟨c0,c1,c2,c3⟩:=(HK.out.below hB) j hjl
   obtain ⟨d0,d1,d2,d3⟩:=(HK'.out.below hB) j hjl
   obtain ⟨⟨⟨k1,k2⟩,k3,k4⟩,hk⟩:∃ k,l[j]=k:=⟨_,rfl⟩
   rw [hk] at c0 c1 c2 c3 d0 d1 d2 d3
   dsimp only at c0 c1 c2 c3 d0 d1 d2 d3
   clear hk
   go_wp2_with fail
   go_still_tail 8,(by kernel_rfl)
   change wpList _ _ _ _ _ wr.drew
   go_wp2_with fail
   go_roundw
   case rel=>exact ⟨j+1,by omega,by rw [Int.natCast_add];rfl,hB.drew⟩
   case measure=>simp [intOf];omega
  ·have p1:((j:Int)<(n:Int))=False:=eq_false (by omega)
   go_wp2
   go_ret
   exact ⟨rfl,hB⟩
end Go.Proofs.Ythlpaglldhgmfaa.PA
namespace Go.Proofs.Ythlpaglldhgmfaa.PA
open Go
set_option linter.unusedSimpArgs false
set_option linter.unusedVariables false
def insK (t x:Rt):List Kn → List Kn
 | []=>[(t,x)]
 | k :: l=>if rCmp t k.1<0 then (t,x) :: k :: l else k :: insK t x l
def swapK (l:List Kn):List Kn:=l.map fun k=>(k.2,k.1)
def turnsK (m:MapV):List Kn:=m.knots.tail.dropLast
def undF (m:MapV):List Rt → List Rt → List Rt × Int
 | [],acc=>(acc,0)
 | t :: l,acc=>if (m.undo t).2≠0 then ([],(m.undo t).2) else undF m l (acc ++ [(m.undo t).1])
def mrgF:List Rt → List Rt → List Rt
 | [],ys_=>ys_
 | a :: xs_,[]=>a :: xs_
 | a :: xs_,b :: ys_=>if rCmp a b<0 then a :: mrgF xs_ (b :: ys_) else if rCmp b a<0 then b :: mrgF (a :: xs_) ys_ else a :: mrgF xs_ ys_
termination_by xs_ ys_=>xs_.length+ys_.length
def edgeS:List Rt → List Rt × Int
 | []=>([(0,1),(1,1)],0)
 | t :: l=>((rSub t (1,1)).1 :: ((t :: l) ++ [(doS rAdd (rSub t (1,1)).2 ((t :: l).getLast (by simp)) (1,1)).1]),(doS rAdd (rSub t (1,1)).2 ((t :: l).getLast (by simp)) (1,1)).2)
def ptsS (m n:MapV):List Rt × Int :=
 if (undF m ((turnsK n).map (·.1)) []).2≠0 then ([],(undF m ((turnsK n).map (·.1)) []).2) else edgeS (mrgF ((turnsK m).map (·.1)) (undF m ((turnsK n).map (·.1)) []).1)
def thrF (m n:MapV):List Rt → List Kn → List Kn × Int
 | [],acc=>(acc,0)
 | t :: l,acc=>if (m.app t).2≠0 then ([],(m.app t).2) else if (n.app (m.app t).1).2≠0 then ([],(n.app (m.app t).1).2) else thrF m n l (acc ++ [(t,(n.app (m.app t).1).1)])
def thenS (m n:MapV):Option MapV × Int :=
 if (ptsS m n).2≠0 then (none,(ptsS m n).2) else if (thrF m n (ptsS m n).1 []).2≠0 then (none,(thrF m n (ptsS m n).1 []).2) else newK (thrF m n (ptsS m n).1 []).1
def invS (m:MapV):Option MapV × Int:=newK (swapK m.knots)
noncomputable def MapV.F (m:MapV) (t:Rat):Rat:=(PL.make (m.knots.map qk)).ev t
def Mk (m:MapV):Prop:=newK m.knots=(some m,0)
theorem Mk.q {m:MapV} (h:Mk m):MapQ m.knots m:=newK_Q h
theorem Mk.app {m:MapV} (h:Mk m) {t x:Rt} (ha:m.app t=(x,0)):rRight t=true∧rRight x=true∧qr x=m.F (qr t):=h.q.app ha
theorem Mk.mono {m:MapV} (h:Mk m) {t u:Rat} (e:t<u):m.F t<m.F u:=PL.Mp.ev_mono h.q.val e
theorem Mk.lt {m:MapV} (h:Mk m) {t u:Rat} (e:m.F t<m.F u):t<u:=by
 by_cases c:u≤t
 ·exact absurd (PL.Mp.ev_le h.q.val c) (Rat.not_le.2 e)
 ·exact Rat.not_le.1 c
theorem Mk.inj {m:MapV} (h:Mk m) {t u:Rat} (e:m.F t=m.F u):t=u:=by
 have a:t≤u:=PL.Mp.le_of_ev h.q.val (show m.F t≤m.F u by rw [e];exact Rat.le_refl)
 have b:u≤t:=PL.Mp.le_of_ev h.q.val (show m.F u≤m.F t by rw [e];exact Rat.le_refl)
 exact Rat.le_antisymm a b
theorem Mk.same {m n:MapV} (h:Mk m) (h2:Mk n) (e:∀ t,m.F t=n.F t):m.knots=n.knots:=by
 have key:PL.make (m.knots.map qk)=PL.make (n.knots.map qk):=PL.Mp.unique h.q.val h2.q.val e
 refine map_inj_on (f:=qk) (P:=fun a=>rRight a.1=true∧rRight a.2=true) (fun a b=>qk_inj) _ _ h.q.kr h2.q.kr ?_
 rw [h.q.kn,h2.q.kn,key]
theorem slp_swap {p q:Rat × Rat}:PL.slp (p.2,p.1) (q.2,q.1)=1 / PL.slp p q:=by
 simp only [PL.slp];rw [Rat.div_def,Rat.div_def,Rat.div_def,Rat.inv_mul_rev,Rat.inv_inv,Rat.one_mul]
theorem slF_swap:∀ (l:List (Rat × Rat)) (p:Rat × Rat),slF (p.2,p.1) (PL.swap l)=(slF p l).map (fun s=>1 / s):=by
 intro l
 induction l with
 | nil=>intro p;rfl
 | cons q l ih =>
  intro p
  simp only [PL.swap,List.map_cons,slF,slp_swap,List.cons.injEq,true_and]
  exact ih q
theorem Mk.undo {m:MapV} (h:Mk m) {t x:Rt} (ha:m.undo t=(x,0)):rRight t=true∧rRight x=true∧m.F (qr x)=qr t:=by
 obtain ⟨p,q,L,o1,o2,o3,o4⟩:=h.q.own
 unfold MapV.undo at ha
 split at ha
 ·rename_i ht
  obtain ⟨a1,a2,a3,a4,a5,a6⟩:=back_ok ha
  refine ⟨ht,a5,?_⟩
  obtain ⟨hi,s1,s2⟩:=at_spec m (·.2) t (by omega)
  have hrk:=h.q.rk
  have hsw:=PL.rising_swap _ hrk
  have hev:∀ u,m.F u=PL.evL (m.knots.map qk) u:=fun u=>by unfold MapV.F;rw [PL.make_ev hrk]
  have hss:PL.swap (PL.swap (m.knots.map qk))=m.knots.map qk:=by simp [PL.swap,Function.comp_def]
  have hback:∀ u,m.F (PL.evL (PL.swap (m.knots.map qk)) u)=u:=fun u=>by
   have:=PL.evL_swap _ hsw u
   rw [hss] at this
   rw [hev];exact this
  rw [← hback (qr t)]
  congr 1
  have hsl:PL.swap (m.knots.map qk)=(p.2,p.1) :: (q.2,q.1) :: PL.swap L:=by rw [o1];rfl
  have hel:∀ j (hj:j<m.knots.length),∃ hj',((p.2,p.1) :: (q.2,q.1) :: PL.swap L)[j]'hj'=((qk m.knots[j]).2,(qk m.knots[j]).1):=by
   intro j hj
   have:j<(PL.swap (m.knots.map qk)).length:=by simpa [PL.swap] using hj
   refine ⟨by rw [← hsl];exact this,?_⟩
   exact (List.getElem_of_eq hsl.symm _).trans (by simp [PL.swap])
  have hm:∀ j (hj:j<m.knots.length),rRight (m.knots[j]).2=true:=fun j hj=>(h.q.kr _ (List.getElem_mem hj)).2
  obtain ⟨hi',e1⟩:=hel _ hi
  rw [hsl] at hsw ⊢
  have hlen:(PL.swap L).length=L.length:=by simp [PL.swap]
  rw [evL_idx (qr t) (PL.swap L) (p.2,p.1) (q.2,q.1) (m.at (·.2) t) hi' hsw ?_ ?_,e1,a6]
  ·have ek:m.knot (m.at (·.2) t)=m.knots[m.at (·.2) t]:=by unfold MapV.knot;rw [List.getD_eq_getElem?_getD,List.getElem?_eq_getElem hi];rfl
   rw [ek]
   have e2:slF (p.2,p.1) ((q.2,q.1) :: PL.swap L)=(m.slopes.map qr).map (fun s=>1 / s):=by rw [← o2];exact slF_swap (q :: L) p
   rw [e2]
   have hj:min (m.at (·.2) t) L.length<m.slopes.length:=by omega
   unfold MapV.slope
   rw [show m.slopes.length - 1=L.length by omega,hlen]
   rw [List.getD_eq_getElem?_getD,List.getD_eq_getElem?_getD,List.getElem?_map,List.getElem?_map,List.getElem?_eq_getElem hj]
   simp only [Option.map_some,Option.getD_some,qk]
   rw [Rat.div_def,Rat.div_def,Rat.one_mul]
  ·rcases s1 with s1|s1
   ·exact .inl s1
   ·rw [e1];exact .inr ((rCmp_le (hm _ hi) ht).1 s1)
  ·intro j hj hlt
   have hj2:j<m.knots.length:=by rw [o3];simpa [hlen] using hj
   obtain ⟨_,e2⟩:=hel j hj2
   rw [e2]
   have:=s2 j hj2 hlt
   rw [rCmp_le (hm j hj2) ht] at this
   exact Rat.not_le.1 this
 ·cases ha
end Go.Proofs.Ythlpaglldhgmfaa.PA
namespace Go.Proofs.Ythlpaglldhgmfaa.PA
open Go Go.RowKit Go.Proofs.YthlpaglldhgmfaaW.PrintWords Go.Proofs.YthlpaglldhgmfaaW.PrintLast Go.Proofs.YthlpaglldhgmfaaW.PrintMore
set_option linter.unusedSimpArgs false
set_option linter.unusedVariables false
def VR (w:World) (g n cap size:Nat) (e:TypeId):Prop:=n≤cap∧cap≤maxLen∧∃ C,w.heap[g]?=some (.cells C e (0,0))∧C.size=cap*size
theorem VR.of_own {w:World} {base g n cap size:Nat} {e:TypeId} {xs:List Value} (h:w.ownsRow base e size (.slice (some ⟨g,0,none⟩) n cap) n xs):VR w g n cap size e:=by
 rcases h.2 with ⟨h0,_⟩|⟨g',cap',cur,hv,hb,hg,hn,hm,hs,ht⟩
 ·cases h0
 ·cases hv;exact ⟨hn,hm,cur,hg,hs⟩
theorem VR.own {w:World} {base g n cap size:Nat} {e:TypeId} (h:VR w g n cap size e) (hb:base≤g):∃ xs,w.ownsRow base e size (.slice (some ⟨g,0,none⟩) n cap) n xs:=by
 obtain ⟨hn,hm,C,hg,hs⟩:=h
 refine ⟨C.toList.take (n*size),?_,.inr ⟨g,cap,C,rfl,hb,hg,hn,hm,hs,rfl⟩⟩
 rw [List.length_take,Array.length_toList,hs]
 have:=Nat.mul_le_mul_right size hn
 omega
theorem VR.set {w:World} {g n cap size:Nat} {e:TypeId} (h:VR w g n cap size e) (i:Nat) (u:Value):VR (w.setCell ⟨g,i,none⟩ u) g n cap size e:=by
 obtain ⟨hn,hm,C,hg,hs⟩:=h
 exact ⟨hn,hm,C.setIfInBounds i u,by rw [Hand.q1,hg];rfl,by simp [hs]⟩
theorem VR.keep {w w':World} {g n cap size:Nat} {e:TypeId} (h:VR w g n cap size e) (k:w'.heap[g]?=w.heap[g]?):VR w' g n cap size e:=by
 obtain ⟨hn,hm,C,hg,hs⟩:=h
 exact ⟨hn,hm,C,by rw [k];exact hg,hs⟩
theorem VR.below {w w':World} {g n cap size:Nat} {e:TypeId} (h:VR w g n cap size e) (k:Below w.heap.size w w'):VR w' g n cap size e:=by
 obtain ⟨hn,hm,C,hg,hs⟩:=h
 exact ⟨hn,hm,C,Hand.kb k hg,hs⟩
theorem VR.lt {w:World} {g n cap size:Nat} {e:TypeId} (h:VR w g n cap size e):g<w.heap.size:=by
 obtain ⟨hn,hm,C,hg,hs⟩:=h
 exact (Hand.hz hg).1
theorem VR.cell {w:World} {g n cap size:Nat} {e:TypeId} (h:VR w g n cap size e) (i:Nat) (hi:i<cap*size):∃ u,w.cell? ⟨g,i,none⟩=some u∧w.frozen? ⟨g,i,none⟩=false:=by
 obtain ⟨hn,hm,C,hg,hs⟩:=h
 exact ⟨_,Hand.cell_of hg _ _ (Array.getElem?_eq_getElem (by omega)),Hand.free_of hg i⟩
theorem F2.trans {g h:Nat} {a b c:World} (f:F2 g h a b) (k:F2 g h b c):F2 g h a c :=
 ⟨k.os.trans f.os,k.tape.trans f.tape,k.output.trans f.output,Nat.le_trans f.size k.size,fun i hi h1 h2=>(k.block i (Nat.lt_of_lt_of_le hi f.size) h1 h2).trans (f.block i hi h1 h2)⟩
theorem F2.wide {g:Nat} {a b:World} (f:F2 g g a b) (h:Nat):F2 g h a b:=⟨f.os,f.tape,f.output,f.size,fun i hi h1 _=>f.block i hi h1 h1⟩
theorem F2.of_below {a b:World} (g h:Nat) (f:Below a.heap.size a b):F2 g h a b:=⟨f.os,f.tape,f.output,f.size,fun i hi _ _=>f.block i hi⟩
theorem F2.grown {g h:Nat} {a w w':World} (f:F2 g h a w) {row:Option Nat} (k:w.grownBy w' row) (hr:∀ q,row=some q → q=g ∨ q=h ∨ a.heap.size≤q):F2 g h a w' :=
 ⟨k.os.trans f.os,k.tape.trans f.tape,k.output.trans f.output,Nat.le_trans f.size k.size,fun i hi h1 h2=>(k.block i (Nat.lt_of_lt_of_le hi f.size) (fun e=>by rcases hr i e.symm with h|h|h<;>omega)).trans (f.block i hi h1 h2)⟩
theorem MapA.f2 {w w':World} {g h p:Nat} {ak as_:Addr} {ck cs:Nat} {m:MapV} (a:MapA w p ak as_ ck cs m) (f:F2 g h w w') (h1:p≠g∧p≠h) (h2:ak.block≠g∧ak.block≠h) (h3:as_.block≠g∧as_.block≠h):MapA w' p ak as_ ck cs m :=
 ⟨f.kb a.blk h1.1 h1.2,a.kn.f2 f h2.1 h2.2,a.sl.f2 f h3.1 h3.2,a.cp⟩
theorem RtS.f2 {w w':World} {g h:Nat} {A:Option Addr} {l:List Rt} (r:RtS w A l) (f:F2 g h w w') (hn:l=[] ∨ ∀ ad,A=some ad → ad.block≠g∧ad.block≠h):RtS w' A l:=by
 rcases r with r|⟨ad,h1,h2⟩
 ·exact .inl r
 ·rcases hn with hn|hn
  ·exact .inl hn
  ·exact .inr ⟨ad,h1,h2.f2 f (hn ad h1).1 (hn ad h1).2⟩
theorem rts_lt {w:World} {A:Option Addr} {l:List Rt} (r:RtS w A l):l=[] ∨ ∃ ad,A=some ad∧ad.block<w.heap.size∧RtA w ad l:=by
 cases l with
 | nil=>exact .inl rfl
 | cons t l =>
  rcases r with r|⟨ad,h1,h2⟩
  ·cases r
  ·exact .inr ⟨ad,h1,World.block_lt_of_cell? w _ h2.zero.1,h2⟩
theorem own_rts {w:World} {base n:Nat} {e:TypeId} {v:Value} {l:List Rt} (h:w.ownsRow base e 2 v n (flatT l)):∃ A c,v = .slice A l.length c∧n=l.length∧RtS w A l∧((l=[]∧v = .slice none 0 0) ∨ ∃ g,A=some ⟨g,0,none⟩∧base≤g∧g<w.heap.size∧VR w g n c 2 e):=by
 have hl:=h.1
 rw [flatT_len] at hl
 have hn:n=l.length:=by omega
 rcases h.2 with ⟨h0,h1⟩|⟨g,cap,cur,hv,hb,r⟩
 ·have:l=[]:=List.length_eq_zero_iff.mp (by omega)
  subst this
  exact ⟨none,0,h0,hn,.inl rfl,.inl ⟨rfl,h0⟩⟩
 ·have hlt:=h.lt g (by rw [hv];rfl)
  refine ⟨some ⟨g,0,none⟩,cap,by rw [hv,hn],hn,.inr ⟨_,rfl,?_⟩,.inr ⟨g,rfl,hb,hlt.2,?_⟩⟩
  ·rw [hv] at h;exact own_rta h
  ·rw [hv] at h;exact VR.of_own h
theorem MapA.lt {w:World} {p:Nat} {ak as_:Addr} {ck cs:Nat} {m:MapV} (a:MapA w p ak as_ ck cs m) (ok:MapOk m):p<w.heap.size∧ak.block<w.heap.size∧as_.block<w.heap.size:=by
 refine ⟨(Hand.hz a.blk).1,?_,?_⟩
 ·have h:=a.kn 0 ok.k0
  rw [Nat.zero_mul,show ak.add 0=ak from rfl] at h
  exact World.block_lt_of_cell? w _ h.1
 ·have h:=a.sl 0 ok.s0
  rw [Nat.zero_mul,show as_.add 0=as_ from rfl] at h
  exact World.block_lt_of_cell? w _ h.1
def swp (l:List Kn) (j:Nat):List Kn:=swapK (l.take j) ++ l.drop j
theorem NewR.mono {B B':Nat} {w:World} {v:Value} {r:Option MapV} (h:NewR B' w v r) (hb:B≤B'):NewR B w v r:=by
 cases r with
 | none=>exact h
 | some m =>
  obtain ⟨p,ak,as_,ck,cs,h1,h2,h3,h4,h5⟩:=h
  exact ⟨p,ak,as_,ck,cs,h1,h2,Nat.le_trans hb h3,Nat.le_trans hb h4,Nat.le_trans hb h5⟩
end Go.Proofs.Ythlpaglldhgmfaa.PA
