/- Chapter 6: New's bends in plain lists; what the loop carries. Chapter 6: New, walked in parts. Chapter 6: New, walked in parts. -/
import Derived.Test.YthlpaglldhgmfaaM7
import Derived.Test.YthlpaglldhgmfaaM6
import Derived.StillTailTactics
import Derived.Lib.AppendZeros
import Derived.Deep.RegionLaw
set_option maxHeartbeats 4000000
set_option maxRecDepth 100000
namespace Go.Proofs.Ythlpaglldhgmfaa.PA
open Go Go.RowKit Go.Proofs.YthlpaglldhgmfaaW.PrintWords Go.Proofs.YthlpaglldhgmfaaW.PrintLast Go.Proofs.YthlpaglldhgmfaaW.PrintMore
set_option linter.unusedSimpArgs false
set_option linter.unusedVariables false
theorem run_append_full {P:Program} (w:World) (t ty base:Nat) (e:TypeId) (i:TypeInfo) (z:Value) (size bytes:Nat) (ht:P.underlying t=some (.slice e)) (hi:P.info? e=some i) (hz:i.zero=some z)
  (hsize:i.size=size) (hby:i.bytes=bytes) (hzs:z.cells.size=size) (b:Addr) (n:Nat) (olds:List Value) (hlo:olds.length=n*size) (holds:∀ j v,olds[j]?=some v → w.cell? (b.add j)=some v)
  (ad:Addr) (m c:Nat) (news:List Value) (hl:news.length=m*size) (hnews:∀ j u,news[j]?=some u → w.cell? (ad.add j)=some u) (hm:0<m) (h63:n+m≤1000000) (hbt:bytes≤1000) (hbase:base≤w.heap.size) :
  ∃ g cap w',(Builtin.append_ #[t,t] ty #[.slice (some b) n n,.slice (some ad) m c]).run P w = .ok (.slice (some ⟨g,0,none⟩) (n+m) cap) w' ∧
   w'.ownsRow base e size (.slice (some ⟨g,0,none⟩) (n+m) cap) (n+m) (olds ++ news)∧w.grownBy w' none∧g=w.heap.size∧g<w'.heap.size:=by
 subst hsize hby
 have hmul:(n+m)*i.bytes≤1000000*1000:=Nat.mul_le_mul h63 hbt
 have hr:=run_append_grow (P:=P) w t ty e i z ht hi hz b n n olds hlo holds ad m c news hl hnews (by omega) (by omega) (growslice_fits (by omega) (by omega))
 have hge:n+m≤grownCap w (n+m) n e:=grownCap_ge w _ _ _
 have hle:grownCap w (n+m) n e≤maxLen:=grownCap_le_maxLen w (n+m) n e (by unfold maxLen;omega)
 refine ⟨_,_,_,hr,⟨by rw [List.length_append,hlo,hl,Nat.add_mul],.inr ⟨_,_,_,rfl,hbase,Hand.q3 _ _ _ rfl,hge,hle,?_,?_⟩⟩,⟨rfl,rfl,rfl,by simp,fun k hk _=>by rw [Hand.q4 _ _ _ (by show k≠w.heap.size;omega)];rfl⟩,rfl,by simp⟩
 ·simp only [Array.size_append,List.size_toArray,size_zeroCells,hzs,hlo,hl,← Nat.add_mul]
  congr 1
  omega
 ·have hle2:(n+m)*i.size=(olds ++ news).length:=by rw [List.length_append,hlo,hl,Nat.add_mul]
  rw [hle2]
  simp only [Array.toList_append,List.toList_toArray]
  exact List.take_left
def lastS (p:Rt) (ss:List Rt):Rt:=(p :: ss).getLast (by simp)
theorem bendF_snoc (s:Rt) (k:Kn):∀ (ss:List Rt) (p:Rt) (ks:List Kn),ss.length=ks.length → bendF p (ss ++ [s]) (ks ++ [k])=bendF p ss ks ++ (if s=lastS p ss then [] else [(k,s)]):=by
 intro ss
 induction ss with
 | nil =>
  intro p ks h
  cases ks with
  | nil =>
   by_cases h:s=p<;>simp [bendF,lastS,h]
  | cons a l=>simp at h
 | cons x ss ih =>
  intro p ks h
  cases ks with
  | nil=>simp at h
  | cons a ks =>
   have h':ss.length=ks.length:=by simpa using h
   simp only [List.cons_append,bendF,ih x ks h',lastS,List.getLast_cons_cons]
   split
   ·rfl
   ·simp only [List.cons_append];rfl
theorem bendF_take:∀ (ss:List Rt) (p:Rt) (ks:List Kn),bendF p ss (ks.take ss.length)=bendF p ss ks:=by
 intro ss
 induction ss with
 | nil=>intro p ks;cases ks<;>simp [bendF]
 | cons x ss ih =>
  intro p ks
  cases ks with
  | nil=>rfl
  | cons a ks=>simp only [List.length_cons,List.take_succ_cons,bendF,ih x ks]
theorem bendF_len:∀ (ss:List Rt) (p:Rt) (ks:List Kn),(bendF p ss ks).length≤ss.length:=by
 intro ss
 induction ss with
 | nil=>intro p ks;cases ks<;>simp [bendF]
 | cons x ss ih =>
  intro p ks
  cases ks with
  | nil=>simp [bendF]
  | cons a ks =>
   simp only [bendF]
   split
   ·have:=ih x ks;simp only [List.length_cons];omega
   ·have:=ih x ks;simp only [List.length_cons];omega
theorem bendF_mem:∀ (ss:List Rt) (p:Rt) (ks:List Kn),∀ x ∈ bendF p ss ks,x.1 ∈ ks∧x.2 ∈ ss:=by
 intro ss
 induction ss with
 | nil=>intro p ks x hx;cases ks<;>simp [bendF] at hx
 | cons s ss ih =>
  intro p ks x hx
  cases ks with
  | nil=>simp [bendF] at hx
  | cons a ks =>
   simp only [bendF] at hx
   split at hx
   ·have:=ih s ks x hx;exact ⟨List.mem_cons_of_mem _ this.1,List.mem_cons_of_mem _ this.2⟩
   ·rcases List.mem_cons.mp hx with rfl|hx
    ·exact ⟨List.mem_cons_self,List.mem_cons_self⟩
    ·have:=ih s ks x hx;exact ⟨List.mem_cons_of_mem _ this.1,List.mem_cons_of_mem _ this.2⟩
theorem lastS_take (s0:Rt) (ss:List Rt) (j:Nat) (h:j<(s0 :: ss).length):lastS s0 (ss.take j)=(s0 :: ss)[j]:=by
 unfold lastS
 rw [List.getLast_eq_getElem]
 have hj:j≤ss.length:=by simpa using Nat.le_of_lt_succ h
 have e:(s0 :: ss.take j).length - 1=j:=by simp only [List.length_cons,List.length_take];omega
 simp only [e]
 cases j with
 | zero=>rfl
 | succ j=>simp
structure BendsAt (W:World) (gm ga:Nat) (s0:Rt) (B:List (Kn × Rt)) (vb vs:Value) (wr:World):Prop where
 own:wr.ownsRow W.heap.size 35 4 vb B.length (flatK (B.map (·.1)))
 nil:B=[] → vb = .slice none 0 0
 some_:B≠[] → ∃ g c,vb = .slice (some ⟨g,0,none⟩) B.length c
 map:wr.heap[gm]?=some (.cells #[.slice none 0 0,vs,.int .i64 0] 70 (0,0))
 sl:(B=[]∧vs = .slice (some ⟨ga,0,none⟩) 1 1) ∨ (∃ g c,vs = .slice (some ⟨g,0,none⟩) (B.length+1) c∧wr.ownsRow W.heap.size 31 2 vs (B.length+1) (flatT (s0 :: B.map (·.2))))
 dis:∀ k,vb.ownBlock=some k → vs.ownBlock=some k → False
 fx:Fx gm W wr
theorem BendsAt.drew {W wr:World} {gm ga:Nat} {s0:Rt} {B:List (Kn × Rt)} {vb vs:Value} (h:BendsAt W gm ga s0 B vb vs wr):BendsAt W gm ga s0 B vb vs wr.drew :=
 ⟨own_keep h.own fun _ _=>rfl,h.nil,h.some_,h.map,by
  rcases h.sl with ⟨a,b⟩|⟨g,c,a,b⟩
  ·exact .inl ⟨a,b⟩
  ·exact .inr ⟨g,c,a,own_keep b fun _ _=>rfl⟩,h.dis,h.fx.drew⟩
theorem BendsAt.form {W wr:World} {gm ga:Nat} {s0:Rt} {B:List (Kn × Rt)} {vb vs:Value} (h:BendsAt W gm ga s0 B vb vs wr):∃ g c,vs = .slice (some ⟨g,0,none⟩) (B.length+1) c:=by
 rcases h.sl with ⟨a,b⟩|⟨g,c,a,b⟩
 ·exact ⟨ga,1,by rw [b,a];rfl⟩
 ·exact ⟨g,c,a⟩
theorem BendsAt.vs_lt {W wr:World} {gm ga:Nat} {s0:Rt} {B:List (Kn × Rt)} {vb vs:Value} (h:BendsAt W gm ga s0 B vb vs wr) (hga:ga<W.heap.size) (hne:ga≠gm):∀ q,vs.ownBlock=some q → q<wr.heap.size∧q≠gm ∨ q<wr.heap.size∧W.heap.size≤q:=by
 intro q hq
 rcases h.sl with ⟨a,b⟩|⟨g,c,a,b⟩
 ·rw [b] at hq;simp only [Value.ownBlock,Option.some.injEq] at hq;subst hq;exact .inl ⟨Nat.lt_of_lt_of_le hga h.fx.size,hne⟩
 ·have:=b.lt q hq;exact .inr ⟨this.2,this.1⟩
structure BendsMid (W:World) (gm ga:Nat) (s0:Rt) (B:List (Kn × Rt)) (k:Kn) (gb cb:Nat) (vs:Value) (w2:World):Prop where
 own:w2.ownsRow W.heap.size 35 4 (.slice (some ⟨gb,0,none⟩) (B.length+1) cb) (B.length+1) (flatK (B.map (·.1) ++ [k]))
 map:w2.heap[gm]?=some (.cells #[.slice none 0 0,vs,.int .i64 0] 70 (0,0))
 sl:(B=[]∧vs = .slice (some ⟨ga,0,none⟩) 1 1) ∨ (∃ g c,vs = .slice (some ⟨g,0,none⟩) (B.length+1) c∧w2.ownsRow W.heap.size 31 2 vs (B.length+1) (flatT (s0 :: B.map (·.2))))
 dis:vs.ownBlock≠some gb
 fx:Fx gm W w2
theorem BendsAt.mid {W wr:World} {gm ga:Nat} {s0:Rt} {B:List (Kn × Rt)} {vb vs:Value} (h:BendsAt W gm ga s0 B vb vs wr) (hgm:gm<W.heap.size) (hga:ga<W.heap.size) (hne:ga≠gm) (o:Obj) (k:Kn) {gb cb:Nat} {w2:World}
  (hown:w2.ownsRow W.heap.size 35 4 (.slice (some ⟨gb,0,none⟩) (B.length+1) cb) (B.length+1) (flatK (B.map (·.1)) ++ [.int .i64 k.1.1,.int .i64 k.1.2,.int .i64 k.2.1,.int .i64 k.2.2]))
  (hgrow:(wr.alloc o).grownBy w2 vb.ownBlock) (hat:vb.ownBlock=some gb ∨ gb=(wr.alloc o).heap.size):BendsMid W gm ga s0 B k gb cb vs w2:=by
 have hv:=h.vs_lt hga hne
 have sz:(wr.alloc o).heap.size=wr.heap.size+1:=by simp
 have hb:∀ q,vb.ownBlock=some q → W.heap.size≤q∧q<wr.heap.size:=h.own.lt
 have keep:∀ q,q<wr.heap.size → vb.ownBlock≠some q → w2.heap[q]?=wr.heap[q]?:=fun q hq hn=>by
  rw [hgrow.block q (by omega) (fun e=>hn e.symm),Hand.q4 _ _ _ (by omega)]
 refine ⟨by rw [flatK_snoc];exact hown,?_,?_,?_,?_⟩
 ·rw [keep gm (Nat.lt_of_lt_of_le hgm h.fx.size) (fun e=>by have:=(hb gm e).1;omega)];exact h.map
 ·rcases h.sl with ⟨a,b⟩|⟨g,c,a,b⟩
  ·exact .inl ⟨a,b⟩
  ·exact .inr ⟨g,c,a,own_keep b fun q hq=>keep q (b.lt q hq).2 (fun e=>h.dis q e hq)⟩
 ·intro e
  rcases hat with ha|ha
  ·exact h.dis gb ha e
  ·rcases hv gb e with ⟨x,_⟩|⟨x,_⟩<;>omega
 ·exact (h.fx.alloc o).grown hgrow (fun q hq=>(hb q hq).1)
theorem BendsMid.drew {W w2:World} {gm ga:Nat} {s0:Rt} {B:List (Kn × Rt)} {k:Kn} {gb cb:Nat} {vs:Value} (h:BendsMid W gm ga s0 B k gb cb vs w2):BendsMid W gm ga s0 B k gb cb vs w2.drew :=
 ⟨own_keep h.own fun _ _=>rfl,h.map,by
  rcases h.sl with ⟨a,b⟩|⟨g,c,a,b⟩
  ·exact .inl ⟨a,b⟩
  ·exact .inr ⟨g,c,a,own_keep b fun _ _=>rfl⟩,h.dis,h.fx.drew⟩
theorem BendsMid.app {W w2:World} {gm ga:Nat} {s0:Rt} {B:List (Kn × Rt)} {k:Kn} {gb cb:Nat} {vs:Value} (h:BendsMid W gm ga s0 B k gb cb vs w2) (hga:ga<W.heap.size) (hne:ga≠gm) {all:List Rt} (hA:RtA W ⟨ga,0,none⟩ (s0 :: all)) (x:Rt) (hlen:B.length≤100) (ty:TypeId) :
  ∃ g cap w',(Builtin.append_ #[23,23] ty #[vs,.slice (some ⟨w2.heap.size,0,none⟩) 1 1]).run Try.prog (w2.alloc (.cells #[.int .i64 x.1,.int .i64 x.2] 31)) = .ok (.slice (some ⟨g,0,none⟩) (B.length+1+1) cap) w' ∧
   w'.ownsRow W.heap.size 31 2 (.slice (some ⟨g,0,none⟩) (B.length+1+1) cap) (B.length+1+1) (flatT (s0 :: (B.map (·.2) ++ [x])))∧(∃ row,(w2.alloc (.cells #[.int .i64 x.1,.int .i64 x.2] 31)).grownBy w' row∧∀ q,row=some q → W.heap.size≤q∧vs.ownBlock=some q)∧(vs.ownBlock=some g ∨ g=w2.heap.size+1)∧g<w'.heap.size:=by
 have sz:∀ o,(w2.alloc o).heap.size=w2.heap.size+1:=fun o=>by simp
 have fl:flatT (s0 :: (B.map (·.2) ++ [x]))=flatT (s0 :: B.map (·.2)) ++ [.int .i64 x.1,.int .i64 x.2]:=by rw [← flatT_snoc];rfl
 rw [fl]
 have hW:=h.fx.size
 rcases h.sl with ⟨a,b⟩|⟨g,c,a,b⟩
 ·subst a b
  have hc:∀ j v,(flatT [s0])[j]?=some v → (w2.alloc (.cells #[.int .i64 x.1,.int .i64 x.2] 31)).cell? ((⟨ga,0,none⟩:Addr).add j)=some v:=by
   intro j v hv
   have hj:j<2:=(List.getElem?_eq_some_iff.1 hv).1
   have z:=(hA.f2 (F2.of_fx gm h.fx) hne hne).zero
   rw [add0,World.cell?_alloc_lt _ _ _ Hand.d]
   rcases (by omega:j=0 ∨ j=1) with rfl|rfl
   ·cases hv;exact z.1
   ·cases hv;exact z.2
  obtain ⟨g,cap,w',r1,r2,r3,r4,r5⟩:=run_append_full (P:=Try.prog) (w2.alloc (.cells #[.int .i64 x.1,.int .i64 x.2] 31)) 23 ty W.heap.size 31 _ (.agg #[.int .i64 0,.int .i64 0]) 2 16 Try.underlying23 rfl rfl rfl rfl rfl ⟨ga,0,none⟩ 1 (flatT [s0]) rfl hc ⟨w2.heap.size,0,none⟩ 1 1 [.int .i64 x.1,.int .i64 x.2] rfl (World.news_of_block (Hand.q3 _ _ _ rfl)) (by decide) (by decide) (by decide) (by rw [sz];omega)
  exact ⟨g,cap,w',r1,r2,⟨none,r3,fun q hq=>by cases hq⟩,.inr (by rw [r4,sz]),r5⟩
 ·obtain ⟨g',cap,w',r1,r2,r3,r4,r5⟩:=run_append_lies (P:=Try.prog) (w2.alloc (.cells #[.int .i64 x.1,.int .i64 x.2] 31)) 23 ty W.heap.size 31 _ (.agg #[.int .i64 0,.int .i64 0]) 2 16 Try.underlying23 rfl rfl rfl rfl rfl (by decide) vs (B.length+1) _ (own_below b ((Below.refl _ _).alloc (Nat.le_refl _) _)) ⟨w2.heap.size,0,none⟩ 1 1 [.int .i64 x.1,.int .i64 x.2] rfl (World.news_of_block (Hand.q3 _ _ _ rfl)) (by intro u hu;simp at hu;rcases hu with rfl|rfl<;>rfl) (by decide) (by unfold maxLen;omega) (by omega) (by rw [sz];omega) _ rfl
  exact ⟨g',cap,w',r1,r2,⟨_,r3,fun q hq=>⟨(b.lt q hq).1,hq⟩⟩,by rw [sz] at r4;exact r4,r5⟩
theorem BendsMid.next {W w2 w3:World} {gm ga:Nat} {s0:Rt} {B:List (Kn × Rt)} {k:Kn} {gb cb:Nat} {vs:Value} (h:BendsMid W gm ga s0 B k gb cb vs w2) (hgm:gm<W.heap.size) (hga:ga<W.heap.size) (hne:ga≠gm) (x:Rt) (o:Obj) {g cap:Nat}
  (hown:w3.ownsRow W.heap.size 31 2 (.slice (some ⟨g,0,none⟩) (B.length+1+1) cap) (B.length+1+1) (flatT (s0 :: (B.map (·.2) ++ [x])))) {row:Option Nat} (hgrow:(w2.alloc o).grownBy w3 row) (hrow:∀ q,row=some q → W.heap.size≤q∧vs.ownBlock=some q) (hat:vs.ownBlock=some g ∨ g=w2.heap.size+1) :
  BendsAt W gm ga s0 (B ++ [(k,x)]) (.slice (some ⟨gb,0,none⟩) (B.length+1) cb) (.slice (some ⟨g,0,none⟩) (B.length+1+1) cap) (w3.setCell ⟨gm,1,none⟩ (.slice (some ⟨g,0,none⟩) (B.length+1+1) cap)):=by
 have sz:(w2.alloc o).heap.size=w2.heap.size+1:=by simp
 have hW:=h.fx.size
 have hq:∀ q,vs.ownBlock=some q → q<w2.heap.size∧q≠gm:=by
  intro q hq
  rcases h.sl with ⟨a,b⟩|⟨g,c,a,b⟩
  ·rw [b] at hq;simp only [Value.ownBlock,Option.some.injEq] at hq;subst hq;exact ⟨by omega,hne⟩
  ·have:=b.lt q hq;exact ⟨this.2,by omega⟩
 have keep2:∀ q,q<w2.heap.size → row≠some q → w3.heap[q]?=w2.heap[q]?:=fun q hq hn=>by
  rw [hgrow.block q (by omega) (fun e=>hn e.symm),Hand.q4 _ _ _ (by omega)]
 have keep:∀ q,q<w2.heap.size → vs.ownBlock≠some q → w3.heap[q]?=w2.heap[q]?:=fun q hq hn=>keep2 q hq (fun e=>hn (hrow q e).2)
 have hgmg:gm≠g:=by have:=(hown.lt g rfl).1;omega
 have hgbz:=h.own.lt gb rfl
 have ne1:vs.ownBlock≠some gm:=fun e=>(hq gm e).2 rfl
 have nb:(B ++ [(k,x)]).length=B.length+1:=by simp
 have fx3:Fx gm W w3:=by
  refine ⟨hgrow.os.trans h.fx.os,hgrow.tape.trans h.fx.tape,hgrow.output.trans h.fx.output,by have:=hgrow.size;omega,fun q hq1 hq2=>?_⟩
  rw [keep2 q (by omega) (fun e=>by have:=(hrow q e).1;omega)]
  exact h.fx.block q hq1 hq2
 refine ⟨?_,?_,?_,?_,?_,?_,?_⟩
 ·rw [nb,List.map_append]
  exact own_keep h.own fun q hq=>by cases hq;rw [Hand.q2 _ _ _ _ _ (by have:=hgbz.1;dsimp only;omega)];exact keep gb hgbz.2 h.dis
 ·intro e;simp at e
 ·intro _;exact ⟨gb,cb,by rw [nb]⟩
 ·rw [Hand.q1,keep gm (by omega) ne1,h.map];rfl
 ·refine .inr ⟨g,cap,by rw [nb],?_⟩
  rw [nb,List.map_append]
  exact own_keep hown fun q hq=>by cases hq;rw [Hand.q2 _ _ _ _ _ hgmg]
 ·intro q h1 h2
  have e1:gb=q:=Option.some.inj h1
  have e2:g=q:=Option.some.inj h2
  have e3:=hgbz.2
  rcases hat with e|e
  ·exact h.dis (by rw [e,e2,← e1])
  ·omega
 ·exact fx3.setCell _ _
end Go.Proofs.Ythlpaglldhgmfaa.PA
namespace Go.Proofs.Ythlpaglldhgmfaa.PA
open Go Go.RowKit Go.Proofs.YthlpaglldhgmfaaW.PrintWords Go.Proofs.YthlpaglldhgmfaaW.PrintLast Go.Proofs.YthlpaglldhgmfaaW.PrintMore
set_option linter.unusedSimpArgs false
set_option linter.unusedVariables false
attribute [local go_sem high] eqA31
def postK (s0:Rt) (ss:List Rt) (k0:Kn) (ks:List Kn):Option MapV × Int:=endK (ownK s0 (bendF s0 ss ks) k0).2 ⟨(ownK s0 (bendF s0 ss ks) k0).1,s0 :: (bendF s0 ss ks).map (·.2),(bendF s0 ss ks).length⟩
theorem ownK_bent (p0:Rt) (b:Kn × Rt) (B':List (Kn × Rt)) (k0 kl:Kn) (sl:Rt) (S:List Rt) (n:Nat) (h:(b :: B').getLast (by simp)=(kl,sl)) (hn:n=((b :: B').map (·.1)).length) :
  endK (ownK p0 (b :: B') k0).2 ⟨(ownK p0 (b :: B') k0).1,S,n⟩=(endK (atS (doS rAdd (atS (doS rSub 0 b.1.1 (1,1)).2 b.1 p0 (doS rSub 0 b.1.1 (1,1)).1).2 kl.1 (1,1)).2 kl sl (doS rAdd (atS (doS rSub 0 b.1.1 (1,1)).2 b.1 p0 (doS rSub 0 b.1.1 (1,1)).1).2 kl.1 (1,1)).1).2 ⟨(atS (doS rSub 0 b.1.1 (1,1)).2 b.1 p0 (doS rSub 0 b.1.1 (1,1)).1).1 :: (((b :: B').map (·.1)) ++ [(atS (doS rAdd (atS (doS rSub 0 b.1.1 (1,1)).2 b.1 p0 (doS rSub 0 b.1.1 (1,1)).1).2 kl.1 (1,1)).2 kl sl (doS rAdd (atS (doS rSub 0 b.1.1 (1,1)).2 b.1 p0 (doS rSub 0 b.1.1 (1,1)).1).2 kl.1 (1,1)).1).1]),S,((b :: B').map (·.1)).length⟩):=by
 have e:ownK p0 (b :: B') k0=bentS p0 (b :: B') b (kl,sl):=by rw [← h];rfl
 rw [e,hn]
 rfl
theorem step_append_run {P:Program} (w:World) {ops:Array Oper} {o:Oper} {a:Act} {K:Act → World → Prop} {Q:Exit → Act → World → Prop} {E:Prop} (hgd:o.guard=none) (s x:Operand) (t tn:TypeId)
  (ho:o.op = .call { callee:=.builtin .append,args:=#[s,x],argTypes:=#[t,tn] }) (vs vx:Value) (hs:a.eval s=vs) (hx:a.eval x=vx)
  (v':Value) (w':World) (hr:(Builtin.append_ #[t,tn] o.type #[vs,vx]).run P w = .ok v' w') (h:K (a.put o.dst v') w') :
  if Region.wanted o (yielded ops a.tmps)=true then Oper.wp P o a w K Q else E:=by
 have hw:Region.wanted o (yielded ops a.tmps)=true:=by simp [Region.wanted,hgd]
 rw [if_pos hw]
 exact Lib.wp_append_run w s x t tn ho vs vx hs hx v' w' hr h
theorem new_exit (w W:World) (k0:Kn) (ks:List Kn) (p0:Rt) (ss:List Rt) (B:List (Kn × Rt)) {s1 s2 s3 s4 s6 s9 s10 s11 s12 s13 s14 s15 s16 s17 s18 s19 s20 s21 s22 s23 s24 s25 s26 s27 s28 s29 s30 s31 s32 s33 s34 s35 s36 s37 s38 s39 s40 s41 s42 s43 s44 s45 s46 s47 s48 s49 s50 s51 s52 s53 s54 s55 s56 s57 s58 s59 s60 s61 s62 s63 s64 s65 s66 s67 s68 s69 s70 s71 s72 s73 s74 s75 s76 s77 s78 s79 s80 s81 s82 s83 s84 s85 s86 s87 s88 s89 s90 s91 s92 s93 s94 s95 s96 s97 s98 s99 s100 s101 s102 s103 s104 s105 s106 s107 s108 s109 s110 s111 s112 s113 s114 s115 s116 s117 s118 s119 s120 s121 s122 s123 s124 s125 s126 s127 s128 s129 s130 s131 s132 s133 s134 s135 s136 s137 s138 s139 s140 s141 s142 s143 s144 s145 s146 s147 s148 s149 s150 s151 s152 s153 s154 s155 s156 s157 s158 s159 s160 s161 s162 s163 s164 s165 s166 s167 s168 s169 vb vs:Value} {gm:Nat} {ad:Addr} {n cap ga na ca:Nat} {wr:World} (hB0:bendF p0 ss ks=B) (hA:BendsAt W gm ga p0 B vb vs wr) (hK:KnA W ad (k0 :: ks)) (hS:RtA W ⟨ga,0,none⟩ (p0 :: ss)) (hB:Below w.heap.size w W) (hgm:w.heap.size≤gm) (hgmz:gm<W.heap.size) (hga:w.heap.size≤ga) (n1:gm≠ad.block) (n2:gm≠ga) (h0:0<n) (h1:0<na) (hl:ss.length≤64) (hR:KnR (k0 :: ks)) (hRs:∀ s ∈ p0 :: ss,R64 s) :
  newT7.wp Try.prog (bodyPost Try.prog Try.f13 (NewQ w (postK p0 ss k0 ks))) ⟨#[.slice (some ad) n cap,s1,s2,s3,s4,.slice (some ⟨ga,0,none⟩) na ca,s6,.pointer (some ⟨gm,0,none⟩),vb,s9,s10,s11,s12,s13,s14,s15,s16,s17,s18,s19,s20,s21,s22,s23,s24,s25,s26,s27,s28,s29,s30,s31,s32,s33,s34,s35,s36,s37,s38,s39,s40,s41,s42,s43,s44,s45,s46,s47,s48,s49,s50,s51,s52,s53,s54,s55,s56,s57,s58,s59,s60,s61,s62,s63,s64,s65,s66,s67,s68,s69,s70,s71,s72,s73,s74,s75,s76,s77,s78,s79,s80,s81,s82,s83,s84,s85,s86,s87,s88,s89,s90,s91,s92,s93,s94,s95,s96,s97,s98,s99,s100,s101,s102,s103,s104,s105,s106,s107,s108,s109,s110,s111,s112,s113,s114,s115,s116,s117,s118,s119,s120,s121,s122,s123,s124,s125,s126,s127,s128,s129,s130,s131,s132,s133,s134,s135,s136,s137,s138,s139,s140,s141,s142,s143,s144,s145,s146,s147,s148,s149,s150,s151,s152,s153,s154,s155,s156,s157,s158,s159,s160,s161,s162,s163,s164,s165,s166,s167,s168,s169],[]⟩ wr:=by
 have hadz:ad.block<W.heap.size:=World.block_lt_of_cell? W _ hK.zero.1
 have hgaz:ga<W.heap.size:=World.block_lt_of_cell? W _ hS.zero.1
 have hF:=F2.of_fx gm hA.fx
 have k1:=hK.f2 hF (Ne.symm n1) (Ne.symm n1)
 have s1_:=hS.f2 hF (Ne.symm n2) (Ne.symm n2)
 have hBr:Below w.heap.size w wr:=hA.fx.below hB hgm hB.size
 have hmem:=bendF_mem ss p0 ks
 have hlen:=bendF_len ss p0 ks
 rw [hB0] at hmem hlen
 have hp0:=hRs p0 List.mem_cons_self
 have hk0:=hR k0 List.mem_cons_self
 unfold postK
 rw [hB0]
 cases B with
 | nil =>
  have e1:=hA.nil rfl
  subst e1
  obtain ⟨gs_,c_,e2⟩:=hA.form
  have hmap:=hA.map
  have hT:RtA wr ⟨gs_,0,none⟩ [p0]∧w.heap.size≤gs_∧gm≠gs_:=by
   rcases hA.sl with ⟨_,b⟩|⟨g,c,a,b⟩
   ·rw [b] at e2;cases e2;exact ⟨fun j hj=>(by have hj0:j=0:=(by simpa using hj);subst hj0;exact s1_ 0 (by simp)),hga,n2⟩
   ·rw [a] at e2;cases e2;have hlt:W.heap.size≤gs_∧gs_<wr.heap.size:=b.lt _ (by rw [a];rfl);rw [a] at b;exact ⟨own_rta b,by have:=hB.size;omega,by omega⟩
  subst e2
  exact new_line w k0 p0 ks ss hmap k1 s1_ hT.1 hBr hgm hT.2.1 n1 n2 hT.2.2 h0 h1 hk0.1 hk0.2 hp0
 | cons b B' =>
  obtain ⟨gb,cb,e1⟩:=hA.some_ (by simp)
  obtain ⟨gs_,c_,e2⟩:=hA.form
  have hmap:=hA.map
  have hown:=hA.own
  have hsl:=hA.sl
  subst e1
  subst e2
  have hb:=hown.lt gb rfl
  have hT:wr.ownsRow W.heap.size 31 2 (.slice (some ⟨gs_,0,none⟩) ((b :: B').length+1) c_) ((b :: B').length+1) (flatT (p0 :: (b :: B').map (·.2))):=by
   rcases hsl with ⟨x,_⟩|⟨g,c,a,b⟩
   ·cases x
   ·exact b
  have hs:=hT.lt gs_ rfl
  obtain ⟨⟨kl,sl⟩,hlast⟩:∃ z,(b :: B').getLast (by simp)=z:=⟨_,rfl⟩
  have hl1:=List.getLast_eq_getElem (l:=b :: B') (by simp)
  rw [hlast] at hl1
  rw [ownK_bent p0 b B' k0 kl sl (p0 :: (b :: B').map (·.2)) (b :: B').length hlast (by simp)]
  have hjl:(b :: B').length - 1=B'.length:=by simp
  simp only [hjl] at hl1
  obtain ⟨nj,hnj⟩:∃ n,B'.length=n:=⟨_,rfl⟩
  have e0:(b :: B').length=nj+1:=by simp [hnj]
  have hBR:KnR ((b :: B').map (·.1)):=by intro k hk;obtain ⟨x,hx,rfl⟩:=List.mem_map.1 hk;exact hR _ (List.mem_cons_of_mem _ (hmem x hx).1)
  have hSR:∀ s ∈ p0 :: (b :: B').map (·.2),R64 s:=by intro s hs';rcases List.mem_cons.1 hs' with rfl|hs';exact hp0;obtain ⟨x,hx,rfl⟩:=List.mem_map.1 hs';exact hRs _ (List.mem_cons_of_mem _ (hmem x hx).2)
  have hkf:∃ q,((b :: B').map (·.1))[0]'q=b.1:=⟨by simp,by simp⟩
  have hkl:∃ q,((b :: B').map (·.1))[nj]'q=kl:=by subst hnj;exact ⟨by simp,by simp only [List.getElem_map];rw [← hl1]⟩
  have hs0:∃ q,(p0 :: (b :: B').map (·.2))[0]'q=p0:=⟨by simp,rfl⟩
  have hsl2:∃ q,(p0 :: (b :: B').map (·.2))[nj+1]'q=sl:=by subst hnj;exact ⟨by simp,by simp only [List.getElem_cons_succ,List.getElem_map];rw [← hl1]⟩
  have hb1:nj+1=((b :: B').map (·.1)).length:=by rw [List.length_map,e0]
  have hs1:nj+1+1=(p0 :: (b :: B').map (·.2)).length:=by rw [List.length_cons,List.length_map,e0]
  rw [e0] at hmap hown hT hlen ⊢
  obtain ⟨Bk,hBk⟩:∃ x,(b :: B').map (·.1)=x:=⟨_,rfl⟩
  obtain ⟨Ss,hSs⟩:∃ x,p0 :: (b :: B').map (·.2)=x:=⟨_,rfl⟩
  obtain ⟨kf,hkf0⟩:∃ x,b.1=x:=⟨_,rfl⟩
  rw [hBk] at hown hBR hkf hkl hb1 ⊢
  rw [hSs] at hT hSR hs0 hsl2 hs1 ⊢
  rw [hkf0] at hkf ⊢
  clear hBk hSs hkf0 hmem hl1 hlast hjl hA hsl hB0
  exact new_bent w kf kl p0 sl Bk Ss hmap (own_kna hown) (own_rta hT) hBr hgm (by have:=hB.size;dsimp only;omega) (by omega) Hand.d hb1 hs1 (by omega) hBR hkf hkl hs0 hsl2 hSR
theorem new_t4 (w:World) (k0:Kn) (ks:List Kn) (p0:Rt) (ss:List Rt) {s1 s2 s3 s4 s6 s7 s8 s9 s10 s11 s12 s13 s14 s15 s16 s17 s18 s19 s20 s21 s22 s23 s24 s25 s26 s27 s28 s29 s30 s31 s32 s33 s34 s35 s36 s37 s38 s39 s40 s41 s42 s43 s44 s45 s46 s47 s48 s49 s50 s51 s52 s53 s54 s55 s56 s57 s58 s59 s60 s61 s62 s63 s64 s65 s66 s67 s68 s69 s70 s71 s72 s73 s74 s75 s76 s77 s78 s79 s80 s81 s82 s83 s84 s85 s86 s87 s88 s89 s90 s91 s92 s93 s94 s95 s96 s97 s98 s99 s100 s101 s102 s103 s104 s105 s106 s107 s108 s109 s110 s111 s112 s113 s114 s115 s116 s117 s118 s119 s120 s121 s122 s123 s124 s125 s126 s127 s128 s129 s130 s131 s132 s133 s134 s135 s136 s137 s138 s139 s140 s141 s142 s143 s144 s145 s146 s147 s148 s149 s150 s151 s152 s153 s154 s155 s156 s157 s158 s159 s160 s161 s162 s163 s164 s165 s166 s167 s168 s169:Value} {ad:Addr} {n cap ga na ca:Nat} {V:World} (hK:KnA V ad (k0 :: ks)) (hO:V.ownsRow w.heap.size 31 2 (.slice (some ⟨ga,0,none⟩) na ca) na (flatT (p0 :: ss))) (hB:Below w.heap.size w V) (hn:n=ks.length+1) (hna:na=ss.length+1) (hle:ss.length≤ks.length) (h64:n≤64) (hR:KnR (k0 :: ks)) (hRs:∀ s ∈ p0 :: ss,R64 s) :
  newT4.wp Try.prog (bodyPost Try.prog Try.f13 (NewQ w (postK p0 ss k0 ks))) ⟨#[.slice (some ad) n cap,s1,s2,s3,s4,.slice (some ⟨ga,0,none⟩) na ca,s6,s7,s8,s9,s10,s11,s12,s13,s14,s15,s16,s17,s18,s19,s20,s21,s22,s23,s24,s25,s26,s27,s28,s29,s30,s31,s32,s33,s34,s35,s36,s37,s38,s39,s40,s41,s42,s43,s44,s45,s46,s47,s48,s49,s50,s51,s52,s53,s54,s55,s56,s57,s58,s59,s60,s61,s62,s63,s64,s65,s66,s67,s68,s69,s70,s71,s72,s73,s74,s75,s76,s77,s78,s79,s80,s81,s82,s83,s84,s85,s86,s87,s88,s89,s90,s91,s92,s93,s94,s95,s96,s97,s98,s99,s100,s101,s102,s103,s104,s105,s106,s107,s108,s109,s110,s111,s112,s113,s114,s115,s116,s117,s118,s119,s120,s121,s122,s123,s124,s125,s126,s127,s128,s129,s130,s131,s132,s133,s134,s135,s136,s137,s138,s139,s140,s141,s142,s143,s144,s145,s146,s147,s148,s149,s150,s151,s152,s153,s154,s155,s156,s157,s158,s159,s160,s161,s162,s163,s164,s165,s166,s167,s168,s169],[]⟩ V:=by
 have hca:na≤ca:=by rcases hO.2 with ⟨h,_⟩|⟨_,_,_,h,_,_,h2,_⟩;cases h;cases h;exact h2
 have gaz:=(hO.lt ga rfl).2
 have gaw:=(hO.lt ga rfl).1
 have hadz:ad.block<V.heap.size:=World.block_lt_of_cell? V _ hK.zero.1
 have i1:((1:Int)≤(ca:Int))=True:=eq_true (by omega)
 have i2:(1≤ca)=True:=eq_true (by omega)
 have i3:((ca:Int)<1)=False:=eq_false (by omega)
 have HK:=Lib.hid hK
 have HO:=Lib.hid hO
 have HB:=Lib.hid hB
 have HR:=Lib.hid hR
 have HRS:=Lib.hid hRs
 have HN:=Lib.hid hn
 have HNA:=Lib.hid hna
 have HLE:=Lib.hid hle
 clear hK hO hB hR hRs hn hna hle
 rw [newE4]
 refine wp_seq_k (fun K4 hK4=>?_)
 have HK4:=Lib.hid hK4
 clear hK4
 conv=>arg 2;whnf
 go_wp2
 refine HK4.out _ _ ?_
 rw [newE5]
 refine wp_seq_k (fun K5 hK5=>?_)
 have HK5:=Lib.hid hK5
 clear hK5
 conv=>arg 2;whnf
 go_wp2
 refine HK5.out _ _ ?_
 obtain ⟨W,hW⟩:∃ W_,W_=V.alloc (.cells #[.slice none 0 0,.slice (some ⟨ga,0,none⟩) 1 1,.int .i64 0] 70):=⟨_,rfl⟩
 rw [← hW]
 have gM:W.heap[V.heap.size]?=some (.cells #[.slice none 0 0,.slice (some ⟨ga,0,none⟩) 1 1,.int .i64 0] 70 (0,0)):=by rw [hW];exact Hand.q3 _ _ _ rfl
 have hBW:Below V.heap.size V W:=by rw [hW];exact (Below.refl _ _).alloc (Nat.le_refl _) _
 have hsz:V.heap.size<W.heap.size:=(Hand.hz gM).1
 have KW:=Lib.hid (HK.out.below hBW)
 have AW:=Lib.hid (own_rta (own_below HO.out hBW))
 have GM:=Lib.hid gM
 have HBW:=Lib.hid (HB.out.trans (Below.mono hBW HB.out.size))
 clear hW gM hBW
 rw [newE6]
 refine wp_seq_k (fun K6 hK6=>?_)
 have HK6:=Lib.hid hK6
 clear hK6
 conv=>arg 2;whnf
 go_wp2_with fail
 obtain ⟨aa,haa⟩:∃ aa:Addr,(⟨ga,0,none⟩:Addr)=aa:=⟨_,rfl⟩
 rw [haa]
 have HAA:=Lib.hid haa
 clear haa
 go_loopw [8,9] (fun vb i wr=>∃ (j:Nat) (B:List (Kn × Rt)) (vs:Value),j+1≤na∧i = .int .i64 ((j:Int)+1)∧bendF p0 (ss.take j) (ks.take j)=B∧BendsAt W V.heap.size ga p0 B vb vs wr) (fun _ i _=>na - (intOf i).toNat)
 case atStart=>exact ⟨0,[],_,by have:=HNA.out;omega,rfl,by simp [bendF],⟨World.ownsRow_nil _ _ _ _,fun _=>rfl,fun h=>absurd rfl h,GM.out,.inl ⟨rfl,rfl⟩,fun k hk=>by simp [Value.ownBlock] at hk,Fx.refl _ _⟩⟩
 case round =>
  obtain ⟨j,B,vs,hj,rfl,hBd,hBA⟩:=hrel
  have HBD:=Lib.hid hBd
  have HBA:=Lib.hid hBA
  clear hBd hBA
  by_cases hjn:j+1<na
  ·have p1:((j:Int)+1<(na:Int))=True:=eq_true (by omega)
   have hjs:j<ss.length:=by have:=HNA.out;omega
   have hjk:j<ks.length:=by have:=HLE.out;omega
   have hjn2:j+1<n:=by have:=HN.out;omega
   obtain ⟨⟨x1,x2⟩,hx⟩:∃ x,ss[j]=x:=⟨_,rfl⟩
   obtain ⟨⟨y1,y2⟩,hy⟩:∃ y,(p0 :: ss)[j]'(by simp;omega)=y:=⟨_,rfl⟩
   obtain ⟨⟨⟨a1,a2⟩,a3,a4⟩,hk⟩:∃ k,ks[j]=k:=⟨_,rfl⟩
   have HLS:=Lib.hid (show lastS p0 (ss.take j)=(y1,y2) from by rw [lastS_take p0 ss j (by simp;omega),hy])
   have HX1:=Lib.hid (show ss.take (j+1)=ss.take j ++ [(x1,x2)] from by rw [List.take_succ_eq_append_getElem hjs,hx])
   have HX2:=Lib.hid (show ks.take (j+1)=ks.take j ++ [((a1,a2),(a3,a4))] from by rw [List.take_succ_eq_append_getElem hjk,hk])
   have HLN:=Lib.hid (show (ss.take j).length=(ks.take j).length from by simp only [List.length_take];omega)
   have CA:=Lib.hid (fun (w_:World) (h:Fx V.heap.size W w_)=>(by have f:=F2.of_fx V.heap.size h;have r:=AW.out.f2 f Hand.d Hand.d;rw [HAA.out] at r;have r1:=r (j+1) (by simp;omega);have r0:=r j (by simp;omega);simp only [List.getElem_cons_succ,hx] at r1;rw [hy] at r0;exact ⟨r1.1,r1.2,r0.1,r0.2⟩:w_.cell? (aa.add ((j+1)*2))=some (.int .i64 x1)∧w_.cell? ⟨(aa.add ((j+1)*2)).block,(aa.add ((j+1)*2)).off+1,none⟩=some (.int .i64 x2)∧w_.cell? (aa.add (j*2))=some (.int .i64 y1)∧w_.cell? ⟨(aa.add (j*2)).block,(aa.add (j*2)).off+1,none⟩=some (.int .i64 y2)))
   have CK:=Lib.hid (fun (w_:World) (h:Fx V.heap.size W w_)=>(by have f:=F2.of_fx V.heap.size h;have r:=KW.out.f2 f (by omega) (by omega) (j+1) (by simp;omega);simp only [List.getElem_cons_succ,hk] at r;exact r:w_.cell? (ad.add ((j+1)*4))=some (.int .i64 a1)∧w_.cell? ⟨(ad.add ((j+1)*4)).block,(ad.add ((j+1)*4)).off+1,none⟩=some (.int .i64 a2)∧w_.cell? ⟨(ad.add ((j+1)*4)).block,(ad.add ((j+1)*4)).off+2,none⟩=some (.int .i64 a3)∧w_.cell? ⟨(ad.add ((j+1)*4)).block,(ad.add ((j+1)*4)).off+3,none⟩=some (.int .i64 a4)))
   clear hx hy hk
   obtain ⟨c0,c1,d0,d1⟩:=CA.out _ HBA.out.fx
   have w1:IntKind.i64.wrap ((j:Int)+1 - 1)=(j:Int):=by rw [IntKind.wrap_i64];omega
   have w2:IntKind.i64.wrap (j:Int)=(j:Int):=by rw [IntKind.wrap_i64];omega
   have p3:(0:Int)≤(j:Int)+1:=by omega
   have p4:((j:Int)<(na:Int))=True:=eq_true (by omega)
   have p5:(0:Int)≤(j:Int):=by omega
   have p6:(j<na)=True:=eq_true (by omega)
   have p7:(j+1<na)=True:=eq_true (by omega)
   have p8:((j:Int)+1<(n:Int))=True:=eq_true (by omega)
   have p9:(j+1<n)=True:=eq_true (by omega)
   go_wp2_with fail
   go_still_tail 9,(by kernel_rfl)
   change wpList _ _ _ _ _ wr.drew
   by_cases hxy:x1=y1∧x2=y2
   ·have e0:(x1 == y1 && x2 == y2)=true:=by simp [hxy.1,hxy.2]
    have e0':(y1 == x1 && y2 == x2)=true:=by simp [hxy.1,hxy.2]
    go_wp2_with fail
    go_roundw
    case rel=>exact ⟨j+1,B,vs,by omega,by rw [Int.natCast_add];rfl,by rw [HX1.out,HX2.out,bendF_snoc _ _ _ _ _ HLN.out,HBD.out,HLS.out,if_pos (by rw [hxy.1,hxy.2]),List.append_nil],HBA.out.drew⟩
    case measure=>simp [intOf];omega
   ·have e0:(x1 == y1 && x2 == y2)=false:=by simpa using hxy
    have e0':(y1 == x1 && y2 == x2)=false:=by simp only [Bool.and_eq_false_iff,beq_eq_false_iff_ne];by_cases h1:x1=y1;exact Or.inr (fun h=>hxy ⟨h1,h.symm⟩);exact Or.inl (fun h=>h1 h.symm)
    obtain ⟨e1,e2,e3,e4⟩:=CK.out _ HBA.out.fx.drew
    have hBl:B.length≤64:=by have h1:=bendF_len (ss.take j) p0 (ks.take j);rw [HBD.out] at h1;simp only [List.length_take] at h1;have:=HNA.out;have:=HN.out;have:=HLE.out;omega
    have HBD2:=Lib.hid HBA.out.drew
    go_wp2_with (at_builtin;refine wpList_append_lies _ rfl _ _ 22 rfl W.heap.size 35 _ (.agg #[.int .i64 0,.int .i64 0,.int .i64 0,.int .i64 0]) 4 32 Try.underlying22 rfl rfl rfl rfl rfl (by decide) _ B.length _ rfl (own_below HBA.out.own ((Below.refl _ _).alloc (Nat.le_refl _) _).drew) ⟨wr.heap.size,0,none⟩ 1 1 [.int .i64 a1,.int .i64 a2,.int .i64 a3,.int .i64 a4] rfl rfl (World.news_of_block (by rw [Hand.q5];exact Hand.q3 _ _ _ rfl)) (by intro u hu;simp at hu;rcases hu with rfl|rfl|rfl|rfl<;>rfl) (by decide) (by unfold maxLen;omega) (by omega) (by rw [World.size_drew,World.size_alloc];have:=HBA.out.fx.size;omega) _ rfl ?_)
    intro gb cb w2 hown hgrow hat hlt
    have HM0:=Lib.hid (HBD2.out.mid hsz (by omega) (by omega) _ ((a1,a2),(a3,a4)) hown hgrow (by rcases hat with h|h;exact Or.inl h;exact Or.inr (h.trans (by simp))))
    have HM:=Lib.hid HM0.out.drew
    clear hown hgrow hat
    obtain ⟨q0,q1,_,_⟩:=CA.out _ HM0.out.fx
    obtain ⟨m0,fm0,m1,fm1,m2,fm2⟩:=Hand.hc3 HM0.out.map
    have KEEP:=Lib.hid (fun (w_:World) (h:Below w2.heap.size w2 w_)=>(by obtain ⟨r0,r1,_,_⟩:=CA.out _ (HM0.out.fx.step h HM0.out.fx.size);exact ⟨r0,r1⟩:w_.cell? (aa.add ((j+1)*2))=some (.int .i64 x1)∧w_.cell? ⟨(aa.add ((j+1)*2)).block,(aa.add ((j+1)*2)).off+1,none⟩=some (.int .i64 x2)))
    obtain ⟨mz0,mz1,mz2,my0,my1⟩:=Hand.hz HM0.out.map
    have BR:Below w2.heap.size w2 w2:=Below.refl _ _
    go_wp2_with fail
    go_region_law (first|(obtain ⟨g3,cap3,w3,hr3,hown3,⟨row3,hgrow3,hrow3⟩,hat3,hlt3⟩:=HM0.out.app (by omega) (by omega) AW.out (x1,x2) (by omega) 23;refine step_append_run _ rfl (.tmp 62) (.tmp 67) _ _ rfl _ _ rfl rfl _ _ hr3 ?_;have gm3:w3.heap[V.heap.size]?=some (.cells #[.slice none 0 0,vs,.int .i64 0] 70 (0,0)):=(by rw [hgrow3.block _ (by rw [World.size_alloc];have:=HM.out.fx.size;simp only [World.size_drew] at this ⊢;omega) (fun e=>by have:=(hrow3 _ e.symm).1;omega),Hand.q4 _ _ _ (by have:=HM.out.fx.size;simp only [World.size_drew] at this ⊢;omega)];exact HM.out.map);obtain ⟨t0,ft0,t1,ft1,t2,ft2⟩:=Hand.hc3 gm3;have F3:Fx V.heap.size W w3:=Fx.grown (Fx.alloc HM0.out.fx _) hgrow3 (fun k hk=>(hrow3 k hk).1);have S3:w3.cell? (aa.add ((j+1)*2))=some (.int .i64 x1)∧w3.cell? ⟨(aa.add ((j+1)*2)).block,(aa.add ((j+1)*2)).off+1,none⟩=some (.int .i64 x2):=(by obtain ⟨r0,r1,_,_⟩:=CA.out _ F3;exact ⟨r0,r1⟩);have S4:=fun (u:Value)=>CA.out _ (F3.setCell 1 u);have NX:=Lib.hid (HM0.out.next hsz (by omega) (by omega) (x1,x2) _ hown3 hgrow3 hrow3 hat3);clear hr3 hown3 hgrow3 hrow3 hat3 gm3)|(obtain ⟨g3,cap3,w3,hr3,hown3,⟨row3,hgrow3,hrow3⟩,hat3,hlt3⟩:=HM.out.app (by omega) (by omega) AW.out (x1,x2) (by omega) 23;refine step_append_run _ rfl (.tmp 62) (.tmp 67) _ _ rfl _ _ rfl rfl _ _ hr3 ?_;have gm3:w3.heap[V.heap.size]?=some (.cells #[.slice none 0 0,vs,.int .i64 0] 70 (0,0)):=(by rw [hgrow3.block _ (by rw [World.size_alloc];have:=HM.out.fx.size;simp only [World.size_drew] at this ⊢;omega) (fun e=>by have:=(hrow3 _ e.symm).1;omega),Hand.q4 _ _ _ (by have:=HM.out.fx.size;simp only [World.size_drew] at this ⊢;omega)];exact HM.out.map);obtain ⟨t0,ft0,t1,ft1,t2,ft2⟩:=Hand.hc3 gm3;have F3:Fx V.heap.size W w3:=Fx.grown (Fx.alloc HM.out.fx _) hgrow3 (fun k hk=>(hrow3 k hk).1);have S3:w3.cell? (aa.add ((j+1)*2))=some (.int .i64 x1)∧w3.cell? ⟨(aa.add ((j+1)*2)).block,(aa.add ((j+1)*2)).off+1,none⟩=some (.int .i64 x2):=(by obtain ⟨r0,r1,_,_⟩:=CA.out _ F3;exact ⟨r0,r1⟩);have S4:=fun (u:Value)=>CA.out _ (F3.setCell 1 u);have NX:=Lib.hid (HM.out.next hsz (by omega) (by omega) (x1,x2) _ hown3 hgrow3 hrow3 hat3);clear hr3 hown3 hgrow3 hrow3 hat3 gm3))
    all_goals (go_wp2;go_roundw;first|(simp [intOf];omega)|exact ⟨j+1,B ++ [(((a1,a2),(a3,a4)),(x1,x2))],_,by omega,by rw [Int.natCast_add];rfl,by rw [HX1.out,HX2.out,bendF_snoc _ _ _ _ _ HLN.out,HBD.out,HLS.out,if_neg (by intro h;exact hxy ⟨congrArg Prod.fst h,congrArg Prod.snd h⟩)],by first|exact NX.out|exact NX.out.drew⟩)
    all_goals (first|(simp [intOf];omega)|skip)
  ·have p1:((j:Int)+1<(na:Int))=False:=eq_false (by omega)
   have hjs:j=ss.length:=by have:=HNA.out;omega
   have hB0:bendF p0 ss ks=B:=by rw [← HBD.out,hjs,List.take_of_length_le (Nat.le_refl _),bendF_take]
   go_wp2_with fail
   refine HK6.out _ _ ?_
   rw [← HAA.out]
   exact new_exit w W k0 ks p0 ss B hB0 HBA.out KW.out AW.out HBW.out HB.out.size hsz gaw (by omega) (by omega) (by have:=HN.out;omega) (by have:=HNA.out;omega) (by have:=HNA.out;have:=HN.out;have:=HLE.out;omega) HR.out HRS.out
end Go.Proofs.Ythlpaglldhgmfaa.PA
namespace Go.Proofs.Ythlpaglldhgmfaa.PA
open Go Go.RowKit Go.Proofs.YthlpaglldhgmfaaW.PrintWords Go.Proofs.YthlpaglldhgmfaaW.PrintLast Go.Proofs.YthlpaglldhgmfaaW.PrintMore
set_option linter.unusedSimpArgs false
set_option linter.unusedVariables false
theorem newK_chk {l:List Kn} (h:chkK l≠0):newK l=(none,chkK l):=by unfold newK;rw [if_pos h]
theorem newK_slp {l:List Kn} (h:chkK l=0) (h2:(slopesS l).2≠0):newK l=(none,(slopesS l).2):=by unfold newK;rw [if_neg (by simp [h]),if_pos h2]
theorem newK_ok {l ks:List Kn} {k0:Kn} {p0:Rt} {ss:List Rt} (h:chkK l=0) (h2:(slopesS l).2=0) (h3:(slopesS l).1=p0 :: ss) (h4:l=k0 :: ks):newK l=postK p0 ss k0 ks:=by
 subst h4
 unfold newK
 rw [if_neg (by simp [h]),if_neg (by simp [h2])]
 simp only [h3]
 rfl
theorem chkK_0 {l:List Kn} (h:chkK l=0):l.length≠0∧l.length≤64∧(l.all fun k=>rRight k.1 && rRight k.2)=true∧risesB (·.1) l=true∧risesB (·.2) l=true:=by
 unfold chkK at h
 split at h
 ·cases h
 ·split at h
  ·cases h
  ·split at h
   ·cases h
   ·split at h
    ·cases h
    ·split at h
     ·cases h
     ·rename_i a b c d e
      exact ⟨a,by omega,by simpa using c,by simpa using d,by simpa using e⟩
theorem new_t1 (w:World) (l:List Kn) (A:Option Addr) (cap:Nat) {s1 s2 s3 s4 s5 s6 s7 s8 s9 s10 s11 s12 s13 s14 s15 s16 s17 s18 s19 s20 s21 s22 s23 s24 s25 s26 s27 s28 s29 s30 s31 s32 s33 s34 s35 s36 s37 s38 s39 s40 s41 s42 s43 s44 s45 s46 s47 s48 s49 s50 s51 s52 s53 s54 s55 s56 s57 s58 s59 s60 s61 s62 s63 s64 s65 s66 s67 s68 s69 s70 s71 s72 s73 s74 s75 s76 s77 s78 s79 s80 s81 s82 s83 s84 s85 s86 s87 s88 s89 s90 s91 s92 s93 s94 s95 s96 s97 s98 s99 s100 s101 s102 s103 s104 s105 s106 s107 s108 s109 s110 s111 s112 s113 s114 s115 s116 s117 s118 s119 s120 s121 s122 s123 s124 s125 s126 s127 s128 s129 s130 s131 s132 s133 s134 s135 s136 s137 s138 s139 s140 s141 s142 s143 s144 s145 s146 s147 s148 s149 s150 s151 s152 s153 s154 s155 s156 s157 s158 s159 s160 s161 s162 s163 s164 s165 s166 s167 s168 s169:Value} (hK:KnS w A l) (hR:KnR l) :
  newT1.wp Try.prog (bodyPost Try.prog Try.f13 (NewQ w (newK l))) ⟨#[.slice A l.length cap,s1,s2,s3,s4,s5,s6,s7,s8,s9,s10,s11,s12,s13,s14,s15,s16,s17,s18,s19,s20,s21,s22,s23,s24,s25,s26,s27,s28,s29,s30,s31,s32,s33,s34,s35,s36,s37,s38,s39,s40,s41,s42,s43,s44,s45,s46,s47,s48,s49,s50,s51,s52,s53,s54,s55,s56,s57,s58,s59,s60,s61,s62,s63,s64,s65,s66,s67,s68,s69,s70,s71,s72,s73,s74,s75,s76,s77,s78,s79,s80,s81,s82,s83,s84,s85,s86,s87,s88,s89,s90,s91,s92,s93,s94,s95,s96,s97,s98,s99,s100,s101,s102,s103,s104,s105,s106,s107,s108,s109,s110,s111,s112,s113,s114,s115,s116,s117,s118,s119,s120,s121,s122,s123,s124,s125,s126,s127,s128,s129,s130,s131,s132,s133,s134,s135,s136,s137,s138,s139,s140,s141,s142,s143,s144,s145,s146,s147,s148,s149,s150,s151,s152,s153,s154,s155,s156,s157,s158,s159,s160,s161,s162,s163,s164,s165,s166,s167,s168,s169],[]⟩ w:=by
 have M1:=Lib.hid (chk_any A l cap w hK hR)
 have HK:=Lib.hid hK
 have HR:=Lib.hid hR
 clear hK hR
 obtain ⟨q,hq⟩:∃ q,chkK l=q:=⟨_,rfl⟩
 rw [hq] at M1
 have HQ:=Lib.hid hq
 clear hq
 obtain ⟨n,hn⟩:∃ n,l.length=n:=⟨_,rfl⟩
 rw [hn] at M1
 rw [hn]
 have HN:=Lib.hid hn
 clear hn
 rw [newE1]
 refine wp_seq_k (fun K1 hK1=>?_)
 have HK1:=Lib.hid hK1
 clear hK1
 conv=>arg 2;whnf
 go_wp2_with fail
 with_reducible refine (M1.out).mono ?_
 rintro e_ w1 ⟨rfl,hb1⟩
 by_cases hq0:q=0
 ·have j0:(q != 0)=false:=by simpa using hq0
  go_wp2
  refine HK1.out _ _ ?_
  obtain ⟨l0,l1,lr,_,_⟩:=chkK_0 (HQ.out.trans hq0)
  obtain ⟨ad,rfl,hK0⟩:∃ ad,A=some ad∧KnA w ad l:=by rcases HK.out with h|h;exact absurd (by rw [h];rfl) l0;exact h
  have SL:=Lib.hid (sls_any ad l cap w1 (hK0.below hb1) HR.out (by omega) (by omega))
  obtain ⟨⟨sl,es⟩,hsl⟩:∃ x,slopesS l=x:=⟨_,rfl⟩
  have hlen:=slopesS_len l (by omega)
  have hsr:=slopesS_R l
  rw [hsl] at SL hlen hsr
  dsimp only at SL hlen hsr
  rw [HN.out] at SL
  obtain ⟨ns,hns⟩:∃ n,sl.length=n:=⟨_,rfl⟩
  rw [hns] at SL
  have HB1:=Lib.hid hb1
  have HS:=Lib.hid hsl
  have HL:=Lib.hid hlen
  have HSR:=Lib.hid hsr
  have HNS:=Lib.hid hns
  have HK0:=Lib.hid hK0
  clear hsl hlen hsr hns hK0 hb1
  rw [newE2]
  refine wp_seq_k (fun K2 hK2=>?_)
  have HK2:=Lib.hid hK2
  clear hK2
  conv=>arg 2;whnf
  go_wp2_with fail
  with_reducible refine (SL.out).mono ?_
  rintro e_ w2 ⟨g,c,rfl,how,hb2⟩
  have HOW:=Lib.hid how
  have HB2:=Lib.hid hb2
  clear how hb2
  go_wp2
  refine HK2.out _ _ ?_
  rw [newE3]
  refine wp_seq_k (fun K3 hK3=>?_)
  have HK3:=Lib.hid hK3
  clear hK3
  conv=>arg 2;whnf
  by_cases he:es=0
  ·have j1:(es != 0)=false:=by simpa using he
   have j2:(es == 0)=true:=by simpa using he
   go_wp2
   refine HK3.out _ _ ?_
   have hne:l≠[]:=by intro h;exact l0 (by rw [h];rfl)
   obtain ⟨k0,ks,rfl⟩:=List.exists_cons_of_ne_nil hne
   have hsn:sl≠[]:=by intro h;have:=HL.out;rw [h] at this;simp at this;omega
   obtain ⟨p0,ss,rfl⟩:=List.exists_cons_of_ne_nil hsn
   have hq1:=HQ.out.trans hq0
   have hsl:=HS.out
   rw [newK_ok hq1 (by rw [hsl];exact he) (by rw [hsl]) rfl]
   have hl:=HL.out
   simp only [List.length_cons] at hl l1
   have hn1:=HN.out
   have hn2:=HNS.out
   simp only [List.length_cons] at hn1 hn2
   exact new_t4 w k0 ks p0 ss ((HK0.out.below HB1.out).below HB2.out) (own_base HOW.out HB1.out.size) (Hand.stepB HB2.out HB1.out (Nat.le_refl _)) (by omega) (by omega) (by omega) (by omega) HR.out HSR.out
  ·have j1:(es != 0)=true:=by simpa using he
   go_wp2
   go_ret2
   have hsl:=HS.out
   rw [newK_slp (HQ.out.trans hq0) (by rw [hsl];exact he),hsl]
   exact ⟨_,rfl,rfl,Hand.stepB HB2.out HB1.out (Nat.le_refl _)⟩
 ·have j0:(q != 0)=true:=by simpa using hq0
  go_wp2
  go_ret2
  rw [newK_chk (by rw [HQ.out];exact hq0),HQ.out]
  exact ⟨_,rfl,rfl,hb1⟩
theorem newm_any (w:World) (l:List Kn) (A:Option Addr) (cap:Nat) (hK:KnS w A l) (hR:KnR l) :
  Calls Try.prog 13 #[.slice A l.length cap] w (NewQ w (newK l)):=by
 have HK:=Lib.hid hK
 have HR:=Lib.hid hR
 clear hK hR
 go_enter Try.func13,Try.ntmps13
 refine wp_seq_k (fun K0 hK0=>?_)
 have HK0:=Lib.hid hK0
 clear hK0
 go_wp2
 refine HK0.out _ _ ?_
 exact new_t1 w l A cap HK.out HR.out
end Go.Proofs.Ythlpaglldhgmfaa.PA
