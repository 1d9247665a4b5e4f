/- Chapter 6 in plain lists: steps, slopes, maps. Chapter 6: steps: one behind the other. Chapter 6: steps.do. Chapter 6: along, back: from a knot with a slope. Chapter 6: what is wrong with knots. Chapter 6: a map's slope at a piece. -/
import Derived.Test.YthlpaglldhgmfaaM3
import Derived.Test.YthlpaglldhgmfaaChecked
import Derived.Test.YthlpaglldhgmfaaHand
import Derived.Deep.QuietTactic
import Derived.BigQuiet
import Derived.Deep.RegionHeld3
import Derived.StillTailTactics
set_option maxHeartbeats 1600000
set_option maxRecDepth 100000
namespace Go.Proofs.Ythlpaglldhgmfaa.PA
open Go
set_option linter.unusedSimpArgs false
set_option linter.unusedVariables false
abbrev Rt:=Int × Int
abbrev Kn:=Rt × Rt
def rRight (r:Rt):Bool:=rightS r.1 r.2
def rCmp (a b:Rt):Int:=cmpS a.1 a.2 b.1 b.2
def t3 (x:Int × Int × Int):Rt × Int:=((x.1,x.2.1),x.2.2)
def rAdd (a b:Rt):Rt × Int:=t3 (addS a.1 a.2 b.1 b.2)
def rSub (a b:Rt):Rt × Int:=t3 (subS a.1 a.2 b.1 b.2)
def rMul (a b:Rt):Rt × Int:=t3 (mulS a.1 a.2 b.1 b.2)
def rDiv (a b:Rt):Rt × Int:=t3 (divS a.1 a.2 b.1 b.2)
def doS (f:Rt → Rt → Rt × Int) (e:Int) (a b:Rt):Rt × Int:=if e=0 then f a b else ((0,0),e)
def alongS (k:Kn) (s t:Rt):Rt × Int:=doS rAdd (doS rMul (rSub t k.1).2 (rSub t k.1).1 s).2 k.2 (doS rMul (rSub t k.1).2 (rSub t k.1).1 s).1
def backS (k:Kn) (s t:Rt):Rt × Int:=doS rAdd (doS rDiv (rSub t k.2).2 (rSub t k.2).1 s).2 k.1 (doS rDiv (rSub t k.2).2 (rSub t k.2).1 s).1
def risesB (f:Kn → Rt):List Kn → Bool
 | k :: k' :: l=>decide (rCmp (f k) (f k')<0) && risesB f (k' :: l)
 | _=>true
def chkK (l:List Kn):Int :=
 if l.length=0 then 1 else if 64<l.length then 2 else if (l.all fun k=>rRight k.1 && rRight k.2)=false then 12 else if risesB (·.1) l=false then 33 else if risesB (·.2) l=false then 32 else 0
def pieceS (e:Int) (k k':Kn):Rt × Int:=doS rDiv (doS rSub (doS rSub e k'.2 k.2).2 k'.1 k.1).2 (doS rSub e k'.2 k.2).1 (doS rSub (doS rSub e k'.2 k.2).2 k'.1 k.1).1
def slpF:List Kn → Int → List Rt × Int
 | k :: k' :: l,e=>((pieceS e k k').1 :: (slpF (k' :: l) (pieceS e k k').2).1,(slpF (k' :: l) (pieceS e k k').2).2)
 | _,e=>([],e)
def slopesS (l:List Kn):List Rt × Int:=if l.length=1 then ([(1,1)],0) else slpF l 0
def bendF:Rt → List Rt → List Kn → List (Kn × Rt)
 | p,s :: ss,k :: ks=>if s=p then bendF s ss ks else (k,s) :: bendF s ss ks
 | _,_,_=>[]
def atS (e:Int) (k:Kn) (s t:Rt):Kn × Int:=if e=0 then ((t,(alongS k s t).1),(alongS k s t).2) else (((0,0),(0,0)),e)
structure MapV where
 knots:List Kn
 slopes:List Rt
 bends:Nat
def lineS (k:Kn) (s:Rt):List Kn × Int :=
 let h:=atS 0 k s (0,1);let t:=atS h.2 k s (1,1);([h.1,t.1],t.2)
def bentS (s0:Rt) (B:List (Kn × Rt)) (f l:Kn × Rt):List Kn × Int :=
 let x:=rSub f.1.1 (1,1);let h:=atS x.2 f.1 s0 x.1;let y:=doS rAdd h.2 l.1.1 (1,1);let t:=atS y.2 l.1 l.2 y.1
 (h.1 :: (B.map (·.1) ++ [t.1]),t.2)
def ownK (s0:Rt) (B:List (Kn × Rt)) (k0:Kn):List Kn × Int:=match B with
 | []=>lineS k0 s0
 | b :: B'=>bentS s0 (b :: B') b ((b :: B').getLast (by simp))
def newK (l:List Kn):Option MapV × Int :=
 if chkK l≠0 then (none,chkK l) else if (slopesS l).2≠0 then (none,(slopesS l).2) else
 match (slopesS l).1,l with
 | s0 :: ss,k0 :: ks =>
  let B:=bendF s0 ss ks
  let o:=ownK s0 B k0
  if o.2≠0 then (none,o.2) else if (slopesS o.1).2≠0 then (none,(slopesS o.1).2) else (some ⟨o.1,s0 :: B.map (·.2),B.length⟩,0)
 | _,_=>(none,1)
def lastLe (f:Kn → Rt) (t:Rt):List Kn → Nat → Nat → Nat
 | [],_,at_=>at_
 | k :: l,i,at_=>lastLe f t l (i+1) (if rCmp (f k) t≤0 then i else at_)
def MapV.at (m:MapV) (f:Kn → Rt) (t:Rt):Nat:=lastLe f t m.knots 0 0
def MapV.slope (m:MapV) (i:Nat):Rt:=m.slopes.getD (min i (m.slopes.length - 1)) (0,0)
def MapV.knot (m:MapV) (i:Nat):Kn:=m.knots.getD i ((0,0),(0,0))
def MapV.app (m:MapV) (t:Rt):Rt × Int:=if rRight t=true then alongS (m.knot (m.at (·.1) t)) (m.slope (m.at (·.1) t)) t else ((0,0),12)
def MapV.undo (m:MapV) (t:Rt):Rt × Int:=if rRight t=true then backS (m.knot (m.at (·.2) t)) (m.slope (m.at (·.2) t)) t else ((0,0),12)
end Go.Proofs.Ythlpaglldhgmfaa.PA
namespace Go.Proofs.Ythlpaglldhgmfaa.PA
open Go Go.RowKit Go.Proofs.YthlpaglldhgmfaaW.PrintWords Go.Proofs.YthlpaglldhgmfaaW.PrintLast Go.Proofs.YthlpaglldhgmfaaW.PrintMore
set_option linter.unusedSimpArgs false
set_option linter.unusedVariables false
structure Fx (g:Nat) (w w':World):Prop where
 os:w'.os=w.os
 tape:w'.tape=w.tape
 output:w'.output=w.output
 size:w.heap.size≤w'.heap.size
 block:∀ k,k<w.heap.size → k≠g → w'.heap[k]?=w.heap[k]?
theorem Fx.refl (g:Nat) (w:World):Fx g w w:=⟨rfl,rfl,rfl,Nat.le_refl _,fun _ _ _=>rfl⟩
theorem Fx.of_below {g:Nat} {w w':World} (h:Below w.heap.size w w'):Fx g w w':=⟨h.os,h.tape,h.output,h.size,fun k hk _=>h.block k hk⟩
theorem Fx.drewN {g:Nat} {w W:World} (h:Fx g w W) (n:Nat):Fx g w (W.drewN n):=⟨h.os,h.tape,h.output,h.size,h.block⟩
theorem Fx.setCell {g:Nat} {w W:World} (h:Fx g w W) (j:Nat) (u:Value):Fx g w (W.setCell ⟨g,j,none⟩ u):=by
 have b:=(Below.refl 0 W).setCell (p:=⟨g,j,none⟩) (Nat.zero_le _) u
 refine ⟨b.os.trans h.os,b.tape.trans h.tape,b.output.trans h.output,Nat.le_trans h.size b.size,fun k hk hne=>?_⟩
 rw [← h.block k hk hne]
 rcases Nat.lt_or_ge k g with hl|hl
 ·exact ((Below.refl g W).setCell (p:=⟨g,j,none⟩) (Nat.le_refl _) u).block k hl
 ·exact Below.heap_setCell _ _ _ _ hne
theorem Fx.below {g B:Nat} {a w w':World} (h:Fx g w w') (hB:Below B a w) (hg:B≤g) (hs:B≤w.heap.size):Below B a w' :=
 hB.trans ⟨h.os,h.tape,h.output,h.size,fun k hk=>h.block k (by omega) (by omega)⟩
theorem Fx.kb {g k:Nat} {w w':World} (h:Fx g w w') {o:Obj} (hk:w.heap[k]?=some o) (hne:k≠g):w'.heap[k]?=some o:=by
 have hl:k<w.heap.size:=by
  rcases Nat.lt_or_ge k w.heap.size with hl|hl
  ·exact hl
  ·rw [Array.getElem?_eq_none hl] at hk;cases hk
 rw [h.block k hl hne];exact hk
theorem Fx.step {g B:Nat} {a w w':World} (h:Fx g a w) (k:Below B w w') (hB:a.heap.size≤B):Fx g a w' :=
 ⟨k.os.trans h.os,k.tape.trans h.tape,k.output.trans h.output,Nat.le_trans h.size k.size,fun i hi hne=>(k.block i (by omega)).trans (h.block i hi hne)⟩
theorem Fx.trans {g:Nat} {a b c:World} (h:Fx g a b) (k:Fx g b c):Fx g a c :=
 ⟨k.os.trans h.os,k.tape.trans h.tape,k.output.trans h.output,Nat.le_trans h.size k.size,fun i hi hne=>(k.block i (Nat.lt_of_lt_of_le hi h.size) hne).trans (h.block i hi hne)⟩
theorem Fx.cell {g:Nat} {w w':World} (h:Fx g w w') (p:Addr) (hp:p.block<w.heap.size) (hne:p.block≠g):w'.cell? p=w.cell? p:=by
 unfold World.cell?
 rw [h.block _ hp hne]
theorem Fx.setNew {g k:Nat} {w W:World} (h:Fx g w W) (hk:w.heap.size≤k) (j:Nat) (u:Value):Fx g w (W.setCell ⟨k,j,none⟩ u) :=
 h.step ((Below.refl w.heap.size W).setCell (p:=⟨k,j,none⟩) hk u) (Nat.le_refl _)
theorem Fx.alloc {g:Nat} {w W:World} (h:Fx g w W) (o:Obj):Fx g w (W.alloc o):=h.step ((Below.refl w.heap.size W).alloc h.size o) (Nat.le_refl _)
theorem Fx.drew {g:Nat} {w W:World} (h:Fx g w W):Fx g w W.drew:=h.step ((Below.refl w.heap.size W).drew) (Nat.le_refl _)
theorem do_no (g:Nat) (F:Value) (a1 a2 b1 b2 e0:Int) (w:World) (hx:w.heap[g]?=some (.cells #[.int .i64 e0] 72 (0,0))) (he:(e0 == 0)=false) :
  Calls Try.prog 42 #[.pointer (some ⟨g,0,none⟩),F,.agg #[.int .i64 a1,.int .i64 a2],.agg #[.int .i64 b1,.int .i64 b2]] w fun e w'=>e = .returned (.agg #[.int .i64 0,.int .i64 0])∧Below w.heap.size w w':=by
 obtain ⟨c0,f0⟩:=Hand.hc1 hx
 obtain ⟨z0,z1,z2,y0,y1⟩:=Hand.hz hx
 have y2:(g=w.heap.size+1+1)=False:=eq_false (by omega)
 have he2:(e0 != 0)=true:=by simpa using he
 clear hx
 go_enter Try.func42,Try.ntmps42
 go_wp2
 refine bodyPost_ret (results_cell_row rfl _ _ (w.heap.size+1+1) 31 #[.int .i64 0,.int .i64 0] (0,0) _ rfl ?_ Try.underlying31 rfl (by kernel_rfl)) rfl ⟨rfl,?_⟩
 ·exact Hand.q3 _ _ _ (by simp)
 ·exact (((Below.refl _ _).alloc (Nat.le_refl _) _).alloc (by simp) _).alloc (by simp;omega) _
theorem do_yes (g:Nat) (F:FuncId) (a1 a2 b1 b2 x y z:Int) (w:World) (hx:w.heap[g]?=some (.cells #[.int .i64 0] 72 (0,0)))
  (hen:∀ args w,(callFunc F args).run Try.prog w = .ok (.enter F args) w)
  (m1:∀ w,Calls Try.prog F #[.agg #[.int .i64 a1,.int .i64 a2],.agg #[.int .i64 b1,.int .i64 b2]] w fun e w'=>e = .returned (.tuple #[.agg #[.int .i64 x,.int .i64 y],.int .i64 z])∧Below w.heap.size w w') :
  Calls Try.prog 42 #[.pointer (some ⟨g,0,none⟩),.func (.func F) #[] #[],.agg #[.int .i64 a1,.int .i64 a2],.agg #[.int .i64 b1,.int .i64 b2]] w fun e w'=>e = .returned (.agg #[.int .i64 x,.int .i64 y])∧w'.heap[g]?=some (.cells #[.int .i64 z] 72 (0,0))∧Fx g w w':=by
 obtain ⟨c0,f0⟩:=Hand.hc1 hx
 obtain ⟨z0,z1,z2,y0,y1⟩:=Hand.hz hx
 have y2:(g=w.heap.size+1+1)=False:=eq_false (by omega)
 have HX:=Lib.hid hx
 have g_S:=hx
 have hB:=Below.refl w.heap.size w
 have M1:=Lib.hid m1
 clear hx m1 c0 f0 z0 z1 z2 y0 y1
 go_enter Try.func42,Try.ntmps42
 obtain ⟨z_S,z1_S,z2_S,y0_S,y1_S⟩:=Hand.hz g_S
 obtain ⟨c_S_0,f_S_0⟩:=Hand.hc1 g_S
 have zw:w.heap.size≤w.heap.size:=hB.size
 have HG:=Lib.hid (And.intro g_S (hB))
 clear g_S hB
 go_wp2_with fail
 with_reducible refine (M1.out _).mono ?_
 rintro e w1 ⟨rfl,hb1⟩
 obtain ⟨g_S,hB⟩:=HG.out
 have h_S:w1.heap[g]?=some (.cells #[.int .i64 0] 72 (0,0)):=by
  refine Hand.kb hb1 ?_;first|with_reducible exact g_S|(simp (disch:=try exact Hand.z) only [Hand.q2,Hand.q1,Hand.q5,Hand.q6,Hand.q4,Hand.q3,g_S]<;>rfl)
 have h_A:w1.heap[w.heap.size]?=some (.cells #[.int .i64 a1,.int .i64 a2] 31 (0,0)):=by
  exact Hand.kb hb1 Hand.k
 have h_B:w1.heap[w.heap.size+1]?=some (.cells #[.int .i64 b1,.int .i64 b2] 31 (0,0)):=by
  exact Hand.kb hb1 Hand.k
 have h_R:w1.heap[w.heap.size+1+1]?=some (.cells #[.int .i64 0,.int .i64 0] 31 (0,0)):=by
  exact Hand.kb hb1 Hand.k
 have h_X:w1.heap[w.heap.size+1+1+1]?=some (.cells #[.int .i64 0,.int .i64 0] 31 (0,0)):=by
  exact Hand.kb hb1 Hand.k
 have hB':Below w.heap.size w w1:=Hand.stepB hb1 Hand.b (Nat.le_refl _)
 clear HG hB g_S zw z_S z1_S z2_S y0_S y1_S c_S_0 f_S_0
 clear hb1
 have g_S:=h_S
 have g_A:=h_A
 have g_B:=h_B
 have g_R:=h_R
 have g_X:=h_X
 have hB:=hB'
 clear hB' h_S h_A h_B h_R h_X
 obtain ⟨z_S,z1_S,z2_S,y0_S,y1_S⟩:=Hand.hz g_S
 obtain ⟨c_S_0,f_S_0⟩:=Hand.hc1 g_S
 obtain ⟨z_A,z1_A,z2_A,y0_A,y1_A⟩:=Hand.hz g_A
 obtain ⟨c_A_0,f_A_0,c_A_1,f_A_1⟩:=Hand.hc2 g_A
 obtain ⟨z_B,z1_B,z2_B,y0_B,y1_B⟩:=Hand.hz g_B
 obtain ⟨c_B_0,f_B_0,c_B_1,f_B_1⟩:=Hand.hc2 g_B
 obtain ⟨z_R,z1_R,z2_R,y0_R,y1_R⟩:=Hand.hz g_R
 obtain ⟨c_R_0,f_R_0,c_R_1,f_R_1⟩:=Hand.hc2 g_R
 obtain ⟨z_X,z1_X,z2_X,y0_X,y1_X⟩:=Hand.hz g_X
 obtain ⟨c_X_0,f_X_0,c_X_1,f_X_1⟩:=Hand.hc2 g_X
 have zw:w.heap.size≤w1.heap.size:=hB.size
 have HG:=Lib.hid (And.intro g_S (And.intro g_A (And.intro g_B (And.intro g_R (And.intro g_X (hB))))))
 clear g_S g_A g_B g_R g_X hB
 have hgs:g<w.heap.size:=by have:=(Hand.hz HX.out).1;exact this
 have q1:(g=w.heap.size+1+1+1)=False:=eq_false (by omega)
 have q2:(w.heap.size+1+1+1=g)=False:=eq_false (by omega)
 have q3:(w.heap.size+1+1=g)=False:=eq_false (by omega)
 have q4:(g=w.heap.size+1+1)=False:=eq_false (by omega)
 go_wp2
 obtain ⟨g_S,g_A,g_B,g_R,g_X,hB⟩:=HG.out
 refine bodyPost_ret (results_cell_row rfl _ _ (w.heap.size+1+1) 31 #[.int .i64 x,.int .i64 y] (0,0) _ rfl ?_ Try.underlying31 rfl (by kernel_rfl)) rfl ⟨rfl,?_,?_⟩
 ·simp (disch:=omega) only [Hand.q1,Hand.q2,g_R];rfl
 ·simp (disch:=omega) only [Hand.q1,Hand.q2,g_S];rfl
 ·repeat (with_reducible first|exact Fx.of_below hB|(refine Fx.setNew ?_ (by omega) _ _)|(refine Fx.setCell ?_ _ _))
abbrev rv (r:Rt):Value:=.agg #[.int .i64 r.1,.int .i64 r.2]
abbrev fnv (F:FuncId):Value:=.func (.func F) #[] #[]
abbrev Ent (F:FuncId):Prop:=∀ args w,(callFunc F args).run Try.prog w = .ok (.enter F args) w
abbrev Rf (F:FuncId) (f:Rt → Rt → Rt × Int) (a b:Rt):Prop:=∀ w,Calls Try.prog F #[rv a,rv b] w fun e w'=>e = .returned (.tuple #[rv (f a b).1,.int .i64 (f a b).2])∧Below w.heap.size w w'
abbrev stp (e:Int):Obj:=.cells #[.int .i64 e] 72 (0,0)
theorem do_any (g:Nat) (F:FuncId) (f:Rt → Rt → Rt × Int) (e:Int) (a b:Rt) (w:World) (hx:w.heap[g]?=some (stp e)) (hen:Ent F) (hf:e=0 → Rf F f a b) :
  Calls Try.prog 42 #[.pointer (some ⟨g,0,none⟩),fnv F,rv a,rv b] w fun e_ w'=>e_ = .returned (rv (doS f e a b).1)∧w'.heap[g]?=some (stp (doS f e a b).2)∧Fx g w w':=by
 unfold doS
 by_cases h:e=0
 ·subst h
  rw [if_pos rfl]
  exact do_yes g F _ _ _ _ _ _ _ w hx hen (hf rfl)
 ·rw [if_neg h]
  refine (do_no g (fnv F) _ _ _ _ e w hx (by simpa using h)).mono ?_
  rintro e_ w' ⟨rfl,hb⟩
  exact ⟨rfl,Hand.kb hb hx,Fx.of_below hb⟩
theorem along_of (k1 k2 o1 o2 s1 s2 t1 t2 x1 x2 y1 y2 z1 z2 e1 e2 e3:Int) (w:World)
  (m1:∀ g w,w.heap[g]?=some (stp 0) → Calls Try.prog 42 #[.pointer (some ⟨g,0,none⟩),fnv 43,.agg #[.int .i64 t1,.int .i64 t2],.agg #[.int .i64 k1,.int .i64 k2]] w fun e_ w'=>e_ = .returned (.agg #[.int .i64 x1,.int .i64 x2])∧w'.heap[g]?=some (stp e1)∧Fx g w w')
  (m2:∀ g w,w.heap[g]?=some (stp e1) → Calls Try.prog 42 #[.pointer (some ⟨g,0,none⟩),fnv 80,.agg #[.int .i64 x1,.int .i64 x2],.agg #[.int .i64 s1,.int .i64 s2]] w fun e_ w'=>e_ = .returned (.agg #[.int .i64 y1,.int .i64 y2])∧w'.heap[g]?=some (stp e2)∧Fx g w w')
  (m3:∀ g w,w.heap[g]?=some (stp e2) → Calls Try.prog 42 #[.pointer (some ⟨g,0,none⟩),fnv 44,.agg #[.int .i64 o1,.int .i64 o2],.agg #[.int .i64 y1,.int .i64 y2]] w fun e_ w'=>e_ = .returned (.agg #[.int .i64 z1,.int .i64 z2])∧w'.heap[g]?=some (stp e3)∧Fx g w w') :
  Calls Try.prog 40 #[.agg #[.int .i64 k1,.int .i64 k2,.int .i64 o1,.int .i64 o2],.agg #[.int .i64 s1,.int .i64 s2],.agg #[.int .i64 t1,.int .i64 t2]] w fun e w'=>e = .returned (.tuple #[.agg #[.int .i64 z1,.int .i64 z2],.int .i64 e3])∧Below w.heap.size w w':=by
 have M1:=Lib.hid m1
 have M2:=Lib.hid m2
 have M3:=Lib.hid m3
 clear m1 m2 m3
 go_enter Try.func40,Try.ntmps40
 go_wp2_with fail
 obtain ⟨W,hW⟩:∃ W_,W_=(((((w.alloc (.cells #[.int .i64 k1,.int .i64 k2,.int .i64 o1,.int .i64 o2] 35)).alloc (.cells #[.int .i64 s1,.int .i64 s2] 31)).alloc (.cells #[.int .i64 t1,.int .i64 t2] 31)).alloc (.cells #[.int .i64 0,.int .i64 0] 31)).alloc (.cells #[.int .i64 0] 72)):=⟨_,rfl⟩
 rw [← hW]
 have gK:W.heap[w.heap.size]?=some (.cells #[.int .i64 k1,.int .i64 k2,.int .i64 o1,.int .i64 o2] 35 (0,0)):=by rw [hW];simp (disch:=try exact Hand.z) only [Hand.q4,Hand.q3]
 have gL:W.heap[w.heap.size+1]?=some (.cells #[.int .i64 s1,.int .i64 s2] 31 (0,0)):=by rw [hW];simp (disch:=try exact Hand.z) only [Hand.q4,Hand.q3]
 have gT:W.heap[w.heap.size+1+1]?=some (.cells #[.int .i64 t1,.int .i64 t2] 31 (0,0)):=by rw [hW];simp (disch:=try exact Hand.z) only [Hand.q4,Hand.q3]
 have gR:W.heap[w.heap.size+1+1+1]?=some (.cells #[.int .i64 0,.int .i64 0] 31 (0,0)):=by rw [hW];simp (disch:=try exact Hand.z) only [Hand.q4,Hand.q3]
 have gS:W.heap[w.heap.size+1+1+1+1]?=some (stp 0):=by rw [hW];simp (disch:=try exact Hand.z) only [Hand.q4,Hand.q3]
 have hBW:Below w.heap.size w W:=by rw [hW];repeat (first|exact Below.refl _ _|refine Below.alloc ?_ Hand.z _)
 have hsz:w.heap.size+5≤W.heap.size:=by rw [hW];simp only [World.size_alloc];omega
 clear hW
 obtain ⟨c_K_0,f_K_0,c_K_1,f_K_1,c_K_2,f_K_2,c_K_3,f_K_3⟩:=Hand.hc4 gK
 obtain ⟨c_L_0,f_L_0,c_L_1,f_L_1⟩:=Hand.hc2 gL
 obtain ⟨c_T_0,f_T_0,c_T_1,f_T_1⟩:=Hand.hc2 gT
 have HKEEP:=Lib.hid (fun (w_:World) (h:Fx (w.heap.size+1+1+1+1) W w_)=>(⟨h,(h.cell _ Hand.d Hand.d).trans c_K_0,(h.cell _ Hand.d Hand.d).trans c_K_1,(h.cell _ Hand.d Hand.d).trans c_K_2,(h.cell _ Hand.d Hand.d).trans c_K_3,(h.cell _ Hand.d Hand.d).trans c_L_0,(h.cell _ Hand.d Hand.d).trans c_L_1,(h.cell _ Hand.d Hand.d).trans c_T_0,(h.cell _ Hand.d Hand.d).trans c_T_1⟩:(Fx (w.heap.size+1+1+1+1) W w_∧w_.cell? ⟨w.heap.size,0,none⟩=some (.int .i64 k1)∧w_.cell? ⟨w.heap.size,1,none⟩=some (.int .i64 k2)∧w_.cell? ⟨w.heap.size,2,none⟩=some (.int .i64 o1)∧w_.cell? ⟨w.heap.size,3,none⟩=some (.int .i64 o2)∧w_.cell? ⟨w.heap.size+1,0,none⟩=some (.int .i64 s1)∧w_.cell? ⟨w.heap.size+1,1,none⟩=some (.int .i64 s2)∧w_.cell? ⟨w.heap.size+1+1,0,none⟩=some (.int .i64 t1)∧w_.cell? ⟨w.heap.size+1+1,1,none⟩=some (.int .i64 t2))))
 have BR:Fx (w.heap.size+1+1+1+1) W W:=Fx.refl _ _
 refine Hand.wp_cut (fun PP hPP=>?_)
 have rest:∀ (gx:Nat) (V:World),w.heap.size+5≤gx → V.heap[gx]?=some (.cells #[.int .i64 z1,.int .i64 z2] 31 (0,0)) → V.heap[w.heap.size+1+1+1+1]?=some (stp e3) → V.heap[w.heap.size+1+1+1]?=some (.cells #[.int .i64 0,.int .i64 0] 31 (0,0)) → Below w.heap.size w V → PP .normal ⟨#[.agg #[.int .i64 k1,.int .i64 k2,.int .i64 o1,.int .i64 o2],.agg #[.int .i64 s1,.int .i64 s2],.agg #[.int .i64 t1,.int .i64 t2],.pointer (some ⟨w.heap.size,0,none⟩),.pointer (some ⟨w.heap.size+1,0,none⟩),.pointer (some ⟨w.heap.size+1+1,0,none⟩),.pointer (some ⟨w.heap.size+1+1+1,0,none⟩),.int .i64 0,.pointer (some ⟨w.heap.size+1+1+1+1,0,none⟩),.pointer (some ⟨gx,0,none⟩),.pointer (some ⟨w.heap.size,2,none⟩),.agg #[.int .i64 o1,.int .i64 o2],.agg #[.int .i64 t1,.int .i64 t2],.pointer (some ⟨w.heap.size,0,none⟩),.agg #[.int .i64 k1,.int .i64 k2],.agg #[.int .i64 x1,.int .i64 x2],.agg #[.int .i64 s1,.int .i64 s2],.agg #[.int .i64 y1,.int .i64 y2],.agg #[.int .i64 z1,.int .i64 z2],undef,undef,undef],[]⟩ V:=by
  intro gx V n1 vX vS vR vB
  rw [hPP]
  obtain ⟨u0,f0,u1,f1⟩:=Hand.hc2 vX
  obtain ⟨cs,fs⟩:=Hand.hc1 vS
  obtain ⟨r0,fr0,r1,fr1⟩:=Hand.hc2 vR
  have rz:=(Hand.hz vR).1
  have q1:(gx=w.heap.size+1+1+1)=False:=eq_false (by omega)
  have q2:(w.heap.size+1+1+1=gx)=False:=eq_false (by omega)
  have q3:(gx=w.heap.size+1+1+1+1)=False:=eq_false (by omega)
  have q4:(w.heap.size+1+1+1+1=gx)=False:=eq_false (by omega)
  have HVR:=Lib.hid vR
  have HVB:=Lib.hid vB
  clear vX vS vR vB
  go_wp2
  go_region_held3 (fun w_=>w_.cell? ⟨gx,0,none⟩=some (.int .i64 z1)∧w_.cell? ⟨gx,1,none⟩=some (.int .i64 z2)∧w_.cell? ⟨w.heap.size+1+1+1+1,0,none⟩=some (.int .i64 e3)) (first|exact ⟨u0,u1,cs⟩|go_keep) (first|fail)
  go_wp2
  refine bodyPost_ret (results_ct rfl _ _ (w.heap.size+1+1+1) 31 #[.int .i64 z1,.int .i64 z2] (0,0) _ rfl ?_ Try.underlying31 rfl (by kernel_rfl)) rfl ⟨rfl,?_⟩
  ·simp (disch:=try exact Hand.z) only [Hand.q5,Hand.q1,HVR.out];rfl
  ·repeat (with_reducible first|exact HVB.out|apply Below.drew|refine Below.setCell ?_ Hand.d _)
 have REST:=Lib.hid rest
 clear rest
 go_region_held3 (fun w_=>Fx (w.heap.size+1+1+1+1) W w_∧w_.cell? ⟨w.heap.size,0,none⟩=some (.int .i64 k1)∧w_.cell? ⟨w.heap.size,1,none⟩=some (.int .i64 k2)∧w_.cell? ⟨w.heap.size,2,none⟩=some (.int .i64 o1)∧w_.cell? ⟨w.heap.size,3,none⟩=some (.int .i64 o2)∧w_.cell? ⟨w.heap.size+1,0,none⟩=some (.int .i64 s1)∧w_.cell? ⟨w.heap.size+1,1,none⟩=some (.int .i64 s2)∧w_.cell? ⟨w.heap.size+1+1,0,none⟩=some (.int .i64 t1)∧w_.cell? ⟨w.heap.size+1+1,1,none⟩=some (.int .i64 t2)) (first|(refine HKEEP.out _ ?_;repeat (with_reducible first|assumption|apply Fx.drew|apply Fx.alloc|refine Fx.setNew ?_ Hand.z _ _))) (first|(go_at_call 42;((with_reducible refine (M1.out _ _ Hand.q).mono ?_);rintro e w4 ⟨rfl,hx_w4,hF_w4⟩;have BB:Fx (w.heap.size+1+1+1+1) W w4:=Fx.trans (by repeat (with_reducible first|assumption|apply Fx.drew|apply Fx.alloc|refine Fx.setNew ?_ Hand.z _ _)) hF_w4;have zB_w4:=BB.size;obtain ⟨cs,fs⟩:=Hand.hc1 hx_w4;obtain ⟨sz0,sz1,sz2,sy0,sy1⟩:=Hand.hz hx_w4;(try (have nx:=hF_w4.kb (k:=W.heap.size) (o:=.cells #[.int .i64 0,.int .i64 0] 31 (0,0)) Hand.q (by omega);obtain ⟨nc0,nf0,nc1,nf1⟩:=Hand.hc2 nx;obtain ⟨nz0,nz1,nz2,ny0,ny1⟩:=Hand.hz nx;have ne1:(W.heap.size=w.heap.size+1+1+1+1)=False:=eq_false (by omega);have ne2:(w.heap.size+1+1+1+1=W.heap.size)=False:=eq_false (by omega)))))|(go_at_call 42;((with_reducible refine (M2.out _ _ Hand.q).mono ?_);rintro e w5 ⟨rfl,hx_w5,hF_w5⟩;have BB:Fx (w.heap.size+1+1+1+1) W w5:=Fx.trans (by repeat (with_reducible first|assumption|apply Fx.drew|apply Fx.alloc|refine Fx.setNew ?_ Hand.z _ _)) hF_w5;have zB_w5:=BB.size;obtain ⟨cs,fs⟩:=Hand.hc1 hx_w5;obtain ⟨sz0,sz1,sz2,sy0,sy1⟩:=Hand.hz hx_w5;(try (have nx:=hF_w5.kb (k:=W.heap.size) (o:=.cells #[.int .i64 0,.int .i64 0] 31 (0,0)) Hand.q (by omega);obtain ⟨nc0,nf0,nc1,nf1⟩:=Hand.hc2 nx;obtain ⟨nz0,nz1,nz2,ny0,ny1⟩:=Hand.hz nx;have ne1:(W.heap.size=w.heap.size+1+1+1+1)=False:=eq_false (by omega);have ne2:(w.heap.size+1+1+1+1=W.heap.size)=False:=eq_false (by omega)));(try (have nx:=hF_w5.kb (k:=w4.heap.size) (o:=.cells #[.int .i64 0,.int .i64 0] 31 (0,0)) Hand.q (by omega);obtain ⟨nc0,nf0,nc1,nf1⟩:=Hand.hc2 nx;obtain ⟨nz0,nz1,nz2,ny0,ny1⟩:=Hand.hz nx;have ne1:(w4.heap.size=w.heap.size+1+1+1+1)=False:=eq_false (by omega);have ne2:(w.heap.size+1+1+1+1=w4.heap.size)=False:=eq_false (by omega)))))|(go_at_call 42;((with_reducible refine (M3.out _ _ Hand.q).mono ?_);rintro e w6 ⟨rfl,hx_w6,hF_w6⟩;have BB:Fx (w.heap.size+1+1+1+1) W w6:=Fx.trans (by repeat (with_reducible first|assumption|apply Fx.drew|apply Fx.alloc|refine Fx.setNew ?_ Hand.z _ _)) hF_w6;have zB_w6:=BB.size;obtain ⟨cs,fs⟩:=Hand.hc1 hx_w6;obtain ⟨sz0,sz1,sz2,sy0,sy1⟩:=Hand.hz hx_w6;(try (have nx:=hF_w6.kb (k:=W.heap.size) (o:=.cells #[.int .i64 0,.int .i64 0] 31 (0,0)) Hand.q (by omega);obtain ⟨nc0,nf0,nc1,nf1⟩:=Hand.hc2 nx;obtain ⟨nz0,nz1,nz2,ny0,ny1⟩:=Hand.hz nx;have ne1:(W.heap.size=w.heap.size+1+1+1+1)=False:=eq_false (by omega);have ne2:(w.heap.size+1+1+1+1=W.heap.size)=False:=eq_false (by omega)));(try (have nx:=hF_w6.kb (k:=w4.heap.size) (o:=.cells #[.int .i64 0,.int .i64 0] 31 (0,0)) Hand.q (by omega);obtain ⟨nc0,nf0,nc1,nf1⟩:=Hand.hc2 nx;obtain ⟨nz0,nz1,nz2,ny0,ny1⟩:=Hand.hz nx;have ne1:(w4.heap.size=w.heap.size+1+1+1+1)=False:=eq_false (by omega);have ne2:(w.heap.size+1+1+1+1=w4.heap.size)=False:=eq_false (by omega)));(try (have nx:=hF_w6.kb (k:=w5.heap.size) (o:=.cells #[.int .i64 0,.int .i64 0] 31 (0,0)) Hand.q (by omega);obtain ⟨nc0,nf0,nc1,nf1⟩:=Hand.hc2 nx;obtain ⟨nz0,nz1,nz2,ny0,ny1⟩:=Hand.hz nx;have ne1:(w5.heap.size=w.heap.size+1+1+1+1)=False:=eq_false (by omega);have ne2:(w.heap.size+1+1+1+1=w5.heap.size)=False:=eq_false (by omega))))))
 ·have gR6:=BB.kb gR (by omega)
  have hB6:Below w.heap.size w w6:=BB.below hBW (by omega) hBW.size
  have rz:=(Hand.hz gR6).1
  have szz:=(Hand.hz hx_w6).1
  obtain ⟨V,hV⟩:∃ V_,V_=w6.alloc (.cells #[.int .i64 z1,.int .i64 z2] 31):=⟨_,rfl⟩
  rw [← hV]
  have vX:V.heap[w6.heap.size]?=some (.cells #[.int .i64 z1,.int .i64 z2] 31 (0,0)):=by rw [hV];first|exact Hand.q3 _ _ _ rfl|(simp (disch:=try exact Hand.z) only [Hand.q1,nx];rfl)
  have vS:V.heap[w.heap.size+1+1+1+1]?=some (stp e3):=by rw [hV];simp (disch:=try exact Hand.z) only [Hand.q2,Hand.q4,hx_w6]
  have vR:V.heap[w.heap.size+1+1+1]?=some (.cells #[.int .i64 0,.int .i64 0] 31 (0,0)):=by rw [hV];simp (disch:=try exact Hand.z) only [Hand.q2,Hand.q4,gR6]
  have vB:Below w.heap.size w V:=by rw [hV];repeat (with_reducible first|exact hB6|refine Below.setCell ?_ Hand.d _|refine Below.alloc ?_ Hand.z _)
  have n1:w.heap.size+5≤w6.heap.size:=by omega
  have HVX:=Lib.hid vX
  have HVS:=Lib.hid vS
  have HVR:=Lib.hid vR
  have HVB:=Lib.hid vB
  obtain ⟨gx,hgx⟩:∃ gx,gx=w6.heap.size:=⟨_,rfl⟩
  rw [← hgx] at n1 HVX ⊢
  exact REST.out gx V n1 HVX.out HVS.out HVR.out HVB.out
 ·have gR6:=BB.kb gR (by omega)
  have hB6:Below w.heap.size w w6:=BB.below hBW (by omega) hBW.size
  have rz:=(Hand.hz gR6).1
  have szz:=(Hand.hz hx_w6).1
  obtain ⟨V,hV⟩:∃ V_,V_=(w6.setCell ⟨w5.heap.size,0,none⟩ (.int .i64 z1)).setCell ⟨w5.heap.size,1,none⟩ (.int .i64 z2):=⟨_,rfl⟩
  rw [← hV]
  have vX:V.heap[w5.heap.size]?=some (.cells #[.int .i64 z1,.int .i64 z2] 31 (0,0)):=by rw [hV];first|exact Hand.q3 _ _ _ rfl|(simp (disch:=try exact Hand.z) only [Hand.q1,nx];rfl)
  have vS:V.heap[w.heap.size+1+1+1+1]?=some (stp e3):=by rw [hV];simp (disch:=try exact Hand.z) only [Hand.q2,Hand.q4,hx_w6]
  have vR:V.heap[w.heap.size+1+1+1]?=some (.cells #[.int .i64 0,.int .i64 0] 31 (0,0)):=by rw [hV];simp (disch:=try exact Hand.z) only [Hand.q2,Hand.q4,gR6]
  have vB:Below w.heap.size w V:=by rw [hV];repeat (with_reducible first|exact hB6|refine Below.setCell ?_ Hand.d _|refine Below.alloc ?_ Hand.z _)
  have n1:w.heap.size+5≤w5.heap.size:=by omega
  have HVX:=Lib.hid vX
  have HVS:=Lib.hid vS
  have HVR:=Lib.hid vR
  have HVB:=Lib.hid vB
  obtain ⟨gx,hgx⟩:∃ gx,gx=w5.heap.size:=⟨_,rfl⟩
  rw [← hgx] at n1 HVX ⊢
  exact REST.out gx V n1 HVX.out HVS.out HVR.out HVB.out
 ·have gR6:=BB.kb gR (by omega)
  have hB6:Below w.heap.size w w6:=BB.below hBW (by omega) hBW.size
  have rz:=(Hand.hz gR6).1
  have szz:=(Hand.hz hx_w6).1
  obtain ⟨V,hV⟩:∃ V_,V_=(w6.setCell ⟨w4.heap.size,0,none⟩ (.int .i64 z1)).setCell ⟨w4.heap.size,1,none⟩ (.int .i64 z2):=⟨_,rfl⟩
  rw [← hV]
  have vX:V.heap[w4.heap.size]?=some (.cells #[.int .i64 z1,.int .i64 z2] 31 (0,0)):=by rw [hV];first|exact Hand.q3 _ _ _ rfl|(simp (disch:=try exact Hand.z) only [Hand.q1,nx];rfl)
  have vS:V.heap[w.heap.size+1+1+1+1]?=some (stp e3):=by rw [hV];simp (disch:=try exact Hand.z) only [Hand.q2,Hand.q4,hx_w6]
  have vR:V.heap[w.heap.size+1+1+1]?=some (.cells #[.int .i64 0,.int .i64 0] 31 (0,0)):=by rw [hV];simp (disch:=try exact Hand.z) only [Hand.q2,Hand.q4,gR6]
  have vB:Below w.heap.size w V:=by rw [hV];repeat (with_reducible first|exact hB6|refine Below.setCell ?_ Hand.d _|refine Below.alloc ?_ Hand.z _)
  have n1:w.heap.size+5≤w4.heap.size:=by omega
  have HVX:=Lib.hid vX
  have HVS:=Lib.hid vS
  have HVR:=Lib.hid vR
  have HVB:=Lib.hid vB
  obtain ⟨gx,hgx⟩:∃ gx,gx=w4.heap.size:=⟨_,rfl⟩
  rw [← hgx] at n1 HVX ⊢
  exact REST.out gx V n1 HVX.out HVS.out HVR.out HVB.out
 ·have gR6:=BB.kb gR (by omega)
  have hB6:Below w.heap.size w w6:=BB.below hBW (by omega) hBW.size
  have rz:=(Hand.hz gR6).1
  have szz:=(Hand.hz hx_w6).1
  obtain ⟨V,hV⟩:∃ V_,V_=(w6.setCell ⟨W.heap.size,0,none⟩ (.int .i64 z1)).setCell ⟨W.heap.size,1,none⟩ (.int .i64 z2):=⟨_,rfl⟩
  rw [← hV]
  have vX:V.heap[W.heap.size]?=some (.cells #[.int .i64 z1,.int .i64 z2] 31 (0,0)):=by rw [hV];first|exact Hand.q3 _ _ _ rfl|(simp (disch:=try exact Hand.z) only [Hand.q1,nx];rfl)
  have vS:V.heap[w.heap.size+1+1+1+1]?=some (stp e3):=by rw [hV];simp (disch:=try exact Hand.z) only [Hand.q2,Hand.q4,hx_w6]
  have vR:V.heap[w.heap.size+1+1+1]?=some (.cells #[.int .i64 0,.int .i64 0] 31 (0,0)):=by rw [hV];simp (disch:=try exact Hand.z) only [Hand.q2,Hand.q4,gR6]
  have vB:Below w.heap.size w V:=by rw [hV];repeat (with_reducible first|exact hB6|refine Below.setCell ?_ Hand.d _|refine Below.alloc ?_ Hand.z _)
  have n1:w.heap.size+5≤W.heap.size:=by omega
  have HVX:=Lib.hid vX
  have HVS:=Lib.hid vS
  have HVR:=Lib.hid vR
  have HVB:=Lib.hid vB
  obtain ⟨gx,hgx⟩:∃ gx,gx=W.heap.size:=⟨_,rfl⟩
  rw [← hgx] at n1 HVX ⊢
  exact REST.out gx V n1 HVX.out HVS.out HVR.out HVB.out
theorem back_of (k1 k2 o1 o2 s1 s2 t1 t2 x1 x2 y1 y2 z1 z2 e1 e2 e3:Int) (w:World)
  (m1:∀ g w,w.heap[g]?=some (stp 0) → Calls Try.prog 42 #[.pointer (some ⟨g,0,none⟩),fnv 43,.agg #[.int .i64 t1,.int .i64 t2],.agg #[.int .i64 o1,.int .i64 o2]] w fun e_ w'=>e_ = .returned (.agg #[.int .i64 x1,.int .i64 x2])∧w'.heap[g]?=some (stp e1)∧Fx g w w')
  (m2:∀ g w,w.heap[g]?=some (stp e1) → Calls Try.prog 42 #[.pointer (some ⟨g,0,none⟩),fnv 63,.agg #[.int .i64 x1,.int .i64 x2],.agg #[.int .i64 s1,.int .i64 s2]] w fun e_ w'=>e_ = .returned (.agg #[.int .i64 y1,.int .i64 y2])∧w'.heap[g]?=some (stp e2)∧Fx g w w')
  (m3:∀ g w,w.heap[g]?=some (stp e2) → Calls Try.prog 42 #[.pointer (some ⟨g,0,none⟩),fnv 44,.agg #[.int .i64 k1,.int .i64 k2],.agg #[.int .i64 y1,.int .i64 y2]] w fun e_ w'=>e_ = .returned (.agg #[.int .i64 z1,.int .i64 z2])∧w'.heap[g]?=some (stp e3)∧Fx g w w') :
  Calls Try.prog 69 #[.agg #[.int .i64 k1,.int .i64 k2,.int .i64 o1,.int .i64 o2],.agg #[.int .i64 s1,.int .i64 s2],.agg #[.int .i64 t1,.int .i64 t2]] w fun e w'=>e = .returned (.tuple #[.agg #[.int .i64 z1,.int .i64 z2],.int .i64 e3])∧Below w.heap.size w w':=by
 have M1:=Lib.hid m1
 have M2:=Lib.hid m2
 have M3:=Lib.hid m3
 clear m1 m2 m3
 go_enter Try.func69,Try.ntmps69
 go_wp2_with fail
 obtain ⟨W,hW⟩:∃ W_,W_=(((((w.alloc (.cells #[.int .i64 k1,.int .i64 k2,.int .i64 o1,.int .i64 o2] 35)).alloc (.cells #[.int .i64 s1,.int .i64 s2] 31)).alloc (.cells #[.int .i64 t1,.int .i64 t2] 31)).alloc (.cells #[.int .i64 0,.int .i64 0] 31)).alloc (.cells #[.int .i64 0] 72)):=⟨_,rfl⟩
 rw [← hW]
 have gK:W.heap[w.heap.size]?=some (.cells #[.int .i64 k1,.int .i64 k2,.int .i64 o1,.int .i64 o2] 35 (0,0)):=by rw [hW];simp (disch:=try exact Hand.z) only [Hand.q4,Hand.q3]
 have gL:W.heap[w.heap.size+1]?=some (.cells #[.int .i64 s1,.int .i64 s2] 31 (0,0)):=by rw [hW];simp (disch:=try exact Hand.z) only [Hand.q4,Hand.q3]
 have gT:W.heap[w.heap.size+1+1]?=some (.cells #[.int .i64 t1,.int .i64 t2] 31 (0,0)):=by rw [hW];simp (disch:=try exact Hand.z) only [Hand.q4,Hand.q3]
 have gR:W.heap[w.heap.size+1+1+1]?=some (.cells #[.int .i64 0,.int .i64 0] 31 (0,0)):=by rw [hW];simp (disch:=try exact Hand.z) only [Hand.q4,Hand.q3]
 have gS:W.heap[w.heap.size+1+1+1+1]?=some (stp 0):=by rw [hW];simp (disch:=try exact Hand.z) only [Hand.q4,Hand.q3]
 have hBW:Below w.heap.size w W:=by rw [hW];repeat (first|exact Below.refl _ _|refine Below.alloc ?_ Hand.z _)
 have hsz:w.heap.size+5≤W.heap.size:=by rw [hW];simp only [World.size_alloc];omega
 clear hW
 obtain ⟨c_K_0,f_K_0,c_K_1,f_K_1,c_K_2,f_K_2,c_K_3,f_K_3⟩:=Hand.hc4 gK
 obtain ⟨c_L_0,f_L_0,c_L_1,f_L_1⟩:=Hand.hc2 gL
 obtain ⟨c_T_0,f_T_0,c_T_1,f_T_1⟩:=Hand.hc2 gT
 have HKEEP:=Lib.hid (fun (w_:World) (h:Fx (w.heap.size+1+1+1+1) W w_)=>(⟨h,(h.cell _ Hand.d Hand.d).trans c_K_0,(h.cell _ Hand.d Hand.d).trans c_K_1,(h.cell _ Hand.d Hand.d).trans c_K_2,(h.cell _ Hand.d Hand.d).trans c_K_3,(h.cell _ Hand.d Hand.d).trans c_L_0,(h.cell _ Hand.d Hand.d).trans c_L_1,(h.cell _ Hand.d Hand.d).trans c_T_0,(h.cell _ Hand.d Hand.d).trans c_T_1⟩:(Fx (w.heap.size+1+1+1+1) W w_∧w_.cell? ⟨w.heap.size,0,none⟩=some (.int .i64 k1)∧w_.cell? ⟨w.heap.size,1,none⟩=some (.int .i64 k2)∧w_.cell? ⟨w.heap.size,2,none⟩=some (.int .i64 o1)∧w_.cell? ⟨w.heap.size,3,none⟩=some (.int .i64 o2)∧w_.cell? ⟨w.heap.size+1,0,none⟩=some (.int .i64 s1)∧w_.cell? ⟨w.heap.size+1,1,none⟩=some (.int .i64 s2)∧w_.cell? ⟨w.heap.size+1+1,0,none⟩=some (.int .i64 t1)∧w_.cell? ⟨w.heap.size+1+1,1,none⟩=some (.int .i64 t2))))
 have BR:Fx (w.heap.size+1+1+1+1) W W:=Fx.refl _ _
 refine Hand.wp_cut (fun PP hPP=>?_)
 have rest:∀ (gx:Nat) (V:World),w.heap.size+5≤gx → V.heap[gx]?=some (.cells #[.int .i64 z1,.int .i64 z2] 31 (0,0)) → V.heap[w.heap.size+1+1+1+1]?=some (stp e3) → V.heap[w.heap.size+1+1+1]?=some (.cells #[.int .i64 0,.int .i64 0] 31 (0,0)) → Below w.heap.size w V → PP .normal ⟨#[.agg #[.int .i64 k1,.int .i64 k2,.int .i64 o1,.int .i64 o2],.agg #[.int .i64 s1,.int .i64 s2],.agg #[.int .i64 t1,.int .i64 t2],.pointer (some ⟨w.heap.size,0,none⟩),.pointer (some ⟨w.heap.size+1,0,none⟩),.pointer (some ⟨w.heap.size+1+1,0,none⟩),.pointer (some ⟨w.heap.size+1+1+1,0,none⟩),.int .i64 0,.pointer (some ⟨w.heap.size+1+1+1+1,0,none⟩),.pointer (some ⟨gx,0,none⟩),.pointer (some ⟨w.heap.size,0,none⟩),.agg #[.int .i64 k1,.int .i64 k2],.agg #[.int .i64 t1,.int .i64 t2],.pointer (some ⟨w.heap.size,2,none⟩),.agg #[.int .i64 o1,.int .i64 o2],.agg #[.int .i64 x1,.int .i64 x2],.agg #[.int .i64 s1,.int .i64 s2],.agg #[.int .i64 y1,.int .i64 y2],.agg #[.int .i64 z1,.int .i64 z2],undef,undef,undef],[]⟩ V:=by
  intro gx V n1 vX vS vR vB
  rw [hPP]
  obtain ⟨u0,f0,u1,f1⟩:=Hand.hc2 vX
  obtain ⟨cs,fs⟩:=Hand.hc1 vS
  obtain ⟨r0,fr0,r1,fr1⟩:=Hand.hc2 vR
  have rz:=(Hand.hz vR).1
  have q1:(gx=w.heap.size+1+1+1)=False:=eq_false (by omega)
  have q2:(w.heap.size+1+1+1=gx)=False:=eq_false (by omega)
  have q3:(gx=w.heap.size+1+1+1+1)=False:=eq_false (by omega)
  have q4:(w.heap.size+1+1+1+1=gx)=False:=eq_false (by omega)
  have HVR:=Lib.hid vR
  have HVB:=Lib.hid vB
  clear vX vS vR vB
  go_wp2
  go_region_held3 (fun w_=>w_.cell? ⟨gx,0,none⟩=some (.int .i64 z1)∧w_.cell? ⟨gx,1,none⟩=some (.int .i64 z2)∧w_.cell? ⟨w.heap.size+1+1+1+1,0,none⟩=some (.int .i64 e3)) (first|exact ⟨u0,u1,cs⟩|go_keep) (first|fail)
  go_wp2
  refine bodyPost_ret (results_ct rfl _ _ (w.heap.size+1+1+1) 31 #[.int .i64 z1,.int .i64 z2] (0,0) _ rfl ?_ Try.underlying31 rfl (by kernel_rfl)) rfl ⟨rfl,?_⟩
  ·simp (disch:=try exact Hand.z) only [Hand.q5,Hand.q1,HVR.out];rfl
  ·repeat (with_reducible first|exact HVB.out|apply Below.drew|refine Below.setCell ?_ Hand.d _)
 have REST:=Lib.hid rest
 clear rest
 go_region_held3 (fun w_=>Fx (w.heap.size+1+1+1+1) W w_∧w_.cell? ⟨w.heap.size,0,none⟩=some (.int .i64 k1)∧w_.cell? ⟨w.heap.size,1,none⟩=some (.int .i64 k2)∧w_.cell? ⟨w.heap.size,2,none⟩=some (.int .i64 o1)∧w_.cell? ⟨w.heap.size,3,none⟩=some (.int .i64 o2)∧w_.cell? ⟨w.heap.size+1,0,none⟩=some (.int .i64 s1)∧w_.cell? ⟨w.heap.size+1,1,none⟩=some (.int .i64 s2)∧w_.cell? ⟨w.heap.size+1+1,0,none⟩=some (.int .i64 t1)∧w_.cell? ⟨w.heap.size+1+1,1,none⟩=some (.int .i64 t2)) (first|(refine HKEEP.out _ ?_;repeat (with_reducible first|assumption|apply Fx.drew|apply Fx.alloc|refine Fx.setNew ?_ Hand.z _ _))) (first|(go_at_call 42;((with_reducible refine (M1.out _ _ Hand.q).mono ?_);rintro e w4 ⟨rfl,hx_w4,hF_w4⟩;have BB:Fx (w.heap.size+1+1+1+1) W w4:=Fx.trans (by repeat (with_reducible first|assumption|apply Fx.drew|apply Fx.alloc|refine Fx.setNew ?_ Hand.z _ _)) hF_w4;have zB_w4:=BB.size;obtain ⟨cs,fs⟩:=Hand.hc1 hx_w4;obtain ⟨sz0,sz1,sz2,sy0,sy1⟩:=Hand.hz hx_w4;(try (have nx:=hF_w4.kb (k:=W.heap.size) (o:=.cells #[.int .i64 0,.int .i64 0] 31 (0,0)) Hand.q (by omega);obtain ⟨nc0,nf0,nc1,nf1⟩:=Hand.hc2 nx;obtain ⟨nz0,nz1,nz2,ny0,ny1⟩:=Hand.hz nx;have ne1:(W.heap.size=w.heap.size+1+1+1+1)=False:=eq_false (by omega);have ne2:(w.heap.size+1+1+1+1=W.heap.size)=False:=eq_false (by omega)))))|(go_at_call 42;((with_reducible refine (M2.out _ _ Hand.q).mono ?_);rintro e w5 ⟨rfl,hx_w5,hF_w5⟩;have BB:Fx (w.heap.size+1+1+1+1) W w5:=Fx.trans (by repeat (with_reducible first|assumption|apply Fx.drew|apply Fx.alloc|refine Fx.setNew ?_ Hand.z _ _)) hF_w5;have zB_w5:=BB.size;obtain ⟨cs,fs⟩:=Hand.hc1 hx_w5;obtain ⟨sz0,sz1,sz2,sy0,sy1⟩:=Hand.hz hx_w5;(try (have nx:=hF_w5.kb (k:=W.heap.size) (o:=.cells #[.int .i64 0,.int .i64 0] 31 (0,0)) Hand.q (by omega);obtain ⟨nc0,nf0,nc1,nf1⟩:=Hand.hc2 nx;obtain ⟨nz0,nz1,nz2,ny0,ny1⟩:=Hand.hz nx;have ne1:(W.heap.size=w.heap.size+1+1+1+1)=False:=eq_false (by omega);have ne2:(w.heap.size+1+1+1+1=W.heap.size)=False:=eq_false (by omega)));(try (have nx:=hF_w5.kb (k:=w4.heap.size) (o:=.cells #[.int .i64 0,.int .i64 0] 31 (0,0)) Hand.q (by omega);obtain ⟨nc0,nf0,nc1,nf1⟩:=Hand.hc2 nx;obtain ⟨nz0,nz1,nz2,ny0,ny1⟩:=Hand.hz nx;have ne1:(w4.heap.size=w.heap.size+1+1+1+1)=False:=eq_false (by omega);have ne2:(w.heap.size+1+1+1+1=w4.heap.size)=False:=eq_false (by omega)))))|(go_at_call 42;((with_reducible refine (M3.out _ _ Hand.q).mono ?_);rintro e w6 ⟨rfl,hx_w6,hF_w6⟩;have BB:Fx (w.heap.size+1+1+1+1) W w6:=Fx.trans (by repeat (with_reducible first|assumption|apply Fx.drew|apply Fx.alloc|refine Fx.setNew ?_ Hand.z _ _)) hF_w6;have zB_w6:=BB.size;obtain ⟨cs,fs⟩:=Hand.hc1 hx_w6;obtain ⟨sz0,sz1,sz2,sy0,sy1⟩:=Hand.hz hx_w6;(try (have nx:=hF_w6.kb (k:=W.heap.size) (o:=.cells #[.int .i64 0,.int .i64 0] 31 (0,0)) Hand.q (by omega);obtain ⟨nc0,nf0,nc1,nf1⟩:=Hand.hc2 nx;obtain ⟨nz0,nz1,nz2,ny0,ny1⟩:=Hand.hz nx;have ne1:(W.heap.size=w.heap.size+1+1+1+1)=False:=eq_false (by omega);have ne2:(w.heap.size+1+1+1+1=W.heap.size)=False:=eq_false (by omega)));(try (have nx:=hF_w6.kb (k:=w4.heap.size) (o:=.cells #[.int .i64 0,.int .i64 0] 31 (0,0)) Hand.q (by omega);obtain ⟨nc0,nf0,nc1,nf1⟩:=Hand.hc2 nx;obtain ⟨nz0,nz1,nz2,ny0,ny1⟩:=Hand.hz nx;have ne1:(w4.heap.size=w.heap.size+1+1+1+1)=False:=eq_false (by omega);have ne2:(w.heap.size+1+1+1+1=w4.heap.size)=False:=eq_false (by omega)));(try (have nx:=hF_w6.kb (k:=w5.heap.size) (o:=.cells #[.int .i64 0,.int .i64 0] 31 (0,0)) Hand.q (by omega);obtain ⟨nc0,nf0,nc1,nf1⟩:=Hand.hc2 nx;obtain ⟨nz0,nz1,nz2,ny0,ny1⟩:=Hand.hz nx;have ne1:(w5.heap.size=w.heap.size+1+1+1+1)=False:=eq_false (by omega);have ne2:(w.heap.size+1+1+1+1=w5.heap.size)=False:=eq_false (by omega))))))
 ·have gR6:=BB.kb gR (by omega)
  have hB6:Below w.heap.size w w6:=BB.below hBW (by omega) hBW.size
  have rz:=(Hand.hz gR6).1
  have szz:=(Hand.hz hx_w6).1
  obtain ⟨V,hV⟩:∃ V_,V_=w6.alloc (.cells #[.int .i64 z1,.int .i64 z2] 31):=⟨_,rfl⟩
  rw [← hV]
  have vX:V.heap[w6.heap.size]?=some (.cells #[.int .i64 z1,.int .i64 z2] 31 (0,0)):=by rw [hV];first|exact Hand.q3 _ _ _ rfl|(simp (disch:=try exact Hand.z) only [Hand.q1,nx];rfl)
  have vS:V.heap[w.heap.size+1+1+1+1]?=some (stp e3):=by rw [hV];simp (disch:=try exact Hand.z) only [Hand.q2,Hand.q4,hx_w6]
  have vR:V.heap[w.heap.size+1+1+1]?=some (.cells #[.int .i64 0,.int .i64 0] 31 (0,0)):=by rw [hV];simp (disch:=try exact Hand.z) only [Hand.q2,Hand.q4,gR6]
  have vB:Below w.heap.size w V:=by rw [hV];repeat (with_reducible first|exact hB6|refine Below.setCell ?_ Hand.d _|refine Below.alloc ?_ Hand.z _)
  have n1:w.heap.size+5≤w6.heap.size:=by omega
  have HVX:=Lib.hid vX
  have HVS:=Lib.hid vS
  have HVR:=Lib.hid vR
  have HVB:=Lib.hid vB
  obtain ⟨gx,hgx⟩:∃ gx,gx=w6.heap.size:=⟨_,rfl⟩
  rw [← hgx] at n1 HVX ⊢
  exact REST.out gx V n1 HVX.out HVS.out HVR.out HVB.out
 ·have gR6:=BB.kb gR (by omega)
  have hB6:Below w.heap.size w w6:=BB.below hBW (by omega) hBW.size
  have rz:=(Hand.hz gR6).1
  have szz:=(Hand.hz hx_w6).1
  obtain ⟨V,hV⟩:∃ V_,V_=(w6.setCell ⟨w5.heap.size,0,none⟩ (.int .i64 z1)).setCell ⟨w5.heap.size,1,none⟩ (.int .i64 z2):=⟨_,rfl⟩
  rw [← hV]
  have vX:V.heap[w5.heap.size]?=some (.cells #[.int .i64 z1,.int .i64 z2] 31 (0,0)):=by rw [hV];first|exact Hand.q3 _ _ _ rfl|(simp (disch:=try exact Hand.z) only [Hand.q1,nx];rfl)
  have vS:V.heap[w.heap.size+1+1+1+1]?=some (stp e3):=by rw [hV];simp (disch:=try exact Hand.z) only [Hand.q2,Hand.q4,hx_w6]
  have vR:V.heap[w.heap.size+1+1+1]?=some (.cells #[.int .i64 0,.int .i64 0] 31 (0,0)):=by rw [hV];simp (disch:=try exact Hand.z) only [Hand.q2,Hand.q4,gR6]
  have vB:Below w.heap.size w V:=by rw [hV];repeat (with_reducible first|exact hB6|refine Below.setCell ?_ Hand.d _|refine Below.alloc ?_ Hand.z _)
  have n1:w.heap.size+5≤w5.heap.size:=by omega
  have HVX:=Lib.hid vX
  have HVS:=Lib.hid vS
  have HVR:=Lib.hid vR
  have HVB:=Lib.hid vB
  obtain ⟨gx,hgx⟩:∃ gx,gx=w5.heap.size:=⟨_,rfl⟩
  rw [← hgx] at n1 HVX ⊢
  exact REST.out gx V n1 HVX.out HVS.out HVR.out HVB.out
 ·have gR6:=BB.kb gR (by omega)
  have hB6:Below w.heap.size w w6:=BB.below hBW (by omega) hBW.size
  have rz:=(Hand.hz gR6).1
  have szz:=(Hand.hz hx_w6).1
  obtain ⟨V,hV⟩:∃ V_,V_=(w6.setCell ⟨w4.heap.size,0,none⟩ (.int .i64 z1)).setCell ⟨w4.heap.size,1,none⟩ (.int .i64 z2):=⟨_,rfl⟩
  rw [← hV]
  have vX:V.heap[w4.heap.size]?=some (.cells #[.int .i64 z1,.int .i64 z2] 31 (0,0)):=by rw [hV];first|exact Hand.q3 _ _ _ rfl|(simp (disch:=try exact Hand.z) only [Hand.q1,nx];rfl)
  have vS:V.heap[w.heap.size+1+1+1+1]?=some (stp e3):=by rw [hV];simp (disch:=try exact Hand.z) only [Hand.q2,Hand.q4,hx_w6]
  have vR:V.heap[w.heap.size+1+1+1]?=some (.cells #[.int .i64 0,.int .i64 0] 31 (0,0)):=by rw [hV];simp (disch:=try exact Hand.z) only [Hand.q2,Hand.q4,gR6]
  have vB:Below w.heap.size w V:=by rw [hV];repeat (with_reducible first|exact hB6|refine Below.setCell ?_ Hand.d _|refine Below.alloc ?_ Hand.z _)
  have n1:w.heap.size+5≤w4.heap.size:=by omega
  have HVX:=Lib.hid vX
  have HVS:=Lib.hid vS
  have HVR:=Lib.hid vR
  have HVB:=Lib.hid vB
  obtain ⟨gx,hgx⟩:∃ gx,gx=w4.heap.size:=⟨_,rfl⟩
  rw [← hgx] at n1 HVX ⊢
  exact REST.out gx V n1 HVX.out HVS.out HVR.out HVB.out
 ·have gR6:=BB.kb gR (by omega)
  have hB6:Below w.heap.size w w6:=BB.below hBW (by omega) hBW.size
  have rz:=(Hand.hz gR6).1
  have szz:=(Hand.hz hx_w6).1
  obtain ⟨V,hV⟩:∃ V_,V_=(w6.setCell ⟨W.heap.size,0,none⟩ (.int .i64 z1)).setCell ⟨W.heap.size,1,none⟩ (.int .i64 z2):=⟨_,rfl⟩
  rw [← hV]
  have vX:V.heap[W.heap.size]?=some (.cells #[.int .i64 z1,.int .i64 z2] 31 (0,0)):=by rw [hV];first|exact Hand.q3 _ _ _ rfl|(simp (disch:=try exact Hand.z) only [Hand.q1,nx];rfl)
  have vS:V.heap[w.heap.size+1+1+1+1]?=some (stp e3):=by rw [hV];simp (disch:=try exact Hand.z) only [Hand.q2,Hand.q4,hx_w6]
  have vR:V.heap[w.heap.size+1+1+1]?=some (.cells #[.int .i64 0,.int .i64 0] 31 (0,0)):=by rw [hV];simp (disch:=try exact Hand.z) only [Hand.q2,Hand.q4,gR6]
  have vB:Below w.heap.size w V:=by rw [hV];repeat (with_reducible first|exact hB6|refine Below.setCell ?_ Hand.d _|refine Below.alloc ?_ Hand.z _)
  have n1:w.heap.size+5≤W.heap.size:=by omega
  have HVX:=Lib.hid vX
  have HVS:=Lib.hid vS
  have HVR:=Lib.hid vR
  have HVB:=Lib.hid vB
  obtain ⟨gx,hgx⟩:∃ gx,gx=W.heap.size:=⟨_,rfl⟩
  rw [← hgx] at n1 HVX ⊢
  exact REST.out gx V n1 HVX.out HVS.out HVR.out HVB.out
theorem fit64 (neg:Bool) (n d:Nat):-4611686018427387904≤(fitS neg n d).1∧(fitS neg n d).1≤4611686018427387904∧0≤(fitS neg n d).2.1∧(fitS neg n d).2.1≤2147483648:=by
 unfold fitS
 generalize n / Nat.gcd n d=p
 generalize d / Nat.gcd n d=q
 split
 ·dsimp only;cases neg
  ·rw [if_neg (by decide)];omega
  ·rw [if_pos rfl];omega
 ·decide
structure R64 (r:Rt):Prop where
 a0:-9223372036854775808≤r.1
 a1:r.1≤9223372036854775807
 b0:-9223372036854775808≤r.2
 b1:r.2≤9223372036854775807
theorem R64_0:R64 ((0,0):Rt):=⟨by decide,by decide,by decide,by decide⟩
theorem fit_R (neg:Bool) (n d:Nat):R64 (t3 (fitS neg n d)).1:=by
 obtain ⟨a,b,c,d⟩:=fit64 neg n d
 exact ⟨by show _≤(fitS _ _ _).1;omega,by show (fitS _ _ _).1≤_;omega,by show _≤(fitS _ _ _).2.1;omega,by show (fitS _ _ _).2.1≤_;omega⟩
theorem add_R (a b:Rt):R64 (rAdd a b).1:=by unfold rAdd addS;split;exact fit_R _ _ _;exact R64_0
theorem sub_R (a b:Rt):R64 (rSub a b).1:=by unfold rSub subS;split;exact add_R a (-b.1,b.2);exact R64_0
theorem mul_R (a b:Rt):R64 (rMul a b).1:=by unfold rMul mulS;split;exact fit_R _ _ _;exact R64_0
theorem div_R (a b:Rt):R64 (rDiv a b).1:=by
 unfold rDiv divS
 split
 ·split
  ·exact R64_0
  ·exact fit_R _ _ _
 ·exact R64_0
theorem do_R {f:Rt → Rt → Rt × Int} (h:∀ a b,R64 (f a b).1) (e:Int) (a b:Rt):R64 (doS f e a b).1:=by unfold doS;split;exact h _ _;exact R64_0
theorem ent_add:Ent 44:=enters_of Try.func44 (by kernel_rfl) rfl
theorem ent_sub:Ent 43:=enters_of Try.func43 (by kernel_rfl) rfl
theorem ent_mul:Ent 80:=enters_of Try.func80 (by kernel_rfl) rfl
theorem ent_div:Ent 63:=enters_of Try.func63 (by kernel_rfl) rfl
theorem f_add {a b:Rt} (ha:R64 a) (hb:R64 b):Rf 44 rAdd a b:=fun w=>addR_any a.1 a.2 b.1 b.2 w ha.a0 ha.a1 ha.b0 ha.b1 hb.a0 hb.a1 hb.b0 hb.b1
theorem f_sub {a b:Rt} (ha:R64 a) (hb:R64 b):Rf 43 rSub a b:=fun w=>subR_any a.1 a.2 b.1 b.2 w ha.a0 ha.a1 ha.b0 ha.b1 hb.a0 hb.a1 hb.b0 hb.b1
theorem f_mul {a b:Rt} (ha:R64 a) (hb:R64 b):Rf 80 rMul a b:=fun w=>mulR_any a.1 a.2 b.1 b.2 w ha.a0 ha.a1 ha.b0 ha.b1 hb.a0 hb.a1 hb.b0 hb.b1
theorem f_div {a b:Rt} (ha:R64 a) (hb:R64 b):Rf 63 rDiv a b:=fun w=>divR_any a.1 a.2 b.1 b.2 w ha.a0 ha.a1 ha.b0 ha.b1 hb.a0 hb.a1 hb.b0 hb.b1
abbrev kv (k:Kn):Value:=.agg #[.int .i64 k.1.1,.int .i64 k.1.2,.int .i64 k.2.1,.int .i64 k.2.2]
theorem along_any (k:Kn) (s t:Rt) (w:World) (h1:R64 k.1) (h2:R64 k.2) (h3:R64 s) (h4:R64 t) :
  Calls Try.prog 40 #[kv k,rv s,rv t] w fun e w'=>e = .returned (.tuple #[rv (alongS k s t).1,.int .i64 (alongS k s t).2])∧Below w.heap.size w w' :=
 along_of _ _ _ _ _ _ _ _ _ _ _ _ _ _ _ _ _ w (fun g w hx=>do_any g _ rSub 0 t k.1 w hx ent_sub (fun _=>f_sub h4 h1)) (fun g w hx=>do_any g _ rMul _ _ s w hx ent_mul (fun _=>f_mul (sub_R _ _) h3)) (fun g w hx=>do_any g _ rAdd _ k.2 _ w hx ent_add (fun _=>f_add h2 (do_R mul_R _ _ _)))
theorem back_any (k:Kn) (s t:Rt) (w:World) (h1:R64 k.1) (h2:R64 k.2) (h3:R64 s) (h4:R64 t) :
  Calls Try.prog 69 #[kv k,rv s,rv t] w fun e w'=>e = .returned (.tuple #[rv (backS k s t).1,.int .i64 (backS k s t).2])∧Below w.heap.size w w' :=
 back_of _ _ _ _ _ _ _ _ _ _ _ _ _ _ _ _ _ w (fun g w hx=>do_any g _ rSub 0 t k.2 w hx ent_sub (fun _=>f_sub h4 h2)) (fun g w hx=>do_any g _ rDiv _ _ s w hx ent_div (fun _=>f_div (sub_R _ _) h3)) (fun g w hx=>do_any g _ rAdd _ k.1 _ w hx ent_add (fun _=>f_add h1 (do_R div_R _ _ _)))
def KnA (w:World) (ad:Addr) (l:List Kn):Prop:=∀ j (h:j<l.length),w.cell? (ad.add (j*4))=some (.int .i64 l[j].1.1)∧w.cell? ⟨(ad.add (j*4)).block,(ad.add (j*4)).off+1,none⟩=some (.int .i64 l[j].1.2) ∧
 w.cell? ⟨(ad.add (j*4)).block,(ad.add (j*4)).off+2,none⟩=some (.int .i64 l[j].2.1)∧w.cell? ⟨(ad.add (j*4)).block,(ad.add (j*4)).off+3,none⟩=some (.int .i64 l[j].2.2)
theorem KnA.below {w w':World} {ad:Addr} {l:List Kn} (h:KnA w ad l) (hb:Below w.heap.size w w'):KnA w' ad l:=fun j hj=>by
 obtain ⟨a,b,c,d⟩:=h j hj
 have st:∀ p v,w.cell? p=some v → w'.cell? p=some v:=fun p v hp=>(hb.cell (World.block_lt_of_cell? w _ hp)).trans hp
 exact ⟨st _ _ a,st _ _ b,st _ _ c,st _ _ d⟩
def KnR (l:List Kn):Prop:=∀ k ∈ l,R64 k.1∧R64 k.2
theorem rises_iff (f:Kn → Rt):∀ l:List Kn,risesB f l=true ↔ ∀ i (h:i+1<l.length),rCmp (f l[i]) (f l[i+1])<0:=by
 intro l
 induction l with
 | nil=>simp [risesB]
 | cons a l ih =>
  cases l with
  | nil=>simp [risesB]
  | cons b l =>
   simp only [risesB,Bool.and_eq_true,decide_eq_true_eq]
   rw [ih]
   constructor
   ·rintro ⟨h0,h1⟩ i hi
    cases i with
    | zero=>exact h0
    | succ i=>exact h1 i (by simpa using hi)
   ·intro h
    exact ⟨h 0 (by simp),fun i hi=>h (i+1) (by simpa using hi)⟩
theorem chk_12 {l:List Kn} (h0:l.length≠0) (h1:l.length≤64) (h:(l.all fun k=>rRight k.1 && rRight k.2)=false):chkK l=12:=by unfold chkK;rw [if_neg h0,if_neg (by omega),if_pos h]
theorem chk_33 {l:List Kn} (h0:l.length≠0) (h1:l.length≤64) (h:(l.all fun k=>rRight k.1 && rRight k.2)=true) (h2:risesB (·.1) l=false):chkK l=33:=by unfold chkK;rw [if_neg h0,if_neg (by omega),if_neg (by rw [h];decide),if_pos h2]
theorem chk_32 {l:List Kn} (h0:l.length≠0) (h1:l.length≤64) (h:(l.all fun k=>rRight k.1 && rRight k.2)=true) (h2:risesB (·.1) l=true) (h3:risesB (·.2) l=false):chkK l=32:=by unfold chkK;rw [if_neg h0,if_neg (by omega),if_neg (by rw [h];decide),if_neg (by rw [h2];decide),if_pos h3]
theorem chk_0 {l:List Kn} (h0:l.length≠0) (h1:l.length≤64) (h:(l.all fun k=>rRight k.1 && rRight k.2)=true) (h2:risesB (·.1) l=true) (h3:risesB (·.2) l=true):chkK l=0:=by unfold chkK;rw [if_neg h0,if_neg (by omega),if_neg (by rw [h];decide),if_neg (by rw [h2];decide),if_neg (by rw [h3];decide)]
theorem cmp_k (a b:Rt) (w:World) (ha:R64 a) (hb:R64 b) (ra:rRight a=true) (rb:rRight b=true):Calls Try.prog 18 #[rv a,rv b] w fun e w'=>e = .returned (.int .i64 (rCmp a b))∧Below w.heap.size w w':=by
 have h1:=(right_bounds ra).1
 have h2:=(right_bounds rb).1
 exact cmpR_any a.1 a.2 b.1 b.2 w ha.a0 ha.a1 (by omega) ha.b1 hb.a0 hb.a1 (by omega) hb.b1
theorem right_k (r:Rt) (w:World) (h:R64 r):Calls Try.prog 17 #[rv r] w fun e w'=>e = .returned (.bool (rRight r))∧Below w.heap.size w w':=right_any r.1 r.2 w h.a0 h.a1 h.b0 h.b1
theorem chk_some (ad:Addr) (l:List Kn) (n cap:Nat) (w:World) (hn:n=l.length) (hK:KnA w ad l) (hR:KnR l) (h0:0<n) (h1:n≤64) :
  Calls Try.prog 37 #[.slice (some ad) n cap] w fun e w'=>e = .returned (.int .i64 (chkK l))∧Below w.heap.size w w':=by
 have b1:((n:Int) == 0)=false:=by simp;omega
 have b2:(64<(n:Int))=False:=eq_false (by omega)
 have b3:(64<n)=False:=eq_false (by omega)
 have b4:(n == 0)=false:=by simp;omega
 have b5:¬ n=0:=by omega
 have HK:=Lib.hid hK
 have HN:=Lib.hid hn
 have HR:=Lib.hid hR
 clear hK hn hR
 have L0:=Lib.hid (show l.length≠0 by have:=HN.out;omega)
 have L1:=Lib.hid (show l.length≤64 by have:=HN.out;omega)
 go_enter Try.func37,Try.ntmps37
 go_wp2_with fail
 go_loopw [17] (fun i wr=>∃ j:Nat,j≤n∧i = .int .i64 j∧(l.take j).all (fun k=>rRight k.1 && rRight k.2)=true∧Below w.heap.size w wr) (fun i _=>n - (intOf i).toNat)
 case atStart=>exact ⟨0,Nat.zero_le _,rfl,rfl,Below.refl _ _⟩
 case round =>
  obtain ⟨j,hj,rfl,hall,hB⟩:=hrel
  have HA:=Lib.hid hall
  clear hall
  by_cases hjn:j<n
  ·have p1:((j:Int)<(n:Int))=True:=eq_true (by omega)
   have p2:(j<n)=True:=eq_true hjn
   have hjl:j<l.length:=by rw [← HN.out];exact hjn
   obtain ⟨c0,c1,c2,c3⟩:=(HK.out.below hB) j hjl
   have hr:=HR.out _ (List.getElem_mem hjl)
   obtain ⟨k,hk⟩:∃ k,l[j]=k:=⟨_,rfl⟩
   rw [hk] at c0 c1 c2 c3 hr
   have m1:=Lib.hid (fun w=>right_k k.1 w hr.1)
   have m2:=Lib.hid (fun w=>right_k k.2 w hr.2)
   have HKJ:=Lib.hid hk
   clear hr hk
   have BAD:=Lib.hid (fun (h:(rRight k.1 && rRight k.2)=false)=>chk_12 L0.out L1.out (by rw [List.all_eq_false];exact ⟨_,List.getElem_mem hjl,by rw [HKJ.out,h];decide⟩))
   go_wp2_with fail
   with_reducible refine (m1.out _).mono ?_
   rintro e w2 ⟨rfl,hb2⟩
   have gk:=Hand.kb hb2 (Hand.q3 wr (.cells #[.int .i64 k.1.1,.int .i64 k.1.2,.int .i64 k.2.1,.int .i64 k.2.2] 35 (0,0)) _ rfl)
   obtain ⟨d0,f0,d1,f1,d2,f2,d3,f3⟩:=Hand.hc4 gk
   have hB2:=Hand.stepB hb2 (hB.alloc hB.size _) (Nat.le_refl _)
   clear hb2 gk
   cases h1:rRight k.1
   ·go_wp2
    go_ret
    exact ⟨by rw [BAD.out (by rw [h1];rfl)];rfl,hB2⟩
   ·go_wp2_with fail
    with_reducible refine (m2.out _).mono ?_
    rintro e w3 ⟨rfl,hb3⟩
    have hB3:=Hand.stepB hb3 hB2 (Nat.le_refl _)
    clear hb3
    cases h2:rRight k.2
    ·go_wp2
     go_ret
     exact ⟨by rw [BAD.out (by rw [h1,h2];rfl)];rfl,hB3⟩
    ·go_wp2
     go_roundw
     case rel=>exact ⟨j+1,by omega,by rw [Int.natCast_add];rfl,by rw [List.take_succ_eq_append_getElem hjl,List.all_append,HA.out,HKJ.out];simp [h1,h2],hB3⟩
     case measure=>simp [intOf];omega
  ·have p1:((j:Int)<(n:Int))=False:=eq_false (by omega)
   have p2:(j<n)=False:=eq_false hjn
   have hall:l.all (fun k=>rRight k.1 && rRight k.2)=true:=by have:=HA.out;rwa [List.take_of_length_le (by rw [← HN.out];omega)] at this
   have HALL:=Lib.hid hall
   have HRT:=Lib.hid (fun j (h:j<l.length)=>(by have:=List.all_eq_true.mp hall _ (List.getElem_mem h);rw [Bool.and_eq_true] at this;exact this:rRight l[j].1=true∧rRight l[j].2=true))
   clear HA hall
   go_wp2_with fail
   clear p1 p2 hjn hj
   go_loopw [5] (fun i wr=>∃ j:Nat,j+1≤n∧i = .int .i64 ((j:Int)+1)∧(∀ i (h:i+1<l.length),i<j → rCmp l[i].1 l[i+1].1<0)∧Below w.heap.size w wr) (fun i _=>n - (intOf i).toNat)
   case atStart=>exact ⟨0,by omega,rfl,fun i _ h=>absurd h (Nat.not_lt_zero _),hB⟩
   case round =>
    obtain ⟨j,hj,rfl,hall,hB⟩:=hrel
    have HA:=Lib.hid hall
    clear hall
    by_cases hjn:j+1<n
    ·have p1:((j:Int)+1<(n:Int))=True:=eq_true (by omega)
     have hjl:j+1<l.length:=by rw [← HN.out];exact hjn
     obtain ⟨c0,c1,c2,c3⟩:=(HK.out.below hB) j (by omega)
     obtain ⟨d0,d1,d2,d3⟩:=(HK.out.below hB) (j+1) hjl
     have w1:IntKind.i64.wrap ((j:Int)+1 - 1)=(j:Int):=by rw [IntKind.wrap_i64];omega
     have w2:IntKind.i64.wrap (j:Int)=(j:Int):=by rw [IntKind.wrap_i64];omega
     have p3:(0:Int)≤(j:Int)+1:=by omega
     have p4:((j:Int)<(n:Int))=True:=eq_true (by omega)
     have p5:(0:Int)≤(j:Int):=by omega
     have p6:(j<n)=True:=eq_true (by omega)
     have p7:(j+1<n)=True:=eq_true (by omega)
     have m1:=Lib.hid (fun w=>cmp_k l[j].1 l[j+1].1 w (HR.out _ (List.getElem_mem (by omega))).1 (HR.out _ (List.getElem_mem hjl)).1 (HRT.out j (by omega)).1 (HRT.out (j+1) hjl).1)
     obtain ⟨q,hq⟩:∃ q,rCmp l[j].1 l[j+1].1=q:=⟨_,rfl⟩
     rw [hq] at m1
     have HQ:=Lib.hid hq
     clear hq
     go_wp2_with fail
     go_still_tail 11,(by kernel_rfl)
     change wpList _ _ _ _ _ wr.drew
     go_wp2_with fail
     with_reducible refine (m1.out _).mono ?_
     rintro e w2 ⟨rfl,hb2⟩
     have hB2:=Hand.stepB hb2 hB.drew (Nat.le_refl _)
     clear hb2
     by_cases hq0:0≤q
     ·have k1:(0≤q)=True:=eq_true hq0
      go_wp2
      go_ret
      exact ⟨by rw [chk_33 L0.out L1.out HALL.out (by rw [← Bool.not_eq_true,rises_iff];intro h;have:=h j hjl;rw [HQ.out] at this;omega)];rfl,hB2⟩
     ·have k1:(0≤q)=False:=eq_false hq0
      go_wp2
      go_roundw
      case rel =>
       refine ⟨j+1,by omega,by rw [Int.natCast_add];rfl,fun i h hi=>?_,hB2⟩
       by_cases hij:i=j
       ·subst hij;rw [HQ.out];omega
       ·exact HA.out i h (by omega)
      case measure=>simp [intOf];omega
    ·have p1:((j:Int)+1<(n:Int))=False:=eq_false (by omega)
     have HRI:=Lib.hid (show risesB (·.1) l=true from by rw [rises_iff];intro i hi;exact HA.out i hi (by have:=HN.out;omega))
     clear HA
     go_wp2_with fail
     clear p1 hjn hj
     go_loopw [6] (fun i wr=>∃ j:Nat,j+1≤n∧i = .int .i64 ((j:Int)+1)∧(∀ i (h:i+1<l.length),i<j → rCmp l[i].2 l[i+1].2<0)∧Below w.heap.size w wr) (fun i _=>n - (intOf i).toNat)
     case atStart=>exact ⟨0,by omega,rfl,fun i _ h=>absurd h (Nat.not_lt_zero _),hB⟩
     case round =>
      obtain ⟨j,hj,rfl,hall,hB⟩:=hrel
      have HA:=Lib.hid hall
      clear hall
      by_cases hjn:j+1<n
      ·have p1:((j:Int)+1<(n:Int))=True:=eq_true (by omega)
       have hjl:j+1<l.length:=by rw [← HN.out];exact hjn
       obtain ⟨c0,c1,c2,c3⟩:=(HK.out.below hB) j (by omega)
       obtain ⟨d0,d1,d2,d3⟩:=(HK.out.below hB) (j+1) hjl
       have w1:IntKind.i64.wrap ((j:Int)+1 - 1)=(j:Int):=by rw [IntKind.wrap_i64];omega
       have w2:IntKind.i64.wrap (j:Int)=(j:Int):=by rw [IntKind.wrap_i64];omega
       have p3:(0:Int)≤(j:Int)+1:=by omega
       have p4:((j:Int)<(n:Int))=True:=eq_true (by omega)
       have p5:(0:Int)≤(j:Int):=by omega
       have p6:(j<n)=True:=eq_true (by omega)
       have p7:(j+1<n)=True:=eq_true (by omega)
       have m1:=Lib.hid (fun w=>cmp_k l[j].2 l[j+1].2 w (HR.out _ (List.getElem_mem (by omega))).2 (HR.out _ (List.getElem_mem hjl)).2 (HRT.out j (by omega)).2 (HRT.out (j+1) hjl).2)
       obtain ⟨q,hq⟩:∃ q,rCmp l[j].2 l[j+1].2=q:=⟨_,rfl⟩
       rw [hq] at m1
       have HQ:=Lib.hid hq
       clear hq
       go_wp2_with fail
       go_still_tail 11,(by kernel_rfl)
       change wpList _ _ _ _ _ wr.drew
       go_wp2_with fail
       with_reducible refine (m1.out _).mono ?_
       rintro e w2 ⟨rfl,hb2⟩
       have hB2:=Hand.stepB hb2 hB.drew (Nat.le_refl _)
       clear hb2
       by_cases hq0:0≤q
       ·have k1:(0≤q)=True:=eq_true hq0
        go_wp2
        go_ret
        exact ⟨by rw [chk_32 L0.out L1.out HALL.out HRI.out (by rw [← Bool.not_eq_true,rises_iff];intro h;have:=h j hjl;rw [HQ.out] at this;omega)];rfl,hB2⟩
       ·have k1:(0≤q)=False:=eq_false hq0
        go_wp2
        go_roundw
        case rel =>
         refine ⟨j+1,by omega,by rw [Int.natCast_add];rfl,fun i h hi=>?_,hB2⟩
         by_cases hij:i=j
         ·subst hij;rw [HQ.out];omega
         ·exact HA.out i h (by omega)
        case measure=>simp [intOf];omega
      ·have p1:((j:Int)+1<(n:Int))=False:=eq_false (by omega)
       have HRO:=Lib.hid (show risesB (·.2) l=true from by rw [rises_iff];intro i hi;exact HA.out i hi (by have:=HN.out;omega))
       clear HA
       go_wp2
       go_ret
       exact ⟨by rw [chk_0 L0.out L1.out HALL.out HRI.out HRO.out];rfl,hB⟩
theorem chk_none (A:Option Addr) (cap:Nat) (w:World) :
  Calls Try.prog 37 #[.slice A 0 cap] w fun e w'=>e = .returned (.int .i64 1)∧Below w.heap.size w w':=by
 go_enter Try.func37,Try.ntmps37
 go_wp2
 go_ret
 exact ⟨rfl,Below.refl _ _⟩
theorem chk_many (A:Option Addr) (n cap:Nat) (h:64<n) (w:World) :
  Calls Try.prog 37 #[.slice A n cap] w fun e w'=>e = .returned (.int .i64 2)∧Below w.heap.size w w':=by
 have b1:((n:Int) == 0)=false:=by simp;omega
 have b2:(64<(n:Int))=True:=eq_true (by omega)
 have b3:(64<n)=True:=eq_true (by omega)
 have b4:(n == 0)=false:=by simp;omega
 have b5:¬ n=0:=by omega
 go_enter Try.func37,Try.ntmps37
 go_wp2
 go_ret
 exact ⟨rfl,Below.refl _ _⟩
def KnS (w:World) (A:Option Addr) (l:List Kn):Prop:=l=[] ∨ ∃ ad,A=some ad∧KnA w ad l
theorem KnS.below {w w':World} {A:Option Addr} {l:List Kn} (h:KnS w A l) (hb:Below w.heap.size w w'):KnS w' A l:=by
 rcases h with h|⟨ad,h1,h2⟩
 ·exact .inl h
 ·exact .inr ⟨ad,h1,h2.below hb⟩
theorem chk_any (A:Option Addr) (l:List Kn) (cap:Nat) (w:World) (hK:KnS w A l) (hR:KnR l) :
  Calls Try.prog 37 #[.slice A l.length cap] w fun e w'=>e = .returned (.int .i64 (chkK l))∧Below w.heap.size w w':=by
 rcases hK with rfl|⟨ad,rfl,hK⟩
 ·exact chk_none A cap w
 ·by_cases h0:l.length=0
  ·rw [List.length_eq_zero_iff.mp h0];exact chk_none _ cap w
  ·by_cases h1:l.length≤64
   ·exact chk_some ad l _ cap w rfl hK hR (by omega) h1
   ·rw [show chkK l=2 by unfold chkK;rw [if_neg h0,if_pos (by omega)]]
    exact chk_many _ _ cap (by omega) w
def RtA (w:World) (ad:Addr) (l:List Rt):Prop:=∀ j (h:j<l.length),w.cell? (ad.add (j*2))=some (.int .i64 l[j].1)∧w.cell? ⟨(ad.add (j*2)).block,(ad.add (j*2)).off+1,none⟩=some (.int .i64 l[j].2)
theorem RtA.below {w w':World} {ad:Addr} {l:List Rt} (h:RtA w ad l) (hb:Below w.heap.size w w'):RtA w' ad l:=fun j hj=>by
 obtain ⟨a,b⟩:=h j hj
 have st:∀ p v,w.cell? p=some v → w'.cell? p=some v:=fun p v hp=>(hb.cell (World.block_lt_of_cell? w _ hp)).trans hp
 exact ⟨st _ _ a,st _ _ b⟩
theorem slope_any (p:Nat) (kv_:Value) (as_:Addr) (ns cs:Nat) (bn:Int) (i:Nat) (l:List Rt) (w:World) (hm:w.heap[p]?=some (.cells #[kv_,.slice (some as_) ns cs,.int .i64 bn] 70 (0,0))) (hS:RtA w as_ l) (hn:ns=l.length) (h0:0<ns) (h1:ns≤64) (hi:i≤100) :
  Calls Try.prog 86 #[.pointer (some ⟨p,0,none⟩),.int .i64 (i:Int)] w fun e w'=>e = .returned (rv (l.getD (min i (ns - 1)) (0,0)))∧Below w.heap.size w w':=by
 obtain ⟨q,hq⟩:∃ q,min i (ns - 1)=q:=⟨_,rfl⟩
 have hql:q<l.length:=by omega
 have HV:=Lib.hid (show l.getD q (0,0)=l[q] from by rw [List.getD_eq_getElem?_getD,List.getElem?_eq_getElem hql];rfl)
 rw [hq,HV.out]
 have w1:IntKind.i64.wrap ((ns:Int) - 1)=(ns:Int) - 1:=by rw [IntKind.wrap_i64];omega
 have w2:min (i:Int) ((ns:Int) - 1)=(q:Int):=by omega
 have p1:(0:Int)≤(q:Int):=by omega
 have p2:((q:Int)<(ns:Int))=True:=eq_true (by omega)
 have p3:(q<ns)=True:=eq_true (by omega)
 have HM:=Lib.hid hm
 have HS:=Lib.hid hS
 clear hm hS hn hq
 go_enter Try.func86,Try.ntmps86
 go_wp2_with fail
 obtain ⟨W,hW⟩:∃ W_,W_=w.alloc (.cells #[.int .i64 0,.int .i64 0] 31):=⟨_,rfl⟩
 rw [← hW]
 have hB:Below w.heap.size w W:=by rw [hW];exact (Below.refl _ _).alloc (Nat.le_refl _) _
 have gR:W.heap[w.heap.size]?=some (.cells #[.int .i64 0,.int .i64 0] 31 (0,0)):=by rw [hW];exact Hand.q3 _ _ _ rfl
 obtain ⟨c0,f0,c1,f1,c2,f2⟩:=Hand.hc3 (Hand.kb hB HM.out)
 obtain ⟨d0,d1⟩:=HS.out.below hB q hql
 obtain ⟨r0,fr0,r1,fr1⟩:=Hand.hc2 gR
 have HGR:=Lib.hid gR
 clear hW gR
 go_still_tail 14,(by kernel_rfl)
 change wpList _ _ _ _ _ W.drew
 go_wp2
 refine bodyPost_ret (results_cell_row rfl _ _ (w.heap.size) 31 #[.int .i64 l[q].1,.int .i64 l[q].2] (0,0) _ rfl ?_ Try.underlying31 rfl (by kernel_rfl)) rfl ⟨rfl,?_⟩
 ·simp (disch:=omega) only [Hand.q5,Hand.q1,HGR.out];rfl
 ·repeat (with_reducible first|exact hB|apply Below.drew|refine Below.setCell ?_ Hand.d _)
end Go.Proofs.Ythlpaglldhgmfaa.PA
