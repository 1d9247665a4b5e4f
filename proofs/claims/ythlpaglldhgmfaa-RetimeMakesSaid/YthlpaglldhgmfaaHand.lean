/- Small words for walks by hand: what a block holds behind allocations, stores and draws. -/
import Derived.Test.YthlpaglldhgmfaaXW
import Derived.RegionTactic
import Derived.ChangeAlike
import Derived.Outline
import Derived.Lib.Hide
namespace Go.Proofs.Ythlpaglldhgmfaa.Hand
open Go Go.RowKit Go.Proofs.YthlpaglldhgmfaaW.PrintWords Go.Proofs.YthlpaglldhgmfaaW.PrintLast Go.Proofs.YthlpaglldhgmfaaW.PrintMore
def putc (i:Nat) (u:Value):Obj → Obj
 | .cells c t f=>.cells (c.setIfInBounds i u) t f
 | o=>o
theorem putc_cells (i:Nat) (u:Value) (c:Array Value) (t:TypeId) (f:Nat × Nat):putc i u (.cells c t f) = .cells (c.setIfInBounds i u) t f:=rfl
attribute [simp] putc_cells
theorem hp_alloc (w:World) (o:Obj) (g:Nat):(w.alloc o).heap[g]?=if g=w.heap.size then some o else w.heap[g]?:=by
 show (w.heap.push o)[g]?=_
 rw [Array.getElem?_push]
theorem hp_set (w:World) (b i:Nat) (u:Value) (g:Nat):(w.setCell ⟨b,i,none⟩ u).heap[g]?=if b=g then (w.heap[g]?).map (putc i u) else w.heap[g]?:=by
 simp only [World.setCell,Array.getElem?_modify]
 by_cases h:b=g
 ·rw [if_pos h,if_pos h]
  congr 1
 ·rw [if_neg h,if_neg h]
theorem hp_drew (w:World) (g:Nat):w.drew.heap[g]?=w.heap[g]?:=rfl
theorem hp_drewN (w:World) (n g:Nat):(w.drewN n).heap[g]?=w.heap[g]?:=rfl
theorem hp_below {w w1:World} {B g:Nat} (hb:Below B w w1) (h:g<B):w1.heap[g]?=w.heap[g]?:=hb.block g h
theorem hp_set_ne (w:World) (b i:Nat) (u:Value) (g:Nat) (h:b≠g):(w.setCell ⟨b,i,none⟩ u).heap[g]?=w.heap[g]?:=by rw [hp_set,if_neg h]
theorem hp_set_eq (w:World) (g i:Nat) (u:Value):(w.setCell ⟨g,i,none⟩ u).heap[g]?=(w.heap[g]?).map (putc i u):=by rw [hp_set,if_pos rfl]
theorem hp_alloc_ne (w:World) (o:Obj) (g:Nat) (h:g≠w.heap.size):(w.alloc o).heap[g]?=w.heap[g]?:=by rw [hp_alloc,if_neg h]
theorem hp_alloc_eq (w:World) (o:Obj) (g:Nat) (h:g=w.heap.size):(w.alloc o).heap[g]?=some o:=by rw [hp_alloc,if_pos h]
theorem cell_of {w:World} {g:Nat} {t:TypeId} {cs:Array Value} (h:w.heap[g]?=some (.cells cs t (0,0))) (i:Nat) (v:Value) (e:cs[i]?=some v):w.cell? ⟨g,i,none⟩=some v:=(blk_cell h i).trans e
theorem free_of {w:World} {g:Nat} {t:TypeId} {cs:Array Value} (h:w.heap[g]?=some (.cells cs t (0,0))) (i:Nat):w.frozen? ⟨g,i,none⟩=false:=blk_frozen h i
theorem cell0 {w:World} {g:Nat} {t:TypeId} {a:Value} {l:List Value} (h:w.heap[g]?=some (.cells (List.toArray (a :: l)) t (0,0))):w.cell? ⟨g,0,none⟩=some a:=cell_of h 0 a rfl
theorem cell1 {w:World} {g:Nat} {t:TypeId} {a b:Value} {l:List Value} (h:w.heap[g]?=some (.cells (List.toArray (a :: b :: l)) t (0,0))):w.cell? ⟨g,1,none⟩=some b:=cell_of h 1 b rfl
theorem cell2 {w:World} {g:Nat} {t:TypeId} {a b c:Value} {l:List Value} (h:w.heap[g]?=some (.cells (List.toArray (a :: b :: c :: l)) t (0,0))):w.cell? ⟨g,2,none⟩=some c:=cell_of h 2 c rfl
theorem cell3 {w:World} {g:Nat} {t:TypeId} {a b c d:Value} {l:List Value} (h:w.heap[g]?=some (.cells (List.toArray (a :: b :: c :: d :: l)) t (0,0))):w.cell? ⟨g,3,none⟩=some d:=cell_of h 3 d rfl
theorem cell4 {w:World} {g:Nat} {t:TypeId} {a b c d e:Value} {l:List Value} (h:w.heap[g]?=some (.cells (List.toArray (a :: b :: c :: d :: e :: l)) t (0,0))):w.cell? ⟨g,4,none⟩=some e:=cell_of h 4 e rfl
theorem trip {a b:Nat} (_:a=b) (f:False):a≠b:=f.elim
theorem wp_cut {P:Program} {c:Code} {Q:Exit → Act → World → Prop} {a:Act} {w:World} (h:∀ Q',Q'=Q → c.wp P Q' a w):c.wp P Q a w:=h Q rfl
theorem bcell {W w1:World} (hb:Below W.heap.size W w1):(∀ b o,b<W.heap.size → w1.cell? ⟨b,o,none⟩=W.cell? ⟨b,o,none⟩)∧(∀ b o,b<W.heap.size → w1.frozen? ⟨b,o,none⟩=W.frozen? ⟨b,o,none⟩) :=
 ⟨fun b o h=>hb.cell (p:=⟨b,o,none⟩) h,fun b o h=>hb.frozen (p:=⟨b,o,none⟩) h⟩
theorem cell_far {w:World} {g h i j:Nat} {u v:Value} (hne:h≠g) (c:w.cell? ⟨g,i,none⟩=some v):(w.setCell ⟨h,j,none⟩ u).cell? ⟨g,i,none⟩=some v :=
 (World.cell?_setCell_other _ _ _ _ (fun e=>hne (by have:=congrArg Addr.block e;exact this))).trans c
theorem cell_alloc {w:World} {g i:Nat} {v:Value} {o:Obj} (c:w.cell? ⟨g,i,none⟩=some v):(w.alloc o).cell? ⟨g,i,none⟩=some v:=by
 have h:=World.block_lt_of_cell? w _ c
 exact (World.cell?_alloc_lt _ _ _ h).trans c
theorem cell_drew {w:World} {g i:Nat} {v:Value} (c:w.cell? ⟨g,i,none⟩=some v):w.drew.cell? ⟨g,i,none⟩=some v:=c
theorem stepB {W wX w1:World} {B:Nat} (hb:Below wX.heap.size wX w1) (h:Below B W wX) (hB:B≤W.heap.size):Below B W w1:=h.trans (hb.mono (Nat.le_trans hB h.size))
theorem keep4 {W w1:World} {B g h:Nat} {a b c d:Value} (hb:Below B W w1) (hg:g<B) (hh:h<B)
  (k:W.cell? ⟨g,0,none⟩=some a∧W.cell? ⟨g,1,none⟩=some b∧W.cell? ⟨h,0,none⟩=some c∧W.cell? ⟨h,1,none⟩=some d) :
  Below B W w1∧w1.cell? ⟨g,0,none⟩=some a∧w1.cell? ⟨g,1,none⟩=some b∧w1.cell? ⟨h,0,none⟩=some c∧w1.cell? ⟨h,1,none⟩=some d :=
 ⟨hb,(hb.cell (p:=⟨g,0,none⟩) hg).trans k.1,(hb.cell (p:=⟨g,1,none⟩) hg).trans k.2.1,(hb.cell (p:=⟨h,0,none⟩) hh).trans k.2.2.1,(hb.cell (p:=⟨h,1,none⟩) hh).trans k.2.2.2⟩
theorem keep2 {W w1:World} {B g:Nat} {a b:Value} (hb:Below B W w1) (hg:g<B)
  (k:W.cell? ⟨g,0,none⟩=some a∧W.cell? ⟨g,1,none⟩=some b):Below B W w1∧w1.cell? ⟨g,0,none⟩=some a∧w1.cell? ⟨g,1,none⟩=some b :=
 ⟨hb,(hb.cell (p:=⟨g,0,none⟩) hg).trans k.1,(hb.cell (p:=⟨g,1,none⟩) hg).trans k.2⟩
theorem kb {W w1:World} {i:Nat} {x:Obj} (hb:Below W.heap.size W w1) (h:W.heap[i]?=some x):w1.heap[i]?=some x:=(hp_below hb (Array.getElem?_eq_some_iff.1 h).1).trans h
theorem ka {w:World} {o x:Obj} {i:Nat} (h:w.heap[i]?=some x):(w.alloc o).heap[i]?=some x:=by
 have:=(Array.getElem?_eq_some_iff.1 h).1
 rw [hp_alloc_ne _ _ _ (by omega)];exact h
theorem kd {w:World} {x:Obj} {i:Nat} (h:w.heap[i]?=some x):w.drew.heap[i]?=some x:=h
theorem kn {w:World} {o:Obj} {i:Nat} (e:i=w.heap.size):(w.alloc o).heap[i]?=some o:=hp_alloc_eq _ _ _ e
theorem ks {w:World} {x:Obj} {i b j:Nat} {u:Value} (e:b≠i) (h:w.heap[i]?=some x):(w.setCell ⟨b,j,none⟩ u).heap[i]?=some x:=by rw [hp_set_ne _ _ _ _ _ e];exact h
theorem kp {w:World} {c c':Array Value} {t:TypeId} {f:Nat × Nat} {i j:Nat} {u:Value} (h:w.heap[i]?=some (.cells c t f)) (e:c.setIfInBounds j u=c'):(w.setCell ⟨i,j,none⟩ u).heap[i]?=some (.cells c' t f):=by
 rw [hp_set_eq,h,← e];rfl
theorem q1 (w:World) (g i:Nat) (u:Value):(w.setCell ⟨g,i,none⟩ u).heap[g]?=(w.heap[g]?).map (putc i u):=hp_set_eq w g i u
theorem q2 (w:World) (b i:Nat) (u:Value) (g:Nat) (h:b≠g):(w.setCell ⟨b,i,none⟩ u).heap[g]?=w.heap[g]?:=hp_set_ne w b i u g h
theorem q3 (w:World) (o:Obj) (g:Nat) (h:g=w.heap.size):(w.alloc o).heap[g]?=some o:=hp_alloc_eq w o g h
theorem q4 (w:World) (o:Obj) (g:Nat) (h:g≠w.heap.size):(w.alloc o).heap[g]?=w.heap[g]?:=hp_alloc_ne w o g h
theorem q5 (w:World) (g:Nat):w.drew.heap[g]?=w.heap[g]?:=rfl
theorem q6 (w:World) (n g:Nat):(w.drewN n).heap[g]?=w.heap[g]?:=rfl
theorem hz {w:World} {i:Nat} {x:Obj} (h:w.heap[i]?=some x):i<w.heap.size∧i<w.heap.size+1∧i<w.heap.size+1+1∧(i=w.heap.size)=False∧(i=w.heap.size+1)=False:=by
 have:=(Array.getElem?_eq_some_iff.1 h).1
 exact ⟨by omega,by omega,by omega,eq_false (by omega),eq_false (by omega)⟩
theorem hc1 {w:World} {g:Nat} {t:TypeId} {a:Value} (h:w.heap[g]?=some (.cells #[a] t (0,0))):w.cell? ⟨g,0,none⟩=some a∧w.frozen? ⟨g,0,none⟩=false:=⟨cell0 h,free_of h 0⟩
theorem hc2 {w:World} {g:Nat} {t:TypeId} {a b:Value} (h:w.heap[g]?=some (.cells #[a,b] t (0,0))):w.cell? ⟨g,0,none⟩=some a∧w.frozen? ⟨g,0,none⟩=false∧w.cell? ⟨g,1,none⟩=some b∧w.frozen? ⟨g,1,none⟩=false:=⟨cell0 h,free_of h 0,cell1 h,free_of h 1⟩
theorem hc3 {w:World} {g:Nat} {t:TypeId} {a b c:Value} (h:w.heap[g]?=some (.cells #[a,b,c] t (0,0))):w.cell? ⟨g,0,none⟩=some a∧w.frozen? ⟨g,0,none⟩=false∧w.cell? ⟨g,1,none⟩=some b∧w.frozen? ⟨g,1,none⟩=false∧w.cell? ⟨g,2,none⟩=some c∧w.frozen? ⟨g,2,none⟩=false:=⟨cell0 h,free_of h 0,cell1 h,free_of h 1,cell2 h,free_of h 2⟩
theorem hc4 {w:World} {g:Nat} {t:TypeId} {a b c d:Value} (h:w.heap[g]?=some (.cells #[a,b,c,d] t (0,0))):w.cell? ⟨g,0,none⟩=some a∧w.frozen? ⟨g,0,none⟩=false∧w.cell? ⟨g,1,none⟩=some b∧w.frozen? ⟨g,1,none⟩=false∧w.cell? ⟨g,2,none⟩=some c∧w.frozen? ⟨g,2,none⟩=false∧w.cell? ⟨g,3,none⟩=some d∧w.frozen? ⟨g,3,none⟩=false:=⟨cell0 h,free_of h 0,cell1 h,free_of h 1,cell2 h,free_of h 2,cell3 h,free_of h 3⟩
theorem hc5 {w:World} {g:Nat} {t:TypeId} {a b c d e:Value} (h:w.heap[g]?=some (.cells #[a,b,c,d,e] t (0,0))):w.cell? ⟨g,0,none⟩=some a∧w.frozen? ⟨g,0,none⟩=false∧w.cell? ⟨g,1,none⟩=some b∧w.frozen? ⟨g,1,none⟩=false∧w.cell? ⟨g,2,none⟩=some c∧w.frozen? ⟨g,2,none⟩=false∧w.cell? ⟨g,3,none⟩=some d∧w.frozen? ⟨g,3,none⟩=false∧w.cell? ⟨g,4,none⟩=some e∧w.frozen? ⟨g,4,none⟩=false:=⟨cell0 h,free_of h 0,cell1 h,free_of h 1,cell2 h,free_of h 2,cell3 h,free_of h 3,cell4 h,free_of h 4⟩
theorem sa (w:World) (o:Obj):(w.alloc o).heap.size=w.heap.size+1:=by simp
theorem ss (w:World) (a:Addr) (u:Value):(w.setCell a u).heap.size=w.heap.size:=by simp [World.setCell]
theorem sd (w:World):w.drew.heap.size=w.heap.size:=rfl
theorem sn (w:World) (n:Nat):(w.drewN n).heap.size=w.heap.size:=rfl
/- tactics that come again, named: the last argument is proved by the tactic -/
theorem z {p:Prop} (h:p:=by first|omega|(simp only [Hand.sa,Hand.ss,Hand.sd,Hand.sn];first|done|omega)):p:=h
theorem zt {p:Prop} (h:p:=by first|with_reducible assumption|(with_reducible first|exact Nat.ne_of_lt (by assumption)|exact Nat.ne_of_gt (by assumption)|exact Ne.symm (by assumption))|((fail_if_success (refine Hand.trip (by with_reducible rfl) ?_));first|omega|(simp only [Hand.sa,Hand.ss,Hand.sd,Hand.sn];first|done|with_reducible assumption|omega))):p:=h
theorem b {p:Prop} (h:p:=by repeat (with_reducible first|assumption|apply Below.refl|apply Below.drew|apply pw_below_drewN|(apply Below.setCell;rotate_left;(dsimp only;exact Hand.z))|(apply Below.alloc;rotate_left;exact Hand.z))):p:=h
theorem d {p:Prop} (h:p:=by dsimp only;omega):p:=h
theorem k {p:Prop} (h:p:=by simp (disch:=try exact Hand.z) only [Hand.q2,Hand.q1,Hand.q5,Hand.q6,Hand.q4,Hand.q3]<;>rfl):p:=h
theorem q {p:Prop} (h:p:=by first|assumption|(exact Hand.q3 _ _ _ rfl)|(simp (disch:=try exact Hand.z) only [Hand.q5,Hand.q4,Hand.q3];done)|(simp (disch:=try exact Hand.z) only [Hand.q5,Hand.q4];assumption)):p:=h
end Go.Proofs.Ythlpaglldhgmfaa.Hand
