/- Chapter 6: rows of ratios, of knots as they are read. -/
import Derived.Deep.Slices
import Derived.ChangeSame
import Derived.ProofKit
import Derived.OpenShut
import Derived.Test.YthlpaglldhgmfaaM9
set_option maxRecDepth 100000
namespace Go.Proofs.Ythlpaglldhgmfaa.PA
open Go Go.RowKit Go.ChangeShapes Go.WideShapes Go.Deep Go.Proofs.YthlpaglldhgmfaaW.PrintWords
set_option linter.unusedVariables false
section
variable {H:Type} {enc:TypeId × Value → H} {w:World} {base:Nat} {spare:Nat → Bool} {held:Bool}
theorem cells_R:Try.prog.cellsOf 31=2:=by kernel_rfl
theorem two_of {fuel:Nat} {cs:List Value} {x:DataW H × List MemPlace} (h:DataW.trod enc Try.prog w base spare held fuel 31 cs=some x) :
  ∃ r:Rt,cs=[.int .i64 r.1,.int .i64 r.2]∧R64 r:=by
 obtain ⟨xs,n,_,_,hc,hl,hf⟩:=DataW.trod_struct Try.underlying31 h
 rw [cells_R] at hc
 match cs,hc with
 | [c0,c1],_ =>
  have h0:=hf 0 _ rfl
  have h1:=hf 1 _ rfl
  match xs,hl with
  | [y0,y1],_ =>
   have e0:DataW.trod enc Try.prog w base spare held n 2 [c0]=some y0:=h0
   have e1:DataW.trod enc Try.prog w base spare held n 2 [c1]=some y1:=h1
   obtain ⟨a,ha,_,wa⟩:=DataW.trod_int Try.underlying2 e0
   obtain ⟨b,hb,_,wb⟩:=DataW.trod_int Try.underlying2 e1
   simp at ha hb
   subst ha hb
   have b1:=bounds_i64 wa
   have b2:=bounds_i64 wb
   exact ⟨(a,b),rfl,⟨b1.1,b1.2,b2.1,b2.2⟩⟩
theorem slice_T {A:Option Addr} {len cap:Nat} {d:DataW H} {p:List MemPlace} {t:TypeId} (ht:Try.prog.underlying t=some (.slice 31)) (h:DataW.Trod enc Try.prog w base spare held t (.slice A len cap) d p) :
  ∃ l:List Rt,l.length=len∧RtS w A l∧∀ r ∈ l,R64 r:=by
 obtain ⟨fuel,hf⟩:=h
 rcases open_slice ht hf with ⟨hcs,_⟩|⟨a,len',cap',m,n,D,Pl,hcs,hb,hl,hm,hmm,_,hi⟩
 ·simp [Value.cells] at hcs
  obtain ⟨rfl,rfl,rfl⟩:=hcs
  exact ⟨[],rfl,.inl rfl,fun r hr=>by simp at hr⟩
 ·simp [Value.cells] at hcs
  obtain ⟨rfl,rfl,rfl⟩:=hcs
  have hle:len≤m:=by rw [hmm];split<;>omega
  have key:∀ i,∃ r:Rt,i<len → (w.cell? (a.add (i*2))=some (.int .i64 r.1)∧w.cell? ((a.add (i*2)).add 1)=some (.int .i64 r.2))∧R64 r:=fun i=>by
   by_cases hil:i<len
   ·obtain ⟨cs',hc,htr⟩:=hi i (by omega)
    rw [cells_R] at hc
    obtain ⟨r,rfl,hx⟩:=two_of htr
    obtain ⟨_,_,hat⟩:=World.cells?_some hc
    exact ⟨r,fun _=>⟨⟨hat 0 (by decide),hat 1 (by decide)⟩,hx⟩⟩
   ·exact ⟨(0,0),fun h=>absurd h hil⟩
  obtain ⟨f,hf'⟩:=Classical.axiomOfChoice key
  refine ⟨(List.range len).map f,by simp,.inr ⟨a,rfl,fun j hj=>?_⟩,fun r hr=>?_⟩
  ·have hjl:j<len:=by simpa using hj
   simp only [List.getElem_map,List.getElem_range]
   exact (hf' j hjl).1
  ·simp only [List.mem_map,List.mem_range] at hr
   obtain ⟨j,hj,rfl⟩:=hr
   exact (hf' j hj).2
end
theorem wf_R64 {a b:Int} (h1:(Lit.int .i64 a).wf=true) (h2:(Lit.int .i64 b).wf=true):R64 (a,b):=by
 have b1:=bounds_i64 h1
 have b2:=bounds_i64 h2
 exact ⟨b1.1,b1.2,b2.1,b2.2⟩
end Go.Proofs.Ythlpaglldhgmfaa.PA
