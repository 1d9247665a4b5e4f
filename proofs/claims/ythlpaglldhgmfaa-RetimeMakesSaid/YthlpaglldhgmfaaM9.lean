/- Chapter 6: Knots and All told. Chapter 6: the law's known answers, whatever the world. -/
import Derived.Test.YthlpaglldhgmfaaM6
import Derived.Deep.AppendLies
import Derived.OwnWalk
import Derived.Test.YthlpaglldhgmfaaM8
import Derived.Deep.RegionHeld3
set_option maxHeartbeats 4000000
set_option maxRecDepth 100000
namespace Go.Proofs.Ythlpaglldhgmfaa.PA
open Go Go.RowKit Go.Proofs.YthlpaglldhgmfaaW.PrintWords Go.Proofs.YthlpaglldhgmfaaW.PrintLast Go.Proofs.YthlpaglldhgmfaaW.PrintMore
set_option linter.unusedSimpArgs false
set_option linter.unusedVariables false
theorem knots_any (p:Nat) (ak as_:Addr) (ck cs:Nat) (m:MapV) (w:World) (hm:MapA w p ak as_ ck cs m) (h0:0<m.knots.length) (h1:m.knots.length≤66) :
  Calls Try.prog 16 #[.pointer (some ⟨p,0,none⟩)] w fun e w'=>∃ g c,e = .returned (.slice (some ⟨g,0,none⟩) m.knots.length c)∧w'.ownsRow w.heap.size 35 4 (.slice (some ⟨g,0,none⟩) m.knots.length c) m.knots.length (flatK m.knots)∧Below w.heap.size w w':=by
 have M:=Lib.hid (fun (u:World) (h:Below w.heap.size w u)=>cloneK ak m.knots.length ck (flatK m.knots) u h0 (by omega) (flatK_len _) (kna_flat (hm.kn.below h)) (flatK_one _))
 obtain ⟨c0,f0,c1,f1,c2,f2⟩:=Hand.hc3 hm.blk
 obtain ⟨n,hn⟩:∃ n,m.knots.length=n:=⟨_,rfl⟩
 rw [hn] at c0 M ⊢
 clear hn
 go_enter Try.func16,Try.ntmps16
 go_wp2_with fail
 with_reducible refine (M.out _ (Below.refl _ _)).mono ?_
 rintro e w1 ⟨g,c,rfl,hown,hb1⟩
 go_wp2
 go_ret
 exact ⟨_,_,rfl,hown,hb1⟩
def RtS (w:World) (A:Option Addr) (l:List Rt):Prop:=l=[] ∨ ∃ ad,A=some ad∧RtA w ad l
theorem RtS.below {w w':World} {A:Option Addr} {l:List Rt} (h:RtS w A l) (hb:Below w.heap.size w w'):RtS w' A l:=by
 rcases h with h|⟨ad,h1,h2⟩
 ·exact .inl h
 ·exact .inr ⟨ad,h1,h2.below hb⟩
def allF (m:MapV):List Rt → Nat → List Rt → List Rt × Int × Int
 | [],_,acc=>(acc,0,0)
 | t :: l,i,acc=>if (m.app t).2≠0 then ([],(i:Int),(m.app t).2) else allF m l (i+1) (acc ++ [(m.app t).1])
def allS (m:MapV) (l:List Rt):List Rt × Int × Int:=allF m l 0 []
theorem app_R (m:MapV) (ho:MapOk m) (t:Rt) (ht:R64 t):R64 (m.app t).1:=by
 unfold MapV.app
 split
 ·unfold alongS;exact do_R add_R _ _ _
 ·exact R64_0
theorem allF_le (m:MapV):∀ (l:List Rt) (i:Nat) (acc:List Rt),(allF m l i acc).1.length≤acc.length+l.length:=by
 intro l
 induction l with
 | nil=>intro i acc;exact Nat.le_refl _
 | cons t l ih =>
  intro i acc
  simp only [allF]
  split
  ·simp
  ·have:=ih (i+1) (acc ++ [(m.app t).1]);simp at this ⊢;omega
theorem all_none (p:Nat) (A:Option Addr) (cap:Nat) (m:MapV) (w:World) :
  Calls Try.prog 22 #[.pointer (some ⟨p,0,none⟩),.slice A 0 cap] w fun e w'=>∃ v,e = .returned (.tuple #[v,.int .i64 (allS m []).2.1,.int .i64 (allS m []).2.2])∧w'.ownsRow w.heap.size 31 2 v (allS m []).1.length (flatT (allS m []).1)∧Below w.heap.size w w':=by
 have hr:w.ownsRow w.heap.size 31 2 (.slice none 0 0) 0 []:=World.ownsRow_nil _ _ _ _
 go_enter Try.func22,Try.ntmps22
 go_wp2_with fail
 go_loopw [7,14] (fun v i wr=>v = .slice none 0 0∧i = .int .i64 0∧w=wr) (fun _ _ _=>0)
 case atStart=>exact ⟨rfl,rfl,rfl⟩
 case round =>
  obtain ⟨rfl,rfl,rfl⟩:=hrel
  go_wp2
  go_ret3
  exact ⟨_,rfl,hr,Below.refl _ _⟩
theorem all_some (p:Nat) (ak as_:Addr) (ck cs:Nat) (m:MapV) (ad:Addr) (l:List Rt) (n cap:Nat) (w:World) (hn:n=l.length) (hm:MapA w p ak as_ ck cs m) (ho:MapOk m) (hL:RtA w ad l) (hR:∀ t ∈ l,R64 t) (hN:n≤2000) :
  Calls Try.prog 22 #[.pointer (some ⟨p,0,none⟩),.slice (some ad) n cap] w fun e w'=>∃ v,e = .returned (.tuple #[v,.int .i64 (allS m l).2.1,.int .i64 (allS m l).2.2])∧w'.ownsRow w.heap.size 31 2 v (allS m l).1.length (flatT (allS m l).1)∧Below w.heap.size w w':=by
 have HM:=Lib.hid hm
 have HO:=Lib.hid ho
 have HL:=Lib.hid hL
 have HR:=Lib.hid hR
 have HN:=Lib.hid hn
 clear hm ho hL hR hn
 go_enter Try.func22,Try.ntmps22
 go_wp2_with fail
 go_loopw [7,14] (fun v i wr=>∃ (j:Nat) (xs:List Rt),j≤n∧i = .int .i64 (j:Int)∧allS m l=allF m (l.drop j) j xs∧xs.length=j∧wr.ownsRow w.heap.size 31 2 v j (flatT xs)∧Below w.heap.size w wr) (fun _ i _=>n - (intOf i).toNat)
 case atStart=>exact ⟨0,[],Nat.zero_le _,rfl,rfl,rfl,World.ownsRow_nil _ _ _ _,Below.refl _ _⟩
 case round =>
  obtain ⟨j,xs,hj,rfl,hall,hxl,hown,hB⟩:=hrel
  have HA:=Lib.hid hall
  have HXL:=Lib.hid hxl
  have HOWN:=Lib.hid hown
  clear hall hxl hown
  by_cases hjn:j<n
  ·have p1:((j:Int)<(n:Int))=True:=eq_true (by omega)
   have p5:(0:Int)≤(j:Int):=by omega
   have p6:(j<n)=True:=eq_true (by omega)
   have w2:IntKind.i64.wrap (j:Int)=(j:Int):=by rw [IntKind.wrap_i64];omega
   have hjl:j<l.length:=by have:=HN.out;omega
   obtain ⟨c0,c1⟩:=(HL.out.below hB) j hjl
   have hr:=HR.out _ (List.getElem_mem hjl)
   have hdrop:l.drop j=l[j] :: l.drop (j+1):=List.drop_eq_getElem_cons hjl
   obtain ⟨⟨t1,t2⟩,ht⟩:∃ t,l[j]=t:=⟨_,rfl⟩
   rw [ht] at c0 c1 hr hdrop
   dsimp only at c0 c1
   have MA:=Lib.hid (fun (u:World) (h:Below w.heap.size w u)=>app_any p ak as_ ck cs m (t1,t2) u (HM.out.below h) HO.out hr)
   have hxr:=app_R m HO.out (t1,t2) hr
   have HA2:=Lib.hid (show allS m l=allF m ((t1,t2) :: l.drop (j+1)) j xs from by rw [HA.out,hdrop])
   simp only [allF] at HA2
   obtain ⟨⟨⟨x1,x2⟩,er⟩,hx⟩:∃ x,m.app (t1,t2)=x:=⟨_,rfl⟩
   rw [hx] at MA HA2 hxr
   dsimp only [rv] at MA HA2
   clear ht hr hdrop hx
   go_wp2_with fail
   with_reducible refine (MA.out _ (hB.alloc hB.size _)).mono ?_
   rintro e w1 ⟨rfl,hb1⟩
   have hB1:Below w.heap.size w w1:=Hand.stepB hb1 (hB.alloc hB.size _) (Nat.le_refl _)
   by_cases he:er=0
   ·have j0:(er != 0)=false:=by simpa using he
    have j1:(er == 0)=true:=by simpa using he
    have HBB:=Lib.hid (hB1.alloc hB1.size (.cells #[.int .i64 x1,.int .i64 x2] 31))
    have HOW2:∀ u,Below wr.heap.size wr u → u.ownsRow w.heap.size 31 2 _ j (flatT xs):=fun u hu=>own_below HOWN.out hu
    have HO2:=Lib.hid HOW2
    clear HOW2
    have hbr:=Lib.hid (Hand.stepB hb1 ((Below.refl _ wr).alloc (Nat.le_refl _) _) (Nat.le_refl _))
    go_wp2_with (at_builtin;refine wpList_append_lies _ rfl _ _ 23 rfl w.heap.size 31 _ (.agg #[.int .i64 0,.int .i64 0]) 2 16 Try.underlying23 rfl rfl rfl rfl rfl (by decide) _ j _ rfl (HO2.out _ ((hbr.out.alloc hbr.out.size _).alloc (by have:=hbr.out.size;simp only [World.size_alloc];omega) _)) ⟨w1.heap.size+1,0,none⟩ 1 1 [.int .i64 x1,.int .i64 x2] rfl rfl (World.news_of_block (Hand.q3 _ _ _ (by simp))) (by intro u hu;simp at hu;rcases hu with rfl|rfl<;>rfl) (by decide) (by unfold maxLen;omega) (by omega) (by simp only [World.size_alloc];have:=HBB.out.size;simp only [World.size_alloc] at this;omega) _ rfl ?_)
    intro g2 cap2 w2 hown hgrow hat hlt
    have hB2:Below w.heap.size w w2:=(HBB.out.alloc HBB.out.size _).grown hgrow (by have:=HBB.out.size;simp only [World.size_alloc] at this ⊢;omega) (fun k hk=>(HOWN.out.lt k hk).1)
    go_wp2
    go_roundw
    case rel=>exact ⟨j+1,xs ++ [(x1,x2)],by omega,by rw [Int.natCast_add];rfl,by rw [HA2.out,if_neg (by simp [he])],by simp [HXL.out],by rw [flatT_snoc];exact hown,hB2⟩
    case measure=>simp [intOf];omega
   ·have j0:(er != 0)=true:=by simpa using he
    go_wp2
    go_ret3
    rw [HA2.out,if_pos he]
    exact ⟨_,rfl,World.ownsRow_nil _ _ _ _,hB1.alloc hB1.size _⟩
  ·have p1:((j:Int)<(n:Int))=False:=eq_false (by omega)
   have hjn2:j=n:=by omega
   have HE:=Lib.hid (show allS m l=(xs,0,0) from by rw [HA.out,List.drop_eq_nil_of_le (by have:=HN.out;omega)];rfl)
   go_wp2
   go_ret3
   rw [HE.out]
   refine ⟨_,rfl,?_,hB⟩
   rw [HXL.out]
   exact HOWN.out
theorem all_any (p:Nat) (ak as_:Addr) (ck cs:Nat) (m:MapV) (A:Option Addr) (l:List Rt) (cap:Nat) (w:World) (hm:MapA w p ak as_ ck cs m) (ho:MapOk m) (hL:RtS w A l) (hR:∀ t ∈ l,R64 t) (hN:l.length≤2000) :
  Calls Try.prog 22 #[.pointer (some ⟨p,0,none⟩),.slice A l.length cap] w fun e w'=>∃ v,e = .returned (.tuple #[v,.int .i64 (allS m l).2.1,.int .i64 (allS m l).2.2])∧w'.ownsRow w.heap.size 31 2 v (allS m l).1.length (flatT (allS m l).1)∧Below w.heap.size w w':=by
 rcases hL with rfl|⟨ad,rfl,hL⟩
 ·exact all_none p A cap m w
 ·exact all_some p ak as_ ck cs m ad l l.length cap w rfl hm ho hL hR hN
end Go.Proofs.Ythlpaglldhgmfaa.PA
namespace Go.Proofs.Ythlpaglldhgmfaa.PA
open Go Go.RowKit Go.Proofs.YthlpaglldhgmfaaW.PrintWords Go.Proofs.YthlpaglldhgmfaaW.PrintLast Go.Proofs.YthlpaglldhgmfaaW.PrintMore
attribute [local go_sem high] eqA31
set_option linter.unusedSimpArgs false
set_option linter.unusedVariables false
def kL:List Kn:=[((0,1),(0,1)),((10,1),(10,1)),((20,1),(40,1))]
def mK:MapV:=⟨[((9,1),(9,1)),((10,1),(10,1)),((11,1),(13,1))],[(1,1),(3,1)],1⟩
theorem newK_kL:newK kL=(some mK,0):=by kernel_rfl
theorem app_mK:mK.app (12,1)=((16,1),0):=by kernel_rfl
theorem undo_mK:mK.undo (16,1)=((12,1),0):=by kernel_rfl
theorem kL_R:KnR kL:=by
 intro k hk
 simp only [kL,List.mem_cons,List.not_mem_nil,or_false] at hk
 rcases hk with rfl|rfl|rfl<;>exact ⟨⟨by decide,by decide,by decide,by decide⟩,⟨by decide,by decide,by decide,by decide⟩⟩
theorem mK_ok:MapOk mK where
 kr:=by
  intro k hk
  simp only [mK,List.mem_cons,List.not_mem_nil,or_false] at hk
  rcases hk with rfl|rfl|rfl<;>exact ⟨⟨by decide,by decide,by decide,by decide⟩,⟨by decide,by decide,by decide,by decide⟩⟩
 kq:=by
  intro k hk
  simp only [mK,List.mem_cons,List.not_mem_nil,or_false] at hk
  rcases hk with rfl|rfl|rfl<;>exact ⟨by kernel_rfl,by kernel_rfl⟩
 k0:=by decide
 k1:=by decide
 s0:=by decide
 s1:=by decide
 sr:=by
  intro k hk
  simp only [mK,List.mem_cons,List.not_mem_nil,or_false] at hk
  rcases hk with rfl|rfl<;>exact ⟨by decide,by decide,by decide,by decide⟩
theorem lwhole_any (n:Int) (w:World):Calls Try.prog 23 #[.int .i64 n] w fun e w'=>e = .returned (rv (n,1))∧Below w.heap.size w w':=by
 go_enter Try.func23,Try.ntmps23
 go_wp2
 refine bodyPost_ret (results_cell_row rfl _ _ (w.heap.size) 31 #[.int .i64 n,.int .i64 1] (0,0) _ rfl (Hand.q3 _ _ _ (by simp)) Try.underlying31 rfl (by kernel_rfl)) rfl ⟨rfl,?_⟩
 exact (Below.refl _ _).alloc (Nat.le_refl _) _
theorem known6_any (w:World):Calls Try.prog 12 #[] w fun e w'=>e = .returned (.bool true)∧Below w.heap.size w w':=by
 have MW:=Lib.hid (fun n u=>lwhole_any n u)
 have N1:=Lib.hid (fun (u:World) (ad:Addr) (h:KnA u ad kL)=>(by have:=newm_any u kL (some ad) 3 (.inr ⟨_,rfl,h⟩) kL_R;rw [newK_kL] at this;exact this:Calls Try.prog 13 #[.slice (some ad) 3 3] u (NewQ u (some mK,0))))
 have N2:=Lib.hid (show ∀ u:World,Calls Try.prog 13 #[.slice none 0 0] u (NewQ u (none,1)) from fun (u:World)=>newm_any u [] none 0 (.inl rfl) (by intro k h;cases h))
 go_enter Try.func12,Try.ntmps12
 go_wp2_with fail
 with_reducible refine (MW.out 0 _).mono ?_
 rintro e w1 ⟨rfl,hb1⟩
 go_wp2_with fail
 with_reducible refine (MW.out 0 _).mono ?_
 rintro e w2 ⟨rfl,hb2⟩
 go_wp2_with fail
 with_reducible refine (MW.out 10 _).mono ?_
 rintro e w3 ⟨rfl,hb3⟩
 go_wp2_with fail
 with_reducible refine (MW.out 10 _).mono ?_
 rintro e w4 ⟨rfl,hb4⟩
 go_wp2_with fail
 with_reducible refine (MW.out 20 _).mono ?_
 rintro e w5 ⟨rfl,hb5⟩
 go_wp2_with fail
 with_reducible refine (MW.out 40 _).mono ?_
 rintro e w6 ⟨rfl,hb6⟩
 have hB6:Below w.heap.size w w6:=((((hb1.trans (Below.mono hb2 hb1.size)).trans (Below.mono hb3 (Nat.le_trans hb1.size hb2.size))).trans (Below.mono hb4 (by have:=hb1.size;have:=hb2.size;have:=hb3.size;omega))).trans (Below.mono hb5 (by have:=hb1.size;have:=hb2.size;have:=hb3.size;have:=hb4.size;omega))).trans (Below.mono hb6 (by have:=hb1.size;have:=hb2.size;have:=hb3.size;have:=hb4.size;have:=hb5.size;omega))
 clear hb1 hb2 hb3 hb4 hb5 hb6
 go_wp2_with fail
 have KN:KnA (w6.alloc (.cells #[.int .i64 0,.int .i64 1,.int .i64 0,.int .i64 1,.int .i64 10,.int .i64 1,.int .i64 10,.int .i64 1,.int .i64 20,.int .i64 1,.int .i64 40,.int .i64 1] 35)) ⟨w6.heap.size,0,none⟩ kL:=own_kna (base:=0) (e:=35) (n:=3) (cap:=3) ⟨rfl,.inr ⟨_,_,_,rfl,Nat.zero_le _,Hand.q3 _ _ _ rfl,by decide,by decide,rfl,rfl⟩⟩
 with_reducible refine (N1.out _ _ KN).mono ?_
 rintro e w7 ⟨v,rfl,⟨p,ak,as_,ck,cs,rfl,hM,hp1,hp2,hp3⟩,hb7⟩
 have hB7:Below w.heap.size w w7:=Hand.stepB hb7 (hB6.alloc hB6.size _) (Nat.le_refl _)
 clear hb7 hB6 hp1 hp2 hp3
 go_wp2_with fail
 with_reducible refine (N2.out _).mono ?_
 rintro e w8 ⟨v,rfl,hv,hb8⟩
 have hv:v = .pointer none:=hv
 subst hv
 have hM8:=hM.below hb8
 have hB8:Below w.heap.size w w8:=Hand.stepB hb8 hB7 (Nat.le_refl _)
 clear hb8 hB7 hM
 go_wp2_with fail
 with_reducible refine (MW.out 12 _).mono ?_
 rintro e w9 ⟨rfl,hb9⟩
 have hM9:=hM8.below hb9
 have hB9:Below w.heap.size w w9:=Hand.stepB hb9 hB8 (Nat.le_refl _)
 have MA:=Lib.hid (by have:=app_any p ak as_ ck cs mK (12,1) w9 hM9 mK_ok ⟨by decide,by decide,by decide,by decide⟩;rw [app_mK] at this;exact this:Calls Try.prog 15 #[.pointer (some ⟨p,0,none⟩),.agg #[.int .i64 12,.int .i64 1]] w9 fun e w'=>e = .returned (.tuple #[.agg #[.int .i64 16,.int .i64 1],.int .i64 0])∧Below w9.heap.size w9 w')
 clear hb9 hB8 hM8
 go_wp2_with fail
 with_reducible refine (MA.out).mono ?_
 rintro e w10 ⟨rfl,hb10⟩
 have hM10:=hM9.below hb10
 have hB10:Below w.heap.size w w10:=Hand.stepB hb10 hB9 (Nat.le_refl _)
 clear hb10 hB9 hM9
 go_wp2_with fail
 with_reducible refine (MW.out 16 _).mono ?_
 rintro e w11 ⟨rfl,hb11⟩
 have hsz10:w10.heap.size<w11.heap.size:=by have:=hb11.size;simp only [World.size_alloc] at this;omega
 have gA:w11.heap[w10.heap.size]?=some (.cells #[.int .i64 16,.int .i64 1] 31 (0,0)):=Hand.kb hb11 (Hand.q3 _ _ _ rfl)
 have hM11:=(hM10.below ((Below.refl _ _).alloc (Nat.le_refl _) _)).below hb11
 have hB11:Below w.heap.size w w11:=Hand.stepB hb11 (hB10.alloc hB10.size _) (Nat.le_refl _)
 have MU:=Lib.hid (by have:=undo_any p ak as_ ck cs mK (16,1) w11 hM11 mK_ok ⟨by decide,by decide,by decide,by decide⟩;rw [undo_mK] at this;exact this:Calls Try.prog 31 #[.pointer (some ⟨p,0,none⟩),.agg #[.int .i64 16,.int .i64 1]] w11 fun e w'=>e = .returned (.tuple #[.agg #[.int .i64 12,.int .i64 1],.int .i64 0])∧Below w11.heap.size w11 w')
 clear hb11 hB10 hM10
 go_wp2_with fail
 with_reducible refine (MU.out).mono ?_
 rintro e w12 ⟨rfl,hb12⟩
 have hM12:=hM11.below hb12
 have gA12:=Hand.kb hb12 gA
 have hB12:Below w.heap.size w w12:=Hand.stepB hb12 hB11 (Nat.le_refl _)
 have hsz12:w10.heap.size<w12.heap.size:=by have:=hb12.size;omega
 clear hb12 hB11 hM11 gA
 obtain ⟨V,hV⟩:∃ V_,V_=w12.alloc (.cells #[.int .i64 12,.int .i64 1] 31):=⟨_,rfl⟩
 have gB:V.heap[w12.heap.size]?=some (.cells #[.int .i64 12,.int .i64 1] 31 (0,0)):=by rw [hV];exact Hand.q3 _ _ _ rfl
 have hBV:Below w12.heap.size w12 V:=by rw [hV];exact (Below.refl _ _).alloc (Nat.le_refl _) _
 have gAV:=Hand.kb hBV gA12
 have hMV:=hM12.below hBV
 have hBB:Below w.heap.size w V:=Hand.stepB hBV hB12 (Nat.le_refl _)
 obtain ⟨a0,fa0,a1,fa1⟩:=Hand.hc2 gAV
 obtain ⟨b0,fb0,b1,fb1⟩:=Hand.hc2 gB
 have MK:=Lib.hid (show ∀ u:World,Below V.heap.size V u → Calls Try.prog 16 #[.pointer (some ⟨p,0,none⟩)] u fun e w'=>∃ g c,e = .returned (.slice (some ⟨g,0,none⟩) 3 c)∧w'.ownsRow u.heap.size 35 4 (.slice (some ⟨g,0,none⟩) 3 c) 3 (flatK mK.knots)∧Below u.heap.size u w' from fun u hu=>knots_any p ak as_ ck cs mK u (hMV.below hu) (by decide) (by decide))
 have HBB:=Lib.hid hBB
 have z1:w10.heap.size<V.heap.size:=(Hand.hz gAV).1
 have z2:w12.heap.size<V.heap.size:=(Hand.hz gB).1
 have HC:=Lib.hid (fun (w_:World) (h:Below V.heap.size V w_)=>(by exact ⟨h,(h.cell z1).trans a0,(h.cell z1).trans a1,(h.cell z2).trans b0,(h.cell z2).trans b1⟩:Below V.heap.size V w_∧w_.cell? ⟨w10.heap.size,0,none⟩=some (.int .i64 16)∧w_.cell? ⟨w10.heap.size,1,none⟩=some (.int .i64 1)∧w_.cell? ⟨w12.heap.size,0,none⟩=some (.int .i64 12)∧w_.cell? ⟨w12.heap.size,1,none⟩=some (.int .i64 1)))
 clear hBB gAV gB hBV hM12 hB12 gA12 hMV
 have BR:Below V.heap.size V V:=Below.refl _ _
 go_wp2_with fail
 rw [← hV]
 clear hV
 go_region_held3 (fun w_=>Below V.heap.size V w_∧w_.cell? ⟨w10.heap.size,0,none⟩=some (.int .i64 16)∧w_.cell? ⟨w10.heap.size,1,none⟩=some (.int .i64 1)∧w_.cell? ⟨w12.heap.size,0,none⟩=some (.int .i64 12)∧w_.cell? ⟨w12.heap.size,1,none⟩=some (.int .i64 1)) (first|(refine HC.out _ ?_;repeat (with_reducible first|assumption|apply Below.drew))) (first|(go_at_call 23;((with_reducible refine (MW.out _ _).mono ?_);rintro e w13 ⟨rfl,hb13⟩;have BB:Below V.heap.size V w13:=Hand.stepB hb13 (by repeat (with_reducible first|assumption|apply Below.drew)) (Nat.le_refl _)))|(go_at_call 16;((with_reducible refine (MK.out _ (by repeat (with_reducible first|assumption|apply Below.drew))).mono ?_);rintro e w15 ⟨gg,cc,rfl,ho15,hb15⟩;have BB:Below V.heap.size V w15:=Hand.stepB hb15 (by repeat (with_reducible first|assumption|apply Below.drew)) (Nat.le_refl _))))
 all_goals (go_wp2;go_ret;exact ⟨rfl,HBB.out.trans (Below.mono BB HBB.out.size)⟩)
end Go.Proofs.Ythlpaglldhgmfaa.PA
