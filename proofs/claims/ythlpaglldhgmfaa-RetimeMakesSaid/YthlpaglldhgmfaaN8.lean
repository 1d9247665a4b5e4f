/- Chapter 6: the law's like. Chapter 6: the law's made. Chapter 6: RetimeMaps. -/
import Derived.Test.YthlpaglldhgmfaaM9
import Derived.Test.YthlpaglldhgmfaaMB
import Derived.Test.YthlpaglldhgmfaaN4
import Derived.StillTailTactics
import Derived.Deep.RegionHeld3
import Derived.Test.YthlpaglldhgmfaaN7
import Derived.Test.YthlpaglldhgmfaaM8
set_option maxHeartbeats 4000000
set_option maxRecDepth 100000
namespace Go.Proofs.Ythlpaglldhgmfaa.PA
open Go Go.RowKit Go.Proofs.YthlpaglldhgmfaaW.PrintWords Go.Proofs.YthlpaglldhgmfaaW.PrintLast Go.Proofs.YthlpaglldhgmfaaW.PrintMore
attribute [local go_sem high] eqA31 eqA35
set_option linter.unusedSimpArgs false
set_option linter.unusedVariables false
noncomputable def likT1:Code:=sndC (Try.f35.body.getD .skip)
noncomputable def likT2:Code:=sndC likT1
noncomputable def likT3:Code:=sndC likT2
noncomputable def likT4:Code:=sndC likT3
noncomputable def likT5:Code:=sndC likT4
noncomputable def likT6:Code:=sndC likT5
noncomputable def likT7:Code:=sndC likT6
theorem likE1:likT1 = .seq (fstC likT1) likT2:=by kernel_rfl
theorem likE2:likT2 = .seq (fstC likT2) likT3:=by kernel_rfl
theorem likE3:likT3 = .seq (fstC likT3) likT4:=by kernel_rfl
theorem likE4:likT4 = .seq (fstC likT4) likT5:=by kernel_rfl
theorem likE5:likT5 = .seq (fstC likT5) likT6:=by kernel_rfl
theorem likE6:likT6 = .seq (fstC likT6) likT7:=by kernel_rfl
theorem likE0:Try.f35.body.getD .skip = .seq (fstC (Try.f35.body.getD .skip)) likT1:=by kernel_rfl
theorem lik_6 (w W:World) (ys:List Rt) {z0 z1 z2 z3 z4 z5 z6 z7 z8 z9 z10 z11 z12 z13 z14 z15 z17 z18 z20 z21 z22 z23 z24 z25 z26 z27 z28 z29 z30 z31 z32 z33 z34 z35 z36 z37 z38 z39 z40 z41 z42 z43 z44 z45 z46 z47 z48 z49 z50 z51 z52 z53 z54 z55 z56 z57 z58 z59 z60 z61 z62 z63 z64 z65 z66 z67 z68 z69 z70 z71 z72 z73 z74 z75 z76 z77 z78 z79 z80 z81 z82 z83 z84 z85 z86 z87 z88 z89 z90 z91 z92 z93 z94 z95 z96 z97 z98 z99 z100 z101 z102 z103 z104 z105 z106 z107 z108 z109 z110 z111 z112 z113 z114 z115 z116 z117 z118 z119 z120 z121 z122 z123 z124 z125 z126 z127 z128 z129 z130 z131 z132 z133 z134:Value} {Ay Az:Option Addr} {cy cz:Nat} (hy:RtS W Ay ys) (hz:RtS W Az ys) (hl:ys.length≤2000) (hB:Below w.heap.size w W) :
  likT6.wp Try.prog (bodyPost Try.prog Try.f35 (fun e w'=>e = .returned (.bool true)∧Below w.heap.size w w')) ⟨#[z0,z1,z2,z3,z4,z5,z6,z7,z8,z9,z10,z11,z12,z13,z14,z15,.slice Ay ys.length cy,z17,z18,.slice Az ys.length cz,z20,z21,z22,z23,z24,z25,z26,z27,z28,z29,z30,z31,z32,z33,z34,z35,z36,z37,z38,z39,z40,z41,z42,z43,z44,z45,z46,z47,z48,z49,z50,z51,z52,z53,z54,z55,z56,z57,z58,z59,z60,z61,z62,z63,z64,z65,z66,z67,z68,z69,z70,z71,z72,z73,z74,z75,z76,z77,z78,z79,z80,z81,z82,z83,z84,z85,z86,z87,z88,z89,z90,z91,z92,z93,z94,z95,z96,z97,z98,z99,z100,z101,z102,z103,z104,z105,z106,z107,z108,z109,z110,z111,z112,z113,z114,z115,z116,z117,z118,z119,z120,z121,z122,z123,z124,z125,z126,z127,z128,z129,z130,z131,z132,z133,z134],[]⟩ W:=by
 have HB:=Lib.hid hB
 have HY:=Lib.hid (rts_lt hy)
 have HZ:=Lib.hid (rts_lt hz)
 clear hB hy hz
 rcases HY.out with rfl|⟨ay,rfl,_,hya⟩
 ·rw [likE6]
  refine wp_seq_k (fun K6 hK6=>?_)
  have HK6:=Lib.hid hK6
  clear hK6
  conv=>arg 2;whnf
  go_wp2_with fail
  go_loopw [22] (fun i wr=>i = .int .i64 0∧W=wr) (fun _ _=>0)
  case atStart=>exact ⟨rfl,rfl⟩
  case round =>
   obtain ⟨rfl,rfl⟩:=hrel
   go_wp2
   refine HK6.out _ _ ?_
   conv=>arg 2;whnf
   go_wp2
   go_ret
   exact ⟨rfl,HB.out⟩
 ·rcases HZ.out with rfl|⟨az,rfl,_,hza⟩
  ·rw [likE6]
   refine wp_seq_k (fun K6 hK6=>?_)
   have HK6:=Lib.hid hK6
   clear hK6
   conv=>arg 2;whnf
   go_wp2_with fail
   go_loopw [22] (fun i wr=>i = .int .i64 0∧W=wr) (fun _ _=>0)
   case atStart=>exact ⟨rfl,rfl⟩
   case round =>
    obtain ⟨rfl,rfl⟩:=hrel
    go_wp2
    refine HK6.out _ _ ?_
    conv=>arg 2;whnf
    go_wp2
    go_ret
    exact ⟨rfl,HB.out⟩
  ·obtain ⟨n,hn⟩:∃ n,ys.length=n:=⟨_,rfl⟩
   rw [hn] at hl ⊢
   have HN:=Lib.hid hn
   have HYA:=Lib.hid hya
   have HZA:=Lib.hid hza
   clear hn hya hza
   rw [likE6]
   refine wp_seq_k (fun K6 hK6=>?_)
   have HK6:=Lib.hid hK6
   clear hK6
   conv=>arg 2;whnf
   go_wp2_with fail
   go_loopw [22] (fun i wr=>∃ j:Nat,j≤n∧i = .int .i64 (j:Int)∧Below W.heap.size W wr) (fun i _=>n - (intOf i).toNat)
   case atStart=>exact ⟨0,Nat.zero_le _,rfl,Below.refl _ _⟩
   case round =>
    obtain ⟨j,hj,rfl,hBr⟩:=hrel
    by_cases hjn:j<n
    ·have p1:((j:Int)<(n:Int))=True:=eq_true (by omega)
     have p6:(j<n)=True:=eq_true (by omega)
     have p5:(0:Int)≤(j:Int):=by omega
     have w2:IntKind.i64.wrap (j:Int)=(j:Int):=by rw [IntKind.wrap_i64];omega
     have hjl:j<ys.length:=by have:=HN.out;omega
     obtain ⟨c0,c1⟩:=(HYA.out.below hBr) j hjl
     obtain ⟨d0,d1⟩:=(HZA.out.below hBr) j hjl
     obtain ⟨⟨y1,y2⟩,hy⟩:∃ y,ys[j]=y:=⟨_,rfl⟩
     rw [hy] at c0 c1 d0 d1
     dsimp only at c0 c1 d0 d1
     clear hy
     go_wp2_with fail
     go_still_tail 8,(by kernel_rfl)
     change wpList _ _ _ _ _ wr.drew
     go_wp2_with fail
     go_roundw
     case rel=>exact ⟨j+1,by omega,by rw [Int.natCast_add];rfl,hBr.drew⟩
     case measure=>simp [intOf];omega
    ·have p1:((j:Int)<(n:Int))=False:=eq_false (by omega)
     go_wp2
     refine HK6.out _ _ ?_
     conv=>arg 2;whnf
     go_wp2
     go_ret
     exact ⟨rfl,HB.out.trans (Below.mono hBr HB.out.size)⟩
theorem lik_3 (w W:World) (m:MapV) (ts:List Rt) {z3 z4 z5 z6 z7 z8 z9 z10 z11 z12 z13 z14 z15 z16 z17 z18 z19 z20 z21 z22 z23 z24 z25 z26 z27 z28 z29 z30 z31 z32 z33 z34 z35 z36 z37 z38 z39 z40 z41 z42 z43 z44 z45 z46 z47 z48 z49 z50 z51 z52 z53 z54 z55 z56 z57 z58 z59 z60 z61 z62 z63 z64 z65 z66 z67 z68 z69 z70 z71 z72 z73 z74 z75 z76 z77 z78 z79 z80 z81 z82 z83 z84 z85 z86 z87 z88 z89 z90 z91 z92 z93 z94 z95 z96 z97 z98 z99 z100 z101 z102 z103 z104 z105 z106 z107 z108 z109 z110 z111 z112 z113 z114 z115 z116 z117 z118 z119 z120 z121 z122 z123 z124 z125 z126 z127 z128 z129 z130 z131 z132 z133 z134:Value} {A:Option Addr} {cap p q:Nat} {ak as_ bk bs:Addr} {ck cs dk ds:Nat} (hm:MapA W p ak as_ ck cs m) (hr:MapB W q bk bs dk ds m) (hok:MapOk m) (hls:m.knots.length=m.slopes.length+1) (hT:RtS W A ts) (hR:∀ t ∈ ts,R64 t) (hN:ts.length≤2000) (hB:Below w.heap.size w W) :
  likT3.wp Try.prog (bodyPost Try.prog Try.f35 (fun e w'=>e = .returned (.bool true)∧Below w.heap.size w w')) ⟨#[.pointer (some ⟨p,0,none⟩),.pointer (some ⟨q,0,none⟩),.slice A ts.length cap,z3,z4,z5,z6,z7,z8,z9,z10,z11,z12,z13,z14,z15,z16,z17,z18,z19,z20,z21,z22,z23,z24,z25,z26,z27,z28,z29,z30,z31,z32,z33,z34,z35,z36,z37,z38,z39,z40,z41,z42,z43,z44,z45,z46,z47,z48,z49,z50,z51,z52,z53,z54,z55,z56,z57,z58,z59,z60,z61,z62,z63,z64,z65,z66,z67,z68,z69,z70,z71,z72,z73,z74,z75,z76,z77,z78,z79,z80,z81,z82,z83,z84,z85,z86,z87,z88,z89,z90,z91,z92,z93,z94,z95,z96,z97,z98,z99,z100,z101,z102,z103,z104,z105,z106,z107,z108,z109,z110,z111,z112,z113,z114,z115,z116,z117,z118,z119,z120,z121,z122,z123,z124,z125,z126,z127,z128,z129,z130,z131,z132,z133,z134],[]⟩ W:=by
 have MA:=Lib.hid (all_any p ak as_ ck cs m A ts cap W hm hok hT hR hN)
 have MB:=Lib.hid (fun (u:World) (h:Below W.heap.size W u)=>qall_any q bk bs dk ds m A ts cap u (hr.below h) hok hls (hT.below h) hR hN)
 have hyl:(allS m ts).1.length≤2000:=by have:=allF_le m ts 0 [];unfold allS;simp only [List.length_nil,Nat.zero_add] at this;omega
 obtain ⟨⟨ys,ei,ef⟩,hal⟩:∃ x,allS m ts=x:=⟨_,rfl⟩
 rw [hal] at MA MB hyl
 dsimp only at MA MB hyl
 obtain ⟨n,hn⟩:∃ n,ts.length=n:=⟨_,rfl⟩
 rw [hn] at MA MB ⊢
 have HB:=Lib.hid hB
 clear hm hr hok hls hT hR hN hB hal hn
 have q1:(ei != ei)=false:=by simp
 have q2:(ef != ef)=false:=by simp
 rw [likE3]
 refine wp_seq_k (fun K3 hK3=>?_)
 have HK3:=Lib.hid hK3
 clear hK3
 conv=>arg 2;whnf
 go_wp2_with fail
 with_reducible refine (MA.out).mono ?_
 rintro e_ w1 ⟨vx,rfl,hox,hb1⟩
 obtain ⟨Ax,cx,rfl,_,hX,_⟩:=own_rts hox
 have HX:=Lib.hid hX
 have HB1:=Lib.hid hb1
 clear hox hX hb1
 go_wp2
 refine HK3.out _ _ ?_
 rw [likE4]
 refine wp_seq_k (fun K4 hK4=>?_)
 have HK4:=Lib.hid hK4
 clear hK4
 conv=>arg 2;whnf
 go_wp2_with fail
 with_reducible refine (MB.out _ HB1.out).mono ?_
 rintro e_ w2 ⟨vy,rfl,hoy,hb2⟩
 obtain ⟨Ay,cy,rfl,_,hY,_⟩:=own_rts hoy
 have HX2:=Lib.hid (HX.out.below hb2)
 have HY:=Lib.hid hY
 have HB2:=Lib.hid (Hand.stepB hb2 HB1.out (Nat.le_refl _))
 clear hoy hY hb2
 go_wp2
 refine HK4.out _ _ ?_
 rw [likE5]
 refine wp_seq_k (fun K5 hK5=>?_)
 have HK5:=Lib.hid hK5
 clear hK5
 conv=>arg 2;whnf
 obtain ⟨ny,hny⟩:∃ n,ys.length=n:=⟨_,rfl⟩
 rw [hny]
 have HNY:=Lib.hid hny
 have q3:((ny:Int) != (ny:Int))=false:=by simp
 clear hny
 go_wp2
 refine HK5.out _ _ ?_
 rw [← HNY.out]
 exact lik_6 w w2 ys HX2.out HY.out hyl (HB.out.trans (Below.mono HB2.out HB.out.size))
theorem lik_2 (w W:World) (m:MapV) (ts:List Rt) {z3 z4 z5 z6 z7 z8 z9 z10 z11 z12 z13 z14 z15 z16 z17 z18 z19 z20 z21 z22 z23 z24 z25 z26 z27 z28 z29 z30 z31 z32 z33 z34 z35 z36 z37 z38 z39 z40 z41 z42 z43 z44 z45 z46 z47 z48 z49 z50 z51 z52 z53 z54 z55 z56 z57 z58 z59 z60 z61 z62 z63 z64 z65 z66 z67 z68 z69 z70 z71 z72 z73 z74 z75 z76 z77 z78 z79 z80 z81 z82 z83 z84 z85 z86 z87 z88 z89 z90 z91 z92 z93 z94 z95 z96 z97 z98 z99 z100 z101 z102 z103 z104 z105 z106 z107 z108 z109 z110 z111 z112 z113 z114 z115 z116 z117 z118 z119 z120 z121 z122 z123 z124 z125 z126 z127 z128 z129 z130 z131 z132 z133 z134:Value} {A:Option Addr} {cap p q:Nat} {ak as_ bk bs:Addr} {ck cs dk ds:Nat} (hm:MapA W p ak as_ ck cs m) (hr:MapB W q bk bs dk ds m) (hok:MapOk m) (hls:m.knots.length=m.slopes.length+1) (hT:RtS W A ts) (hR:∀ t ∈ ts,R64 t) (hN:ts.length≤2000) (hB:Below w.heap.size w W) :
  likT2.wp Try.prog (bodyPost Try.prog Try.f35 (fun e w'=>e = .returned (.bool true)∧Below w.heap.size w w')) ⟨#[.pointer (some ⟨p,0,none⟩),.pointer (some ⟨q,0,none⟩),.slice A ts.length cap,z3,z4,z5,z6,z7,z8,z9,z10,z11,z12,z13,z14,z15,z16,z17,z18,z19,z20,z21,z22,z23,z24,z25,z26,z27,z28,z29,z30,z31,z32,z33,z34,z35,z36,z37,z38,z39,z40,z41,z42,z43,z44,z45,z46,z47,z48,z49,z50,z51,z52,z53,z54,z55,z56,z57,z58,z59,z60,z61,z62,z63,z64,z65,z66,z67,z68,z69,z70,z71,z72,z73,z74,z75,z76,z77,z78,z79,z80,z81,z82,z83,z84,z85,z86,z87,z88,z89,z90,z91,z92,z93,z94,z95,z96,z97,z98,z99,z100,z101,z102,z103,z104,z105,z106,z107,z108,z109,z110,z111,z112,z113,z114,z115,z116,z117,z118,z119,z120,z121,z122,z123,z124,z125,z126,z127,z128,z129,z130,z131,z132,z133,z134],[]⟩ W:=by
 rcases hT with rfl|⟨ad,rfl,hL⟩
 ·have H_hm:=Lib.hid hm
  have H_hr:=Lib.hid hr
  have H_hok:=Lib.hid hok
  have H_hls:=Lib.hid hls
  have H_hR:=Lib.hid hR
  have H_hN:=Lib.hid hN
  have H_hB:=Lib.hid hB
  clear hm hr hok hls hR hN hB
  rw [likE2]
  refine wp_seq_k (fun K2 hK2=>?_)
  have HK2:=Lib.hid hK2
  clear hK2
  conv=>arg 2;whnf
  go_wp2_with fail
  go_loopw [7] (fun i wr=>i = .int .i64 0∧W=wr) (fun _ _=>0)
  case atStart=>exact ⟨rfl,rfl⟩
  case round =>
   obtain ⟨rfl,rfl⟩:=hrel
   go_wp2
   refine HK2.out _ _ ?_
   exact lik_3 w W m [] H_hm.out H_hr.out H_hok.out H_hls.out (.inl rfl) H_hR.out H_hN.out H_hB.out
 ·have hNN:=hN
  have H_hm:=Lib.hid hm
  have H_hr:=Lib.hid hr
  have H_hok:=Lib.hid hok
  have H_hls:=Lib.hid hls
  have H_hR:=Lib.hid hR
  have H_hB:=Lib.hid hB
  clear hm hr hok hls hR hB
  have H_hL:=Lib.hid hL
  clear hL
  obtain ⟨n,hn⟩:∃ n,ts.length=n:=⟨_,rfl⟩
  rw [hn] at hN hNN ⊢
  have HN:=Lib.hid hn
  clear hn
  rw [likE2]
  refine wp_seq_k (fun K2 hK2=>?_)
  have HK2:=Lib.hid hK2
  clear hK2
  conv=>arg 2;whnf
  go_wp2_with fail
  go_loopw [7] (fun i wr=>∃ j:Nat,j≤n∧i = .int .i64 (j:Int)∧Below W.heap.size W wr) (fun i _=>n - (intOf i).toNat)
  case atStart=>exact ⟨0,Nat.zero_le _,rfl,Below.refl _ _⟩
  case round =>
   obtain ⟨j,hj,rfl,hBr⟩:=hrel
   have HBr:=Lib.hid hBr
   clear hBr
   by_cases hjn:j<n
   ·have p1:((j:Int)<(n:Int))=True:=eq_true (by omega)
    have p6:(j<n)=True:=eq_true (by omega)
    have p5:(0:Int)≤(j:Int):=by omega
    have w2:IntKind.i64.wrap (j:Int)=(j:Int):=by rw [IntKind.wrap_i64];omega
    have hjl:j<ts.length:=by have:=HN.out;omega
    have htR:=H_hR.out _ (List.getElem_mem hjl)
    obtain ⟨⟨t1,t2⟩,ht⟩:∃ t,ts[j]=t:=⟨_,rfl⟩
    have CT:=Lib.hid (fun (w_:World) (h:Below W.heap.size W w_)=>(by have r:=(H_hL.out.below h) j hjl;rw [ht] at r;exact r:w_.cell? (ad.add (j*2))=some (.int .i64 t1)∧w_.cell? ⟨(ad.add (j*2)).block,(ad.add (j*2)).off+1,none⟩=some (.int .i64 t2)))
    rw [ht] at htR
    clear ht
    obtain ⟨⟨⟨x1,x2⟩,ex⟩,hX⟩:∃ X,m.app (t1,t2)=X:=⟨_,rfl⟩
    obtain ⟨⟨⟨y1,y2⟩,ey⟩,hY⟩:∃ X,m.undo (t1,t2)=X:=⟨_,rfl⟩
    have M1:=Lib.hid (fun (u:World) (h:Below W.heap.size W u)=>(by have:=app_any p ak as_ ck cs m (t1,t2) u (H_hm.out.below h) H_hok.out htR;rw [hX] at this;exact this:Calls Try.prog 15 #[.pointer (some ⟨p,0,none⟩),.agg #[.int .i64 t1,.int .i64 t2]] u fun e w'=>e = .returned (.tuple #[.agg #[.int .i64 x1,.int .i64 x2],.int .i64 ex])∧Below u.heap.size u w'))
    have M2:=Lib.hid (fun (u:World) (h:Below W.heap.size W u)=>(by have:=qapp_any q bk bs dk ds m (t1,t2) u (H_hr.out.below h) H_hok.out H_hls.out;rw [hX] at this;exact this:Calls Try.prog 73 #[.pointer (some ⟨q,0,none⟩),.agg #[.int .i64 t1,.int .i64 t2]] u fun e w'=>e = .returned (.tuple #[.agg #[.int .i64 x1,.int .i64 x2],.int .i64 ex])∧Below u.heap.size u w'))
    have M3:=Lib.hid (fun (u:World) (h:Below W.heap.size W u)=>(by have:=undo_any p ak as_ ck cs m (t1,t2) u (H_hm.out.below h) H_hok.out htR;rw [hY] at this;exact this:Calls Try.prog 31 #[.pointer (some ⟨p,0,none⟩),.agg #[.int .i64 t1,.int .i64 t2]] u fun e w'=>e = .returned (.tuple #[.agg #[.int .i64 y1,.int .i64 y2],.int .i64 ey])∧Below u.heap.size u w'))
    have M4:=Lib.hid (fun (u:World) (h:Below W.heap.size W u)=>(by have:=qundo_any q bk bs dk ds m (t1,t2) u (H_hr.out.below h) H_hok.out H_hls.out;rw [hY] at this;exact this:Calls Try.prog 71 #[.pointer (some ⟨q,0,none⟩),.agg #[.int .i64 t1,.int .i64 t2]] u fun e w'=>e = .returned (.tuple #[.agg #[.int .i64 y1,.int .i64 y2],.int .i64 ey])∧Below u.heap.size u w'))
    clear hX hY htR
    have q1:(x1 == x1 && x2 == x2)=true:=by simp
    have q2:(y1 == y1 && y2 == y2)=true:=by simp
    have q3:(ex != ex)=false:=by simp
    have q4:(ey != ey)=false:=by simp
    obtain ⟨c10,c11⟩:=CT.out _ HBr.out
    go_wp2_with fail
    with_reducible refine (M1.out _ HBr.out).mono ?_
    rintro e_ w1 ⟨rfl,hb1⟩
    have B1:=Hand.stepB hb1 HBr.out (Nat.le_refl _)
    have C1:Below w1.heap.size w1 (w1.alloc (.cells #[.int .i64 x1,.int .i64 x2] 31)):=(Below.refl _ _).alloc (Nat.le_refl _) _
    have D1:Below W.heap.size W (w1.alloc (.cells #[.int .i64 x1,.int .i64 x2] 31)):=Hand.stepB C1 B1 (Nat.le_refl _)
    have g1:(w1.alloc (.cells #[.int .i64 x1,.int .i64 x2] 31)).heap[w1.heap.size]?=some (.cells #[.int .i64 x1,.int .i64 x2] 31 (0,0)):=Hand.q3 _ _ _ rfl
    clear c10 c11
    obtain ⟨c20,c21⟩:=CT.out _ D1
    go_wp2_with fail
    with_reducible refine (M2.out _ D1).mono ?_
    rintro e_ w2 ⟨rfl,hb2⟩
    have B2:=Hand.stepB hb2 D1 (Nat.le_refl _)
    have C2:Below w2.heap.size w2 (w2.alloc (.cells #[.int .i64 x1,.int .i64 x2] 31)):=(Below.refl _ _).alloc (Nat.le_refl _) _
    have D2:Below W.heap.size W (w2.alloc (.cells #[.int .i64 x1,.int .i64 x2] 31)):=Hand.stepB C2 B2 (Nat.le_refl _)
    have g2:(w2.alloc (.cells #[.int .i64 x1,.int .i64 x2] 31)).heap[w2.heap.size]?=some (.cells #[.int .i64 x1,.int .i64 x2] 31 (0,0)):=Hand.q3 _ _ _ rfl
    have g1:=Hand.kb C2 (Hand.kb hb2 g1)
    clear c20 c21
    obtain ⟨c30,c31⟩:=CT.out _ D2
    go_wp2_with fail
    with_reducible refine (M3.out _ D2).mono ?_
    rintro e_ w3 ⟨rfl,hb3⟩
    have B3:=Hand.stepB hb3 D2 (Nat.le_refl _)
    have C3:Below w3.heap.size w3 (w3.alloc (.cells #[.int .i64 y1,.int .i64 y2] 31)):=(Below.refl _ _).alloc (Nat.le_refl _) _
    have D3:Below W.heap.size W (w3.alloc (.cells #[.int .i64 y1,.int .i64 y2] 31)):=Hand.stepB C3 B3 (Nat.le_refl _)
    have g3:(w3.alloc (.cells #[.int .i64 y1,.int .i64 y2] 31)).heap[w3.heap.size]?=some (.cells #[.int .i64 y1,.int .i64 y2] 31 (0,0)):=Hand.q3 _ _ _ rfl
    have g1:=Hand.kb C3 (Hand.kb hb3 g1)
    have g2:=Hand.kb C3 (Hand.kb hb3 g2)
    clear c30 c31
    obtain ⟨c40,c41⟩:=CT.out _ D3
    go_wp2_with fail
    with_reducible refine (M4.out _ D3).mono ?_
    rintro e_ w4 ⟨rfl,hb4⟩
    have B4:=Hand.stepB hb4 D3 (Nat.le_refl _)
    have C4:Below w4.heap.size w4 (w4.alloc (.cells #[.int .i64 y1,.int .i64 y2] 31)):=(Below.refl _ _).alloc (Nat.le_refl _) _
    have D4:Below W.heap.size W (w4.alloc (.cells #[.int .i64 y1,.int .i64 y2] 31)):=Hand.stepB C4 B4 (Nat.le_refl _)
    have g4:(w4.alloc (.cells #[.int .i64 y1,.int .i64 y2] 31)).heap[w4.heap.size]?=some (.cells #[.int .i64 y1,.int .i64 y2] 31 (0,0)):=Hand.q3 _ _ _ rfl
    have g1:=Hand.kb C4 (Hand.kb hb4 g1)
    have g2:=Hand.kb C4 (Hand.kb hb4 g2)
    have g3:=Hand.kb C4 (Hand.kb hb4 g3)
    clear c40 c41
    obtain ⟨a10,fa10,a11,fa11⟩:=Hand.hc2 g1
    obtain ⟨a20,fa20,a21,fa21⟩:=Hand.hc2 g2
    obtain ⟨a30,fa30,a31,fa31⟩:=Hand.hc2 g3
    obtain ⟨a40,fa40,a41,fa41⟩:=Hand.hc2 g4
    go_wp2_with fail
    go_roundw
    case rel=>exact ⟨j+1,by omega,by rw [Int.natCast_add];rfl,D4⟩
    case measure=>simp [intOf];omega
   ·have p1:((j:Int)<(n:Int))=False:=eq_false (by omega)
    go_wp2_with fail
    refine HK2.out _ _ ?_
    rw [← HN.out]
    exact lik_3 w wr m ts (H_hm.out.below HBr.out) (H_hr.out.below HBr.out) H_hok.out H_hls.out (.inr ⟨_,rfl,H_hL.out.below HBr.out⟩) H_hR.out (by rw [HN.out];exact hN) (H_hB.out.trans (Below.mono HBr.out H_hB.out.size))
theorem like_any (w:World) (m:MapV) (ts:List Rt) {A:Option Addr} {cap p q:Nat} {ak as_ bk bs:Addr} {ck cs dk ds:Nat} (hm:MapA w p ak as_ ck cs m) (hr:MapB w q bk bs dk ds m) (hok:MapOk m) (hls:m.knots.length=m.slopes.length+1) (hT:RtS w A ts) (hR:∀ t ∈ ts,R64 t) (hN:ts.length≤2000) :
  Calls Try.prog 35 #[.pointer (some ⟨p,0,none⟩),.pointer (some ⟨q,0,none⟩),.slice A ts.length cap] w fun e w'=>e = .returned (.bool true)∧Below w.heap.size w w':=by
 have hnk:=hok.k1
 have MK:=Lib.hid (fun (u:World) (h:Below w.heap.size w u)=>knots_any p ak as_ ck cs m u (hm.below h) hok.k0 hok.k1)
 have ML:=Lib.hid (fun (u:World) (a:Addr) (c:Nat) (h:Below w.heap.size w u) (h1:KnA u a m.knots)=>lknots_some a bk m.knots m.knots.length c dk u rfl h1 (hr.kn.below h) (by omega))
 obtain ⟨b0,fb0,b1,fb1⟩:=Hand.hc2 hr.blk
 have hqz:=(Hand.hz hr.blk).1
 have H_hm:=Lib.hid hm
 have H_hr:=Lib.hid hr
 have H_hok:=Lib.hid hok
 have H_hls:=Lib.hid hls
 have H_hT:=Lib.hid hT
 have H_hR:=Lib.hid hR
 have H_hN:=Lib.hid hN
 clear hm hr hok hls hT hR hN
 obtain ⟨nk,hk⟩:∃ n,m.knots.length=n:=⟨_,rfl⟩
 rw [hk] at MK ML b0
 clear hk
 obtain ⟨n,hn⟩:∃ n,ts.length=n:=⟨_,rfl⟩
 rw [hn]
 have HN:=Lib.hid hn
 clear hn
 have HC:=Lib.hid (fun (w_:World) (h:Below w.heap.size w w_)=>(⟨h,(h.cell hqz).trans b0⟩:Below w.heap.size w w_∧w_.cell? ⟨q,0,none⟩=some (.slice (some bk) nk dk)))
 have BR:Below w.heap.size w w:=Below.refl _ _
 clear b0 fb0 b1 fb1
 go_enter Try.func35,Try.ntmps35
 refine Eq.mpr (congrArg (fun c=>Code.wp Try.prog c _ _ _) likE0) ?_
 refine wp_seq_k (fun K0 hK0=>?_)
 have HK0:=Lib.hid hK0
 clear hK0
 conv=>arg 2;whnf
 go_wp2_with fail
 refine HK0.out _ _ ?_
 rw [likE1]
 refine wp_seq_k (fun K1 hK1=>?_)
 have HK1:=Lib.hid hK1
 clear hK1
 conv=>arg 2;whnf
 go_wp2_with fail
 go_region_held3 (fun w_=>Below w.heap.size w w_∧w_.cell? ⟨q,0,none⟩=some (.slice (some bk) nk dk)) (first|(refine HC.out _ ?_;repeat (with_reducible first|assumption|apply Below.drew|refine Below.alloc ?_ Hand.z _))) (first|(go_at_call 16;((with_reducible refine (MK.out _ (by repeat (with_reducible first|assumption|apply Below.drew|refine Below.alloc ?_ Hand.z _))).mono ?_);rintro e_ w4 ⟨gk,ck_,rfl,ho,hb4⟩;have BB:Below w.heap.size w w4:=Hand.stepB hb4 (by repeat (with_reducible first|assumption|apply Below.drew|refine Below.alloc ?_ Hand.z _)) (Nat.le_refl _);have HKG:=Lib.hid (own_kna ho);clear ho))|(go_at_call 19;((with_reducible refine (ML.out _ _ _ (by repeat (with_reducible first|assumption|apply Below.drew|refine Below.alloc ?_ Hand.z _)) (by first|exact HKG.out|exact HKG.out.below (by repeat (with_reducible first|exact Below.refl _ _|apply Below.drew)))).mono ?_);rintro e_ w5 ⟨rfl,hb5⟩;have BC:Below w.heap.size w w5:=Hand.stepB hb5 (by repeat (with_reducible first|assumption|apply Below.drew|refine Below.alloc ?_ Hand.z _)) (Nat.le_refl _))))
 all_goals (go_wp2;refine HK1.out _ _ ?_;rw [← HN.out])
 all_goals (have HBC:=Lib.hid (show Below w.heap.size w _ by first|exact BC|exact BC.drew))
 all_goals (exact lik_2 w _ m ts (H_hm.out.below HBC.out) (H_hr.out.below HBC.out) H_hok.out H_hls.out (H_hT.out.below HBC.out) H_hR.out H_hN.out HBC.out)
theorem made_nil (e:Int) (A:Option Addr) (n cap:Nat) (w:World) :
  Calls Try.prog 21 #[.pointer none,.int .i64 e,.pointer none,.int .i64 e,.slice A n cap] w fun r w'=>r = .returned (.bool true)∧Below w.heap.size w w':=by
 have q1:(e != e)=false:=by simp
 go_enter Try.func21,Try.ntmps21
 go_wp2
 go_ret
 exact ⟨rfl,Below.refl _ _⟩
theorem made_some (e:Int) (m:MapV) (ts:List Rt) {A:Option Addr} {cap p q:Nat} {ak as_ bk bs:Addr} {ck cs dk ds:Nat} (w:World) (hm:MapA w p ak as_ ck cs m) (hr:MapB w q bk bs dk ds m) (hok:MapOk m) (hls:m.knots.length=m.slopes.length+1) (hT:RtS w A ts) (hR:∀ t ∈ ts,R64 t) (hN:ts.length≤2000) :
  Calls Try.prog 21 #[.pointer (some ⟨p,0,none⟩),.int .i64 e,.pointer (some ⟨q,0,none⟩),.int .i64 e,.slice A ts.length cap] w fun r w'=>r = .returned (.bool true)∧Below w.heap.size w w':=by
 have ML:=Lib.hid (like_any w m ts (A:=A) (cap:=cap) hm hr hok hls hT hR hN)
 obtain ⟨n,hn⟩:∃ n,ts.length=n:=⟨_,rfl⟩
 rw [hn] at ML ⊢
 clear hm hr hok hls hT hR hN hn
 have q1:(e != e)=false:=by simp
 go_enter Try.func21,Try.ntmps21
 go_wp2_with fail
 with_reducible refine (ML.out).mono ?_
 rintro e_ w1 ⟨rfl,hb1⟩
 go_wp2
 go_ret
 exact ⟨rfl,hb1⟩
theorem MapB.wide {w:World} {q:Nat} {bk bs:Addr} {dk ds:Nat} {m:MapV} (h:MapB w q bk bs dk ds ⟨m.knots,m.slopes,0⟩):MapB w q bk bs dk ds m:=⟨h.blk,h.kn,h.sl⟩
theorem MapQ.lens {l:List Kn} {m:MapV} (h:MapQ l m):m.knots.length=m.slopes.length+1:=by
 obtain ⟨p,q,L,o1,o2,o3,o4⟩:=h.own
 omega
noncomputable def mapT1:Code:=sndC (Try.f5.body.getD .skip)
noncomputable def mapT2:Code:=sndC mapT1
noncomputable def mapT3:Code:=sndC mapT2
noncomputable def mapT4:Code:=sndC mapT3
noncomputable def mapT5:Code:=sndC mapT4
noncomputable def mapT6:Code:=sndC mapT5
end Go.Proofs.Ythlpaglldhgmfaa.PA
