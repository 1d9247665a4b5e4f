/- Chapter 6: the reference's ratio operations by hand. Chapter 6: the reference's ratio operations by hand. Chapter 6: the reference's ratio operations by hand. -/
import Derived.Test.YthlpaglldhgmfaaN1
import Derived.Deep.RegionHeld3
import Derived.Test.YthlpaglldhgmfaaM4
set_option maxHeartbeats 4000000
set_option maxRecDepth 100000
namespace Go.Proofs.Ythlpaglldhgmfaa.PA
open Go Go.RowKit Go.Proofs.YthlpaglldhgmfaaW.PrintWords Go.Proofs.YthlpaglldhgmfaaW.PrintLast Go.Proofs.YthlpaglldhgmfaaW.PrintMore Go.Proofs.Ythlpaglldhgmfaa.PR
set_option linter.unusedSimpArgs false
set_option linter.unusedVariables false
theorem plus_hi1 {x y:Nat} (h:x+y<340282366920938463463374607431768211456) (hl:IntKind.u64.wrap (loN x+loN y)<loN x):IntKind.u64.wrap (IntKind.u64.wrap (hiN x+hiN y)+1)=hiN (x+y):=by
 unfold hiN loN at *
 rw [U64.wrap_u64] at hl
 rw [U64.wrap_u64,U64.wrap_u64];omega
theorem plus_hi0 {x y:Nat} (h:x+y<340282366920938463463374607431768211456) (hl:¬ IntKind.u64.wrap (loN x+loN y)<loN x):IntKind.u64.wrap (hiN x+hiN y)=hiN (x+y):=by
 unfold hiN loN at *
 rw [U64.wrap_u64] at hl
 rw [U64.wrap_u64];omega
theorem plus_lo {x y:Nat}:IntKind.u64.wrap (loN x+loN y)=loN (x+y):=by unfold loN;rw [U64.wrap_u64];omega
theorem plus_same (n:Bool) (x y:Nat) (w:World) (h:x+y<340282366920938463463374607431768211456) :
  Calls Try.prog 93 #[.agg #[.bool n,.int .u64 (hiN x),.int .u64 (loN x)],.agg #[.bool n,.int .u64 (hiN y),.int .u64 (loN y)]] w fun e w'=>e = .returned (.agg #[.bool (n && decide (x+y≠0)),.int .u64 (hiN (x+y)),.int .u64 (loN (x+y))])∧Below w.heap.size w w':=by
 have M1:=Lib.hid (fun (u:World)=>(surtitleref3_right.calls n (hiN (x+y)) (loN (x+y)) _ _ _ u (rightW n (x+y)):Calls Try.prog 100 #[.agg #[.bool n,.int .u64 (hiN (x+y)),.int .u64 (loN (x+y))]] u fun e w'=>e = .returned (.agg #[.bool (n && decide (x+y≠0)),.int .u64 (hiN (x+y)),.int .u64 (loN (x+y))])∧Below u.heap.size u w'))
 obtain ⟨r,hr⟩:∃ r,(n && decide (x+y≠0))=r:=⟨_,rfl⟩;rw [hr] at M1 ⊢;clear hr
 have j0:(n == n)=true:=by simp
 have e1:IntKind.u64.wrap (loN x+loN y)=loN (x+y):=plus_lo
 go_enter Try.func93,Try.ntmps93
 refine wp_seq_k (fun K0 hK0=>?_)
 have HK0:=Lib.hid hK0
 clear hK0
 conv=>arg 2;whnf
 go_wp2
 refine HK0.out _ _ ?_
 obtain ⟨V,hV⟩:∃ V_,V_=(((w.alloc (.cells #[Value.bool n,Value.int .u64 (hiN x),Value.int .u64 (loN x)] 126)).alloc (.cells #[Value.bool n,Value.int .u64 (hiN y),Value.int .u64 (loN y)] 126)).alloc (.cells #[Value.bool false,Value.int .u64 0,Value.int .u64 0] 126)):=⟨_,rfl⟩
 rw [← hV]
 have g_A:V.heap[w.heap.size]?=some (.cells #[Value.bool n,Value.int .u64 (hiN x),Value.int .u64 (loN x)] 126 (0,0)):=by rw [hV];simp (disch:=try exact Hand.z) only [Hand.q4,Hand.q3]
 have g_B:V.heap[w.heap.size+1]?=some (.cells #[Value.bool n,Value.int .u64 (hiN y),Value.int .u64 (loN y)] 126 (0,0)):=by rw [hV];simp (disch:=try exact Hand.z) only [Hand.q4,Hand.q3]
 have g_R:V.heap[w.heap.size+1+1]?=some (.cells #[Value.bool false,Value.int .u64 0,Value.int .u64 0] 126 (0,0)):=by rw [hV];simp (disch:=try exact Hand.z) only [Hand.q4,Hand.q3]
 have HB:Below w.heap.size w V:=by rw [hV];exact Below.alloc (Below.alloc (Below.alloc (Below.refl _ _) Hand.z _) Hand.z _) Hand.z _
 clear hV
 obtain ⟨cA0,_,cA1,_,cA2,_⟩:=Hand.hc3 g_A
 obtain ⟨cB0,_,cB1,_,cB2,_⟩:=Hand.hc3 g_B
 obtain ⟨cR0,_,cR1,_,cR2,_⟩:=Hand.hc3 g_R
 obtain ⟨z_A,_⟩:=Hand.hz g_A
 obtain ⟨z_B,_⟩:=Hand.hz g_B
 obtain ⟨z_R,_⟩:=Hand.hz g_R
 conv=>arg 2;whnf
 by_cases hl:IntKind.u64.wrap (loN x+loN y)<loN x
 case' pos=>have e2:=plus_hi1 h hl;rw [e1] at hl;have p1:(loN (x+y)<loN x)=True:=eq_true hl;clear hl;go_wp2_with fail
 case' neg=>have e2:=plus_hi0 h hl;rw [e1] at hl;have p1:(loN (x+y)<loN x)=False:=eq_false hl;clear hl;go_wp2_with fail
 all_goals ((with_reducible refine (M1.out _).mono ?_);(rintro e_ w1 ⟨rfl,hb1⟩);(have g_A:=Hand.kb hb1 g_A);(have g_B:=Hand.kb hb1 g_B);(have g_R:=Hand.kb hb1 g_R);(have HB:=Hand.stepB hb1 HB (Nat.le_refl _));(obtain ⟨cA0,_,cA1,_,cA2,_⟩:=Hand.hc3 g_A);(obtain ⟨cB0,_,cB1,_,cB2,_⟩:=Hand.hc3 g_B);(obtain ⟨cR0,_,cR1,_,cR2,_⟩:=Hand.hc3 g_R);(obtain ⟨z_A,_⟩:=Hand.hz g_A);(obtain ⟨z_B,_⟩:=Hand.hz g_B);(obtain ⟨z_R,_⟩:=Hand.hz g_R);(go_wp2);(refine bodyPost_ret (results_cell_row rfl _ _ (w.heap.size+1+1) 126 #[.bool r,.int .u64 (hiN (x+y)),.int .u64 (loN (x+y))] (0,0) _ rfl ?_ Try.underlying126 rfl (by kernel_rfl)) rfl ⟨rfl,?_⟩))
 all_goals (first|(simp (disch:=try exact Hand.z) only [Hand.q5,Hand.q1,Hand.q2,g_R];rfl)|(repeat (with_reducible first|assumption|apply Below.drew|refine Below.setCell ?_ Hand.d _|refine Below.alloc ?_ Hand.z _)))
theorem plus_down (n m:Bool) (x y:Nat) (w:World) (hn:(n == m)=false) (h:y≤x) (hx:x<340282366920938463463374607431768211456) :
  Calls Try.prog 93 #[.agg #[.bool n,.int .u64 (hiN x),.int .u64 (loN x)],.agg #[.bool m,.int .u64 (hiN y),.int .u64 (loN y)]] w fun e w'=>e = .returned (.agg #[.bool (n && decide (x - y≠0)),.int .u64 (hiN (x - y)),.int .u64 (loN (x - y))])∧Below w.heap.size w w':=by
 have M1:=Lib.hid (fun (u:World)=>(surtitleref3_right.calls n (hiN (x - y)) (loN (x - y)) _ _ _ u (rightW n (x - y)):Calls Try.prog 100 #[.agg #[.bool n,.int .u64 (hiN (x - y)),.int .u64 (loN (x - y))]] u fun e w'=>e = .returned (.agg #[.bool (n && decide (x - y≠0)),.int .u64 (hiN (x - y)),.int .u64 (loN (x - y))])∧Below u.heap.size u w'))
 obtain ⟨r,hr⟩:∃ r,(n && decide (x - y≠0))=r:=⟨_,rfl⟩;rw [hr] at M1 ⊢;clear hr
 have M2:=Lib.hid (fun (u:World)=>(surtitleref3_above.calls m (hiN y) (loN y) n (hiN x) (loN x) false u (by rw [above_any];congr 1;rw [decide_eq_false_iff_not];omega):Calls Try.prog 115 #[.agg #[.bool m,.int .u64 (hiN y),.int .u64 (loN y)],.agg #[.bool n,.int .u64 (hiN x),.int .u64 (loN x)]] u fun e w'=>e = .returned (.bool false)∧Below u.heap.size u w'))
 have e1:IntKind.u64.wrap (loN x - loN y)=loN (x - y):=sub_lo h
 go_enter Try.func93,Try.ntmps93
 refine wp_seq_k (fun K0 hK0=>?_)
 have HK0:=Lib.hid hK0
 clear hK0
 conv=>arg 2;whnf
 go_wp2
 refine HK0.out _ _ ?_
 obtain ⟨V,hV⟩:∃ V_,V_=(((w.alloc (.cells #[Value.bool n,Value.int .u64 (hiN x),Value.int .u64 (loN x)] 126)).alloc (.cells #[Value.bool m,Value.int .u64 (hiN y),Value.int .u64 (loN y)] 126)).alloc (.cells #[Value.bool false,Value.int .u64 0,Value.int .u64 0] 126)):=⟨_,rfl⟩
 rw [← hV]
 have g_A:V.heap[w.heap.size]?=some (.cells #[Value.bool n,Value.int .u64 (hiN x),Value.int .u64 (loN x)] 126 (0,0)):=by rw [hV];simp (disch:=try exact Hand.z) only [Hand.q4,Hand.q3]
 have g_B:V.heap[w.heap.size+1]?=some (.cells #[Value.bool m,Value.int .u64 (hiN y),Value.int .u64 (loN y)] 126 (0,0)):=by rw [hV];simp (disch:=try exact Hand.z) only [Hand.q4,Hand.q3]
 have g_R:V.heap[w.heap.size+1+1]?=some (.cells #[Value.bool false,Value.int .u64 0,Value.int .u64 0] 126 (0,0)):=by rw [hV];simp (disch:=try exact Hand.z) only [Hand.q4,Hand.q3]
 have HB:Below w.heap.size w V:=by rw [hV];exact Below.alloc (Below.alloc (Below.alloc (Below.refl _ _) Hand.z _) Hand.z _) Hand.z _
 clear hV
 obtain ⟨cA0,_,cA1,_,cA2,_⟩:=Hand.hc3 g_A
 obtain ⟨cB0,_,cB1,_,cB2,_⟩:=Hand.hc3 g_B
 obtain ⟨cR0,_,cR1,_,cR2,_⟩:=Hand.hc3 g_R
 obtain ⟨z_A,_⟩:=Hand.hz g_A
 obtain ⟨z_B,_⟩:=Hand.hz g_B
 obtain ⟨z_R,_⟩:=Hand.hz g_R
 conv=>arg 2;whnf
 go_wp2_with fail
 with_reducible refine (M2.out _).mono ?_
 rintro e_ w1 ⟨rfl,hb1⟩
 have g_A:=Hand.kb hb1 g_A
 have g_B:=Hand.kb hb1 g_B
 have g_R:=Hand.kb hb1 g_R
 have HB:=Hand.stepB hb1 HB (Nat.le_refl _)
 obtain ⟨cA0,_,cA1,_,cA2,_⟩:=Hand.hc3 g_A
 obtain ⟨cB0,_,cB1,_,cB2,_⟩:=Hand.hc3 g_B
 obtain ⟨cR0,_,cR1,_,cR2,_⟩:=Hand.hc3 g_R
 obtain ⟨z_A,_⟩:=Hand.hz g_A
 obtain ⟨z_B,_⟩:=Hand.hz g_B
 obtain ⟨z_R,_⟩:=Hand.hz g_R
 clear hb1
 by_cases hl:loN x<loN y
 case' pos=>have e2:=sub_hi1 h hx hl;have p1:(loN x<loN y)=True:=eq_true hl;clear hl;go_wp2_with fail
 case' neg=>have e2:=sub_hi0 h hx hl;have p1:(loN x<loN y)=False:=eq_false hl;clear hl;go_wp2_with fail
 all_goals ((with_reducible refine (M1.out _).mono ?_);(rintro e_ w2 ⟨rfl,hb2⟩);(have g_A:=Hand.kb hb2 g_A);(have g_B:=Hand.kb hb2 g_B);(have g_R:=Hand.kb hb2 g_R);(have HB:=Hand.stepB hb2 HB (Nat.le_refl _));(obtain ⟨cA0,_,cA1,_,cA2,_⟩:=Hand.hc3 g_A);(obtain ⟨cB0,_,cB1,_,cB2,_⟩:=Hand.hc3 g_B);(obtain ⟨cR0,_,cR1,_,cR2,_⟩:=Hand.hc3 g_R);(obtain ⟨z_A,_⟩:=Hand.hz g_A);(obtain ⟨z_B,_⟩:=Hand.hz g_B);(obtain ⟨z_R,_⟩:=Hand.hz g_R);(go_wp2);(refine bodyPost_ret (results_cell_row rfl _ _ (w.heap.size+1+1) 126 #[.bool r,.int .u64 (hiN (x - y)),.int .u64 (loN (x - y))] (0,0) _ rfl ?_ Try.underlying126 rfl (by kernel_rfl)) rfl ⟨rfl,?_⟩))
 all_goals (first|(simp (disch:=try exact Hand.z) only [Hand.q5,Hand.q1,Hand.q2,g_R];rfl)|(repeat (with_reducible first|assumption|apply Below.drew|refine Below.setCell ?_ Hand.d _|refine Below.alloc ?_ Hand.z _)))
theorem plus_up (n m:Bool) (x y:Nat) (w:World) (hn:(n == m)=false) (h:x<y) (hy:y<340282366920938463463374607431768211456) :
  Calls Try.prog 93 #[.agg #[.bool n,.int .u64 (hiN x),.int .u64 (loN x)],.agg #[.bool m,.int .u64 (hiN y),.int .u64 (loN y)]] w fun e w'=>e = .returned (.agg #[.bool (m && decide (y - x≠0)),.int .u64 (hiN (y - x)),.int .u64 (loN (y - x))])∧Below w.heap.size w w':=by
 have M1:=Lib.hid (fun (u:World)=>plus_down m n y x u (by rw [Bool.beq_comm];exact hn) (by omega) hy)
 obtain ⟨r,hr⟩:∃ r,(m && decide (y - x≠0))=r:=⟨_,rfl⟩;rw [hr] at M1 ⊢;clear hr
 have M2:=Lib.hid (fun (u:World)=>(surtitleref3_above.calls m (hiN y) (loN y) n (hiN x) (loN x) true u (by rw [above_any];congr 1;rw [decide_eq_true_iff];omega):Calls Try.prog 115 #[.agg #[.bool m,.int .u64 (hiN y),.int .u64 (loN y)],.agg #[.bool n,.int .u64 (hiN x),.int .u64 (loN x)]] u fun e w'=>e = .returned (.bool true)∧Below u.heap.size u w'))
 go_enter Try.func93,Try.ntmps93
 refine wp_seq_k (fun K0 hK0=>?_)
 have HK0:=Lib.hid hK0
 clear hK0
 conv=>arg 2;whnf
 go_wp2
 refine HK0.out _ _ ?_
 obtain ⟨V,hV⟩:∃ V_,V_=(((w.alloc (.cells #[Value.bool n,Value.int .u64 (hiN x),Value.int .u64 (loN x)] 126)).alloc (.cells #[Value.bool m,Value.int .u64 (hiN y),Value.int .u64 (loN y)] 126)).alloc (.cells #[Value.bool false,Value.int .u64 0,Value.int .u64 0] 126)):=⟨_,rfl⟩
 rw [← hV]
 have g_A:V.heap[w.heap.size]?=some (.cells #[Value.bool n,Value.int .u64 (hiN x),Value.int .u64 (loN x)] 126 (0,0)):=by rw [hV];simp (disch:=try exact Hand.z) only [Hand.q4,Hand.q3]
 have g_B:V.heap[w.heap.size+1]?=some (.cells #[Value.bool m,Value.int .u64 (hiN y),Value.int .u64 (loN y)] 126 (0,0)):=by rw [hV];simp (disch:=try exact Hand.z) only [Hand.q4,Hand.q3]
 have g_R:V.heap[w.heap.size+1+1]?=some (.cells #[Value.bool false,Value.int .u64 0,Value.int .u64 0] 126 (0,0)):=by rw [hV];simp (disch:=try exact Hand.z) only [Hand.q4,Hand.q3]
 have HB:Below w.heap.size w V:=by rw [hV];exact Below.alloc (Below.alloc (Below.alloc (Below.refl _ _) Hand.z _) Hand.z _) Hand.z _
 clear hV
 obtain ⟨cA0,_,cA1,_,cA2,_⟩:=Hand.hc3 g_A
 obtain ⟨cB0,_,cB1,_,cB2,_⟩:=Hand.hc3 g_B
 obtain ⟨cR0,_,cR1,_,cR2,_⟩:=Hand.hc3 g_R
 obtain ⟨z_A,_⟩:=Hand.hz g_A
 obtain ⟨z_B,_⟩:=Hand.hz g_B
 obtain ⟨z_R,_⟩:=Hand.hz g_R
 conv=>arg 2;whnf
 go_wp2_with fail
 with_reducible refine (M2.out _).mono ?_
 rintro e_ w1 ⟨rfl,hb1⟩
 have g_A:=Hand.kb hb1 g_A
 have g_B:=Hand.kb hb1 g_B
 have g_R:=Hand.kb hb1 g_R
 have HB:=Hand.stepB hb1 HB (Nat.le_refl _)
 obtain ⟨cA0,_,cA1,_,cA2,_⟩:=Hand.hc3 g_A
 obtain ⟨cB0,_,cB1,_,cB2,_⟩:=Hand.hc3 g_B
 obtain ⟨cR0,_,cR1,_,cR2,_⟩:=Hand.hc3 g_R
 obtain ⟨z_A,_⟩:=Hand.hz g_A
 obtain ⟨z_B,_⟩:=Hand.hz g_B
 obtain ⟨z_R,_⟩:=Hand.hz g_R
 clear hb1
 go_wp2_with fail
 with_reducible refine (M1.out _).mono ?_
 rintro e_ w2 ⟨rfl,hb2⟩
 have g_A:=Hand.kb hb2 g_A
 have g_B:=Hand.kb hb2 g_B
 have g_R:=Hand.kb hb2 g_R
 have HB:=Hand.stepB hb2 HB (Nat.le_refl _)
 obtain ⟨cA0,_,cA1,_,cA2,_⟩:=Hand.hc3 g_A
 obtain ⟨cB0,_,cB1,_,cB2,_⟩:=Hand.hc3 g_B
 obtain ⟨cR0,_,cR1,_,cR2,_⟩:=Hand.hc3 g_R
 obtain ⟨z_A,_⟩:=Hand.hz g_A
 obtain ⟨z_B,_⟩:=Hand.hz g_B
 obtain ⟨z_R,_⟩:=Hand.hz g_R
 go_wp2
 refine bodyPost_ret (results_cell_row rfl _ _ (w.heap.size+1+1) 126 #[.bool r,.int .u64 (hiN (y - x)),.int .u64 (loN (y - x))] (0,0) _ rfl ?_ Try.underlying126 rfl (by kernel_rfl)) rfl ⟨rfl,?_⟩
 ·simp (disch:=try exact Hand.z) only [Hand.q5,Hand.q1,Hand.q2,g_R];rfl
 ·repeat (with_reducible first|assumption|apply Below.drew|refine Below.setCell ?_ Hand.d _|refine Below.alloc ?_ Hand.z _)
theorem qplus (x y:Int) (w:World) (h:x.natAbs+y.natAbs<340282366920938463463374607431768211456):Calls Try.prog 93 #[.agg #[.bool (wI (x)).1,.int .u64 (wI (x)).2.1,.int .u64 (wI (x)).2.2],.agg #[.bool (wI (y)).1,.int .u64 (wI (y)).2.1,.int .u64 (wI (y)).2.2]] w fun e w'=>e = .returned (.agg #[.bool (wI (x+y)).1,.int .u64 (wI (x+y)).2.1,.int .u64 (wI (x+y)).2.2])∧Below w.heap.size w w':=by
 unfold wI
 dsimp only
 by_cases hx:x<0<;>by_cases hy:y<0
 ·have e:decide (x+y<0)=(true && decide (x.natAbs+y.natAbs≠0)):=by rw [Bool.true_and,decide_eq_decide];omega
  rw [decide_eq_true hx,decide_eq_true hy,show (x+y).natAbs=x.natAbs+y.natAbs by omega,e]
  exact plus_same true _ _ w h
 ·rw [decide_eq_true hx,decide_eq_false hy]
  by_cases hl:y.natAbs≤x.natAbs
  ·have e:decide (x+y<0)=(true && decide (x.natAbs - y.natAbs≠0)):=by rw [Bool.true_and,decide_eq_decide];omega
   rw [show (x+y).natAbs=x.natAbs - y.natAbs by omega,e]
   exact plus_down _ _ _ _ w rfl hl (by omega)
  ·have e:decide (x+y<0)=(false && decide (y.natAbs - x.natAbs≠0)):=by rw [Bool.false_and,decide_eq_false_iff_not];omega
   rw [show (x+y).natAbs=y.natAbs - x.natAbs by omega,e]
   exact plus_up _ _ _ _ w rfl (by omega) (by omega)
 ·rw [decide_eq_false hx,decide_eq_true hy]
  by_cases hl:y.natAbs≤x.natAbs
  ·have e:decide (x+y<0)=(false && decide (x.natAbs - y.natAbs≠0)):=by rw [Bool.false_and,decide_eq_false_iff_not];omega
   rw [show (x+y).natAbs=x.natAbs - y.natAbs by omega,e]
   exact plus_down _ _ _ _ w rfl hl (by omega)
  ·have e:decide (x+y<0)=(true && decide (y.natAbs - x.natAbs≠0)):=by rw [Bool.true_and,decide_eq_decide];omega
   rw [show (x+y).natAbs=y.natAbs - x.natAbs by omega,e]
   exact plus_up _ _ _ _ w rfl (by omega) (by omega)
 ·have e:decide (x+y<0)=(false && decide (x.natAbs+y.natAbs≠0)):=by rw [Bool.false_and,decide_eq_false_iff_not];omega
  rw [decide_eq_false hx,decide_eq_false hy,show (x+y).natAbs=x.natAbs+y.natAbs by omega,e]
  exact plus_same false _ _ w h
theorem fitS_val {s t:Bool} {n m d e:Nat} (hd:0<d) (he:d=e) (h:(if s=true then -(n:Int) else n)=(if t=true then -(m:Int) else m)):fitS s n d=fitS t m e:=by
 subst he
 rw [fitS_T3 _ _ _ hd,fitS_T3 _ _ _ hd,h]
theorem low_mul {a b c d:Int} (h:(rightS a b && rightS c d)=true):surtitleref3_lowest.f (wI (a*c)).1 (wI (a*c)).2.1 (wI (a*c)).2.2 (wI (b*d)).1 (wI (b*d)).2.1 (wI (b*d)).2.2=some (mulS a b c d):=by
 have h0:=h
 rw [Bool.and_eq_true] at h
 obtain ⟨b1,b2,b3,_⟩:=right_bounds h.1
 obtain ⟨d1,d2,d3,_⟩:=right_bounds h.2
 have m1:(a*c).natAbs≤21267647932558653966460912964485513216:=by rw [Int.natAbs_mul];exact Nat.mul_le_mul b3 d3
 have m3:(b*d).natAbs≤4611686018427387904:=by rw [Int.natAbs_mul];exact Nat.mul_le_mul (show b.natAbs≤2147483648 by omega) (show d.natAbs≤2147483648 by omega)
 have m4:0<b*d:=Int.mul_pos (by omega) (by omega)
 have e:wI (b*d)=(false,hiN (b*d).natAbs,loN (b*d).natAbs):=by unfold wI;rw [decide_eq_false (by omega)]
 rw [e]
 dsimp only
 rw [lowest_f _ _ (by omega) (by omega) (by omega)]
 unfold mulS
 rw [if_pos h0]
 exact congrArg some (fitS_val (by omega) (Int.natAbs_mul b d) (by rw [sgn_mul];exact sgn_abs _))
theorem low_add {a b c d:Int} (h:(rightS a b && rightS c d)=true):surtitleref3_lowest.f (wI (a*d+c*b)).1 (wI (a*d+c*b)).2.1 (wI (a*d+c*b)).2.2 (wI (b*d)).1 (wI (b*d)).2.1 (wI (b*d)).2.2=some (addS a b c d):=by
 have h0:=h
 rw [Bool.and_eq_true] at h
 obtain ⟨b1,b2,b3,_⟩:=right_bounds h.1
 obtain ⟨d1,d2,d3,_⟩:=right_bounds h.2
 have m1:(a*d).natAbs≤9903520314283042199192993792:=by rw [Int.natAbs_mul];exact Nat.mul_le_mul b3 (show d.natAbs≤2147483648 by omega)
 have m2:(c*b).natAbs≤9903520314283042199192993792:=by rw [Int.natAbs_mul];exact Nat.mul_le_mul d3 (show b.natAbs≤2147483648 by omega)
 have m3:(b*d).natAbs≤4611686018427387904:=by rw [Int.natAbs_mul];exact Nat.mul_le_mul (show b.natAbs≤2147483648 by omega) (show d.natAbs≤2147483648 by omega)
 have m4:0<b*d:=Int.mul_pos (by omega) (by omega)
 have e:wI (b*d)=(false,hiN (b*d).natAbs,loN (b*d).natAbs):=by unfold wI;rw [decide_eq_false (by omega)]
 rw [e]
 dsimp only
 rw [lowest_f _ _ (by omega) (by omega) (by omega)]
 unfold addS
 rw [if_pos h0]
 exact congrArg some (fitS_val (by omega) (Int.natAbs_mul b d) (by rw [sumS_val,sgn_pos _ _ (by omega),sgn_pos _ _ (by omega)];exact sgn_abs _))
theorem qtimes (a b:Int) (u:World) (h1:-9223372036854775808≤a) (h2:a≤9223372036854775807) (h3:-9223372036854775808≤b) (h4:b≤9223372036854775807):Calls Try.prog 94 #[.int .i64 a,.int .i64 b] u fun e w'=>e = .returned (.agg #[.bool (wI (a*b)).1,.int .u64 (wI (a*b)).2.1,.int .u64 (wI (a*b)).2.2])∧Below u.heap.size u w' :=
 surtitleref3_Times.calls a b _ _ _ u (timesW a b h1 h2 h3 h4)
theorem qboth (a b c d:Int) (w:World) :
  Calls Try.prog 91 #[.agg #[.int .i64 a,.int .i64 b],.agg #[.int .i64 c,.int .i64 d]] w fun e w'=>e = .returned (.bool (rightS a b && rightS c d))∧Below w.heap.size w w':=by
 have M1:=Lib.hid (fun (u:World)=>(surtitleref3_Right.calls 2147483649 a b _ u (rightR 2147483649 (by decide) a b):Calls Try.prog 61 #[.agg #[.int .i64 a,.int .i64 b]] u fun e w'=>e = .returned (.bool (rightS a b))∧Below u.heap.size u w'))
 have M2:=Lib.hid (fun (u:World)=>(surtitleref3_Right.calls 2147483649 c d _ u (rightR 2147483649 (by decide) c d):Calls Try.prog 61 #[.agg #[.int .i64 c,.int .i64 d]] u fun e w'=>e = .returned (.bool (rightS c d))∧Below u.heap.size u w'))
 obtain ⟨p,hp⟩:∃ p,rightS a b=p:=⟨_,rfl⟩
 obtain ⟨p2,hp2⟩:∃ p,rightS c d=p:=⟨_,rfl⟩
 rw [hp] at M1 ⊢
 rw [hp2] at M2 ⊢
 clear hp hp2
 go_enter Try.func91,Try.ntmps91
 refine wp_seq_k (fun K0 hK0=>?_)
 have HK0:=Lib.hid hK0
 clear hK0
 conv=>arg 2;whnf
 go_wp2
 refine HK0.out _ _ ?_
 obtain ⟨V,hV⟩:∃ V_,V_=((w.alloc (.cells #[Value.int .i64 a,Value.int .i64 b] 31)).alloc (.cells #[Value.int .i64 c,Value.int .i64 d] 31)):=⟨_,rfl⟩
 rw [← hV]
 have g_A:V.heap[w.heap.size]?=some (.cells #[Value.int .i64 a,Value.int .i64 b] 31 (0,0)):=by rw [hV];simp (disch:=try exact Hand.z) only [Hand.q4,Hand.q3]
 have g_B:V.heap[w.heap.size+1]?=some (.cells #[Value.int .i64 c,Value.int .i64 d] 31 (0,0)):=by rw [hV];simp (disch:=try exact Hand.z) only [Hand.q4,Hand.q3]
 have HB:Below w.heap.size w V:=by rw [hV];exact Below.alloc (Below.alloc (Below.refl _ _) Hand.z _) Hand.z _
 clear hV
 obtain ⟨cA0,_,cA1,_⟩:=Hand.hc2 g_A
 obtain ⟨cB0,_,cB1,_⟩:=Hand.hc2 g_B
 obtain ⟨z_A,_⟩:=Hand.hz g_A
 obtain ⟨z_B,_⟩:=Hand.hz g_B
 conv=>arg 2;whnf
 go_wp2_with fail
 with_reducible refine (M1.out _).mono ?_
 rintro e_ w1 ⟨rfl,hb1⟩
 have g_A:=Hand.kb hb1 g_A
 have g_B:=Hand.kb hb1 g_B
 have HB:=Hand.stepB hb1 HB (Nat.le_refl _)
 obtain ⟨cA0,_,cA1,_⟩:=Hand.hc2 g_A
 obtain ⟨cB0,_,cB1,_⟩:=Hand.hc2 g_B
 obtain ⟨z_A,_⟩:=Hand.hz g_A
 obtain ⟨z_B,_⟩:=Hand.hz g_B
 clear hb1
 cases p
 ·go_wp2
  go_ret
  exact ⟨rfl,HB⟩
 ·go_wp2_with fail
  with_reducible refine (M2.out _).mono ?_
  rintro e_ w2 ⟨rfl,hb2⟩
  have HB:=Hand.stepB hb2 HB (Nat.le_refl _)
  go_wp2
  go_ret
  exact ⟨rfl,HB⟩
theorem rh_mul (a b c d:Int) (w:World) :
  Calls Try.prog 111 #[.agg #[.int .i64 a,.int .i64 b],.agg #[.int .i64 c,.int .i64 d]] w fun e w'=>e = .returned (.tuple #[.agg #[.int .i64 (mulS a b c d).1,.int .i64 (mulS a b c d).2.1],.int .i64 (mulS a b c d).2.2])∧Below w.heap.size w w':=by
 have MB:=Lib.hid (fun (u:World)=>(qboth a b c d u:Calls Try.prog 91 #[.agg #[.int .i64 a,.int .i64 b],.agg #[.int .i64 c,.int .i64 d]] u fun e w'=>e = .returned (.bool (rightS a b && rightS c d))∧Below u.heap.size u w'))
 obtain ⟨bo,hbo⟩:∃ b_,(rightS a b && rightS c d)=b_:=⟨_,rfl⟩
 rw [hbo] at MB
 obtain ⟨⟨x,y,z⟩,hR⟩:∃ X,mulS a b c d=X:=⟨_,rfl⟩
 rw [hR]
 go_enter Try.func111,Try.ntmps111
 refine wp_seq_k (fun K0 hK0=>?_)
 have HK0:=Lib.hid hK0
 clear hK0
 conv=>arg 2;whnf
 go_wp2
 refine HK0.out _ _ ?_
 obtain ⟨V,hV⟩:∃ V_,V_=(((w.alloc (.cells #[Value.int .i64 a,Value.int .i64 b] 31)).alloc (.cells #[Value.int .i64 c,Value.int .i64 d] 31)).alloc (.cells #[Value.int .i64 0,Value.int .i64 0] 31)):=⟨_,rfl⟩
 rw [← hV]
 have g_A:V.heap[w.heap.size]?=some (.cells #[Value.int .i64 a,Value.int .i64 b] 31 (0,0)):=by rw [hV];simp (disch:=try exact Hand.z) only [Hand.q4,Hand.q3]
 have g_B:V.heap[w.heap.size+1]?=some (.cells #[Value.int .i64 c,Value.int .i64 d] 31 (0,0)):=by rw [hV];simp (disch:=try exact Hand.z) only [Hand.q4,Hand.q3]
 have g_R:V.heap[w.heap.size+1+1]?=some (.cells #[Value.int .i64 0,Value.int .i64 0] 31 (0,0)):=by rw [hV];simp (disch:=try exact Hand.z) only [Hand.q4,Hand.q3]
 have HB:Below w.heap.size w V:=by rw [hV];exact Below.alloc (Below.alloc (Below.alloc (Below.refl _ _) Hand.z _) Hand.z _) Hand.z _
 clear hV
 obtain ⟨cA0,_,cA1,_⟩:=Hand.hc2 g_A
 obtain ⟨cB0,_,cB1,_⟩:=Hand.hc2 g_B
 obtain ⟨cR0,_,cR1,_⟩:=Hand.hc2 g_R
 obtain ⟨z_A,_⟩:=Hand.hz g_A
 obtain ⟨z_B,_⟩:=Hand.hz g_B
 obtain ⟨z_R,_⟩:=Hand.hz g_R
 conv=>arg 2;whnf
 go_wp2_with fail
 with_reducible refine (MB.out _).mono ?_
 rintro e_ w1 ⟨rfl,hb1⟩
 have g_A:=Hand.kb hb1 g_A
 have g_B:=Hand.kb hb1 g_B
 have g_R:=Hand.kb hb1 g_R
 have HB:=Hand.stepB hb1 HB (Nat.le_refl _)
 obtain ⟨cA0,_,cA1,_⟩:=Hand.hc2 g_A
 obtain ⟨cB0,_,cB1,_⟩:=Hand.hc2 g_B
 obtain ⟨cR0,_,cR1,_⟩:=Hand.hc2 g_R
 obtain ⟨z_A,_⟩:=Hand.hz g_A
 obtain ⟨z_B,_⟩:=Hand.hz g_B
 obtain ⟨z_R,_⟩:=Hand.hz g_R
 clear hb1
 cases bo
 ·rw [(bad2 hbo).2.2.1] at hR
  cases hR
  go_wp2
  refine bodyPost_ret (results_ct rfl _ _ (w.heap.size+1+1) 31 #[.int .i64 0,.int .i64 0] (0,0) _ rfl ?_ Try.underlying31 rfl (by kernel_rfl)) rfl ⟨rfl,?_⟩
  ·simp (disch:=try exact Hand.z) only [Hand.q5,Hand.q1,Hand.q2,g_R];rfl
  ·repeat (with_reducible first|assumption|apply Below.drew|refine Below.setCell ?_ Hand.d _|refine Below.alloc ?_ Hand.z _)
 ·have hbo2:=hbo
  rw [Bool.and_eq_true] at hbo2
  obtain ⟨ba,bb_,b3,_⟩:=right_bounds hbo2.1
  obtain ⟨da,db_,d3,_⟩:=right_bounds hbo2.2
  have M1:=Lib.hid (fun (u:World)=>(qtimes a c u (by omega) (by omega) (by omega) (by omega):Calls Try.prog 94 #[.int .i64 a,.int .i64 c] u fun e w'=>e = .returned (.agg #[.bool (wI (a*c)).1,.int .u64 (wI (a*c)).2.1,.int .u64 (wI (a*c)).2.2])∧Below u.heap.size u w'))
  have M2:=Lib.hid (fun (u:World)=>(qtimes b d u (by omega) (by omega) (by omega) (by omega):Calls Try.prog 94 #[.int .i64 b,.int .i64 d] u fun e w'=>e = .returned (.agg #[.bool (wI (b*d)).1,.int .u64 (wI (b*d)).2.1,.int .u64 (wI (b*d)).2.2])∧Below u.heap.size u w'))
  have ML:=Lib.hid (fun (u:World)=>(surtitleref3_lowest.calls (wI (a*c)).1 (wI (a*c)).2.1 (wI (a*c)).2.2 (wI (b*d)).1 (wI (b*d)).2.1 (wI (b*d)).2.2 x y z u (by rw [low_mul hbo];exact congrArg some hR):Calls Try.prog 92 #[.agg #[.bool (wI (a*c)).1,.int .u64 (wI (a*c)).2.1,.int .u64 (wI (a*c)).2.2],.agg #[.bool (wI (b*d)).1,.int .u64 (wI (b*d)).2.1,.int .u64 (wI (b*d)).2.2]] u fun e w'=>e = .returned (.tuple #[.agg #[.int .i64 x,.int .i64 y],.int .i64 z])∧Below u.heap.size u w'))
  have HC:=Lib.hid (fun (w_:World) (h:Below (w.heap.size+2) w1 w_)=>(⟨h,(h.cell Hand.d).trans cA0,(h.cell Hand.d).trans cA1,(h.cell Hand.d).trans cB0,(h.cell Hand.d).trans cB1⟩:Below (w.heap.size+2) w1 w_∧w_.cell? ⟨w.heap.size,0,none⟩=some (.int .i64 a)∧w_.cell? ⟨w.heap.size,1,none⟩=some (.int .i64 b)∧w_.cell? ⟨w.heap.size+1,0,none⟩=some (.int .i64 c)∧w_.cell? ⟨w.heap.size+1,1,none⟩=some (.int .i64 d)))
  have BR:Below (w.heap.size+2) w1 w1:=Below.refl _ _
  have HB1:=Lib.hid HB
  clear HB
  clear hbo hbo2 hR
  go_wp2_with fail
  go_region_held3 (fun w_=>Below (w.heap.size+2) w1 w_∧w_.cell? ⟨w.heap.size,0,none⟩=some (.int .i64 a)∧w_.cell? ⟨w.heap.size,1,none⟩=some (.int .i64 b)∧w_.cell? ⟨w.heap.size+1,0,none⟩=some (.int .i64 c)∧w_.cell? ⟨w.heap.size+1,1,none⟩=some (.int .i64 d)) (first|(refine HC.out _ ?_;repeat (with_reducible first|assumption|apply Below.drew|refine Below.setCell ?_ Hand.d _|refine Below.alloc ?_ Hand.z _))) (first|(go_at_call 94;((with_reducible refine (M1.out _).mono ?_);rintro e_ w5 ⟨rfl,hb5⟩;have BB:Below (w.heap.size+2) w1 w5:=Hand.stepB hb5 Hand.b (by have:=BR.size;omega);have g_R:=Hand.kb (i:=w.heap.size+1+1) (x:=.cells #[.int .i64 0,.int .i64 0] 31 (0,0)) hb5 (by first|exact g_R|(rw [Hand.q5];exact g_R));obtain ⟨cR0,fR0,cR1,fR1⟩:=Hand.hc2 g_R;obtain ⟨zR,_,_,_,_⟩:=Hand.hz g_R;have HB1:=Lib.hid (show Below w.heap.size w w5 from Hand.stepB hb5 (by first|exact HB1.out|exact HB1.out.drew) (Nat.le_refl _))))|(go_at_call 94;((with_reducible refine (M2.out _).mono ?_);rintro e_ w6 ⟨rfl,hb6⟩;have BB:Below (w.heap.size+2) w1 w6:=Hand.stepB hb6 Hand.b (by have:=BR.size;omega);have g_R:=Hand.kb (i:=w.heap.size+1+1) (x:=.cells #[.int .i64 0,.int .i64 0] 31 (0,0)) hb6 (by first|exact g_R|(rw [Hand.q5];exact g_R));obtain ⟨cR0,fR0,cR1,fR1⟩:=Hand.hc2 g_R;obtain ⟨zR,_,_,_,_⟩:=Hand.hz g_R;have HB1:=Lib.hid (show Below w.heap.size w w6 from Hand.stepB hb6 (by first|exact HB1.out|exact HB1.out.drew) (Nat.le_refl _))))|(go_at_call 92;((with_reducible refine (ML.out _).mono ?_);rintro e_ w7 ⟨rfl,hb7⟩;have BB:Below (w.heap.size+2) w1 w7:=Hand.stepB hb7 Hand.b (by have:=BR.size;omega);have g_R:=Hand.kb (i:=w.heap.size+1+1) (x:=.cells #[.int .i64 0,.int .i64 0] 31 (0,0)) hb7 (by first|exact g_R|(rw [Hand.q5];exact g_R));obtain ⟨cR0,fR0,cR1,fR1⟩:=Hand.hc2 g_R;obtain ⟨zR,_,_,_,_⟩:=Hand.hz g_R;have HB1:=Lib.hid (show Below w.heap.size w w7 from Hand.stepB hb7 (by first|exact HB1.out|exact HB1.out.drew) (Nat.le_refl _)))))
  all_goals go_wp2
  all_goals (refine bodyPost_ret (results_ct rfl _ _ (w.heap.size+1+1) 31 #[.int .i64 x,.int .i64 y] (0,0) _ rfl ?_ Try.underlying31 rfl (by kernel_rfl)) rfl ⟨rfl,?_⟩)
  all_goals (first|(simp (disch:=try exact Hand.z) only [Hand.q5,Hand.q1,Hand.q2,g_R];rfl)|(have HB:=HB1.out;repeat (with_reducible first|assumption|apply Below.drew|refine Below.setCell ?_ Hand.d _|refine Below.alloc ?_ Hand.z _)))
theorem rh_add (a b c d:Int) (w:World) :
  Calls Try.prog 60 #[.agg #[.int .i64 a,.int .i64 b],.agg #[.int .i64 c,.int .i64 d]] w fun e w'=>e = .returned (.tuple #[.agg #[.int .i64 (addS a b c d).1,.int .i64 (addS a b c d).2.1],.int .i64 (addS a b c d).2.2])∧Below w.heap.size w w':=by
 have MB:=Lib.hid (fun (u:World)=>(qboth a b c d u:Calls Try.prog 91 #[.agg #[.int .i64 a,.int .i64 b],.agg #[.int .i64 c,.int .i64 d]] u fun e w'=>e = .returned (.bool (rightS a b && rightS c d))∧Below u.heap.size u w'))
 obtain ⟨bo,hbo⟩:∃ b_,(rightS a b && rightS c d)=b_:=⟨_,rfl⟩
 rw [hbo] at MB
 obtain ⟨⟨x,y,z⟩,hR⟩:∃ X,addS a b c d=X:=⟨_,rfl⟩
 rw [hR]
 go_enter Try.func60,Try.ntmps60
 refine wp_seq_k (fun K0 hK0=>?_)
 have HK0:=Lib.hid hK0
 clear hK0
 conv=>arg 2;whnf
 go_wp2
 refine HK0.out _ _ ?_
 obtain ⟨V,hV⟩:∃ V_,V_=(((w.alloc (.cells #[Value.int .i64 a,Value.int .i64 b] 31)).alloc (.cells #[Value.int .i64 c,Value.int .i64 d] 31)).alloc (.cells #[Value.int .i64 0,Value.int .i64 0] 31)):=⟨_,rfl⟩
 rw [← hV]
 have g_A:V.heap[w.heap.size]?=some (.cells #[Value.int .i64 a,Value.int .i64 b] 31 (0,0)):=by rw [hV];simp (disch:=try exact Hand.z) only [Hand.q4,Hand.q3]
 have g_B:V.heap[w.heap.size+1]?=some (.cells #[Value.int .i64 c,Value.int .i64 d] 31 (0,0)):=by rw [hV];simp (disch:=try exact Hand.z) only [Hand.q4,Hand.q3]
 have g_R:V.heap[w.heap.size+1+1]?=some (.cells #[Value.int .i64 0,Value.int .i64 0] 31 (0,0)):=by rw [hV];simp (disch:=try exact Hand.z) only [Hand.q4,Hand.q3]
 have HB:Below w.heap.size w V:=by rw [hV];exact Below.alloc (Below.alloc (Below.alloc (Below.refl _ _) Hand.z _) Hand.z _) Hand.z _
 clear hV
 obtain ⟨cA0,_,cA1,_⟩:=Hand.hc2 g_A
 obtain ⟨cB0,_,cB1,_⟩:=Hand.hc2 g_B
 obtain ⟨cR0,_,cR1,_⟩:=Hand.hc2 g_R
 obtain ⟨z_A,_⟩:=Hand.hz g_A
 obtain ⟨z_B,_⟩:=Hand.hz g_B
 obtain ⟨z_R,_⟩:=Hand.hz g_R
 conv=>arg 2;whnf
 go_wp2_with fail
 with_reducible refine (MB.out _).mono ?_
 rintro e_ w1 ⟨rfl,hb1⟩
 have g_A:=Hand.kb hb1 g_A
 have g_B:=Hand.kb hb1 g_B
 have g_R:=Hand.kb hb1 g_R
 have HB:=Hand.stepB hb1 HB (Nat.le_refl _)
 obtain ⟨cA0,_,cA1,_⟩:=Hand.hc2 g_A
 obtain ⟨cB0,_,cB1,_⟩:=Hand.hc2 g_B
 obtain ⟨cR0,_,cR1,_⟩:=Hand.hc2 g_R
 obtain ⟨z_A,_⟩:=Hand.hz g_A
 obtain ⟨z_B,_⟩:=Hand.hz g_B
 obtain ⟨z_R,_⟩:=Hand.hz g_R
 clear hb1
 cases bo
 ·rw [(bad2 hbo).1] at hR
  cases hR
  go_wp2
  refine bodyPost_ret (results_ct rfl _ _ (w.heap.size+1+1) 31 #[.int .i64 0,.int .i64 0] (0,0) _ rfl ?_ Try.underlying31 rfl (by kernel_rfl)) rfl ⟨rfl,?_⟩
  ·simp (disch:=try exact Hand.z) only [Hand.q5,Hand.q1,Hand.q2,g_R];rfl
  ·repeat (with_reducible first|assumption|apply Below.drew|refine Below.setCell ?_ Hand.d _|refine Below.alloc ?_ Hand.z _)
 ·have hbo2:=hbo
  rw [Bool.and_eq_true] at hbo2
  obtain ⟨ba,bb_,b3,_⟩:=right_bounds hbo2.1
  obtain ⟨da,db_,d3,_⟩:=right_bounds hbo2.2
  have M1:=Lib.hid (fun (u:World)=>(qtimes a d u (by omega) (by omega) (by omega) (by omega):Calls Try.prog 94 #[.int .i64 a,.int .i64 d] u fun e w'=>e = .returned (.agg #[.bool (wI (a*d)).1,.int .u64 (wI (a*d)).2.1,.int .u64 (wI (a*d)).2.2])∧Below u.heap.size u w'))
  have M2:=Lib.hid (fun (u:World)=>(qtimes c b u (by omega) (by omega) (by omega) (by omega):Calls Try.prog 94 #[.int .i64 c,.int .i64 b] u fun e w'=>e = .returned (.agg #[.bool (wI (c*b)).1,.int .u64 (wI (c*b)).2.1,.int .u64 (wI (c*b)).2.2])∧Below u.heap.size u w'))
  have M3:=Lib.hid (fun (u:World)=>(qtimes b d u (by omega) (by omega) (by omega) (by omega):Calls Try.prog 94 #[.int .i64 b,.int .i64 d] u fun e w'=>e = .returned (.agg #[.bool (wI (b*d)).1,.int .u64 (wI (b*d)).2.1,.int .u64 (wI (b*d)).2.2])∧Below u.heap.size u w'))
  have m1:(a*d).natAbs≤9903520314283042199192993792:=by rw [Int.natAbs_mul];exact Nat.mul_le_mul b3 (show d.natAbs≤2147483648 by omega)
  have m2:(c*b).natAbs≤9903520314283042199192993792:=by rw [Int.natAbs_mul];exact Nat.mul_le_mul d3 (show b.natAbs≤2147483648 by omega)
  have MP:=Lib.hid (fun (u:World)=>(qplus (a*d) (c*b) u (by omega):Calls Try.prog 93 #[.agg #[.bool (wI (a*d)).1,.int .u64 (wI (a*d)).2.1,.int .u64 (wI (a*d)).2.2],.agg #[.bool (wI (c*b)).1,.int .u64 (wI (c*b)).2.1,.int .u64 (wI (c*b)).2.2]] u fun e w'=>e = .returned (.agg #[.bool (wI (a*d+c*b)).1,.int .u64 (wI (a*d+c*b)).2.1,.int .u64 (wI (a*d+c*b)).2.2])∧Below u.heap.size u w'))
  have ML:=Lib.hid (fun (u:World)=>(surtitleref3_lowest.calls (wI (a*d+c*b)).1 (wI (a*d+c*b)).2.1 (wI (a*d+c*b)).2.2 (wI (b*d)).1 (wI (b*d)).2.1 (wI (b*d)).2.2 x y z u (by rw [low_add hbo];exact congrArg some hR):Calls Try.prog 92 #[.agg #[.bool (wI (a*d+c*b)).1,.int .u64 (wI (a*d+c*b)).2.1,.int .u64 (wI (a*d+c*b)).2.2],.agg #[.bool (wI (b*d)).1,.int .u64 (wI (b*d)).2.1,.int .u64 (wI (b*d)).2.2]] u fun e w'=>e = .returned (.tuple #[.agg #[.int .i64 x,.int .i64 y],.int .i64 z])∧Below u.heap.size u w'))
  have HC:=Lib.hid (fun (w_:World) (h:Below (w.heap.size+2) w1 w_)=>(⟨h,(h.cell Hand.d).trans cA0,(h.cell Hand.d).trans cA1,(h.cell Hand.d).trans cB0,(h.cell Hand.d).trans cB1⟩:Below (w.heap.size+2) w1 w_∧w_.cell? ⟨w.heap.size,0,none⟩=some (.int .i64 a)∧w_.cell? ⟨w.heap.size,1,none⟩=some (.int .i64 b)∧w_.cell? ⟨w.heap.size+1,0,none⟩=some (.int .i64 c)∧w_.cell? ⟨w.heap.size+1,1,none⟩=some (.int .i64 d)))
  have BR:Below (w.heap.size+2) w1 w1:=Below.refl _ _
  have HB1:=Lib.hid HB
  clear HB
  clear m1 m2
  clear hbo hbo2 hR
  go_wp2_with fail
  go_region_held3 (fun w_=>Below (w.heap.size+2) w1 w_∧w_.cell? ⟨w.heap.size,0,none⟩=some (.int .i64 a)∧w_.cell? ⟨w.heap.size,1,none⟩=some (.int .i64 b)∧w_.cell? ⟨w.heap.size+1,0,none⟩=some (.int .i64 c)∧w_.cell? ⟨w.heap.size+1,1,none⟩=some (.int .i64 d)) (first|(refine HC.out _ ?_;repeat (with_reducible first|assumption|apply Below.drew|refine Below.setCell ?_ Hand.d _|refine Below.alloc ?_ Hand.z _))) (first|(go_at_call 94;((with_reducible refine (M1.out _).mono ?_);rintro e_ w5 ⟨rfl,hb5⟩;have BB:Below (w.heap.size+2) w1 w5:=Hand.stepB hb5 Hand.b (by have:=BR.size;omega);have g_R:=Hand.kb (i:=w.heap.size+1+1) (x:=.cells #[.int .i64 0,.int .i64 0] 31 (0,0)) hb5 (by first|exact g_R|(rw [Hand.q5];exact g_R));obtain ⟨cR0,fR0,cR1,fR1⟩:=Hand.hc2 g_R;obtain ⟨zR,_,_,_,_⟩:=Hand.hz g_R;have HB1:=Lib.hid (show Below w.heap.size w w5 from Hand.stepB hb5 (by first|exact HB1.out|exact HB1.out.drew) (Nat.le_refl _))))|(go_at_call 94;((with_reducible refine (M2.out _).mono ?_);rintro e_ w6 ⟨rfl,hb6⟩;have BB:Below (w.heap.size+2) w1 w6:=Hand.stepB hb6 Hand.b (by have:=BR.size;omega);have g_R:=Hand.kb (i:=w.heap.size+1+1) (x:=.cells #[.int .i64 0,.int .i64 0] 31 (0,0)) hb6 (by first|exact g_R|(rw [Hand.q5];exact g_R));obtain ⟨cR0,fR0,cR1,fR1⟩:=Hand.hc2 g_R;obtain ⟨zR,_,_,_,_⟩:=Hand.hz g_R;have HB1:=Lib.hid (show Below w.heap.size w w6 from Hand.stepB hb6 (by first|exact HB1.out|exact HB1.out.drew) (Nat.le_refl _))))|(go_at_call 94;((with_reducible refine (M3.out _).mono ?_);rintro e_ w7 ⟨rfl,hb7⟩;have BB:Below (w.heap.size+2) w1 w7:=Hand.stepB hb7 Hand.b (by have:=BR.size;omega);have g_R:=Hand.kb (i:=w.heap.size+1+1) (x:=.cells #[.int .i64 0,.int .i64 0] 31 (0,0)) hb7 (by first|exact g_R|(rw [Hand.q5];exact g_R));obtain ⟨cR0,fR0,cR1,fR1⟩:=Hand.hc2 g_R;obtain ⟨zR,_,_,_,_⟩:=Hand.hz g_R;have HB1:=Lib.hid (show Below w.heap.size w w7 from Hand.stepB hb7 (by first|exact HB1.out|exact HB1.out.drew) (Nat.le_refl _))))|(go_at_call 93;((with_reducible refine (MP.out _).mono ?_);rintro e_ w8 ⟨rfl,hb8⟩;have BB:Below (w.heap.size+2) w1 w8:=Hand.stepB hb8 Hand.b (by have:=BR.size;omega);have g_R:=Hand.kb (i:=w.heap.size+1+1) (x:=.cells #[.int .i64 0,.int .i64 0] 31 (0,0)) hb8 (by first|exact g_R|(rw [Hand.q5];exact g_R));obtain ⟨cR0,fR0,cR1,fR1⟩:=Hand.hc2 g_R;obtain ⟨zR,_,_,_,_⟩:=Hand.hz g_R;have HB1:=Lib.hid (show Below w.heap.size w w8 from Hand.stepB hb8 (by first|exact HB1.out|exact HB1.out.drew) (Nat.le_refl _))))|(go_at_call 92;((with_reducible refine (ML.out _).mono ?_);rintro e_ w9 ⟨rfl,hb9⟩;have BB:Below (w.heap.size+2) w1 w9:=Hand.stepB hb9 Hand.b (by have:=BR.size;omega);have g_R:=Hand.kb (i:=w.heap.size+1+1) (x:=.cells #[.int .i64 0,.int .i64 0] 31 (0,0)) hb9 (by first|exact g_R|(rw [Hand.q5];exact g_R));obtain ⟨cR0,fR0,cR1,fR1⟩:=Hand.hc2 g_R;obtain ⟨zR,_,_,_,_⟩:=Hand.hz g_R;have HB1:=Lib.hid (show Below w.heap.size w w9 from Hand.stepB hb9 (by first|exact HB1.out|exact HB1.out.drew) (Nat.le_refl _)))))
  all_goals go_wp2
  all_goals (refine bodyPost_ret (results_ct rfl _ _ (w.heap.size+1+1) 31 #[.int .i64 x,.int .i64 y] (0,0) _ rfl ?_ Try.underlying31 rfl (by kernel_rfl)) rfl ⟨rfl,?_⟩)
  all_goals (first|(simp (disch:=try exact Hand.z) only [Hand.q5,Hand.q1,Hand.q2,g_R];rfl)|(have HB:=HB1.out;repeat (with_reducible first|assumption|apply Below.drew|refine Below.setCell ?_ Hand.d _|refine Below.alloc ?_ Hand.z _)))
theorem rh_sub (a b c d:Int) (w:World) :
  Calls Try.prog 59 #[.agg #[.int .i64 a,.int .i64 b],.agg #[.int .i64 c,.int .i64 d]] w fun e w'=>e = .returned (.tuple #[.agg #[.int .i64 (subS a b c d).1,.int .i64 (subS a b c d).2.1],.int .i64 (subS a b c d).2.2])∧Below w.heap.size w w':=by
 have MB:=Lib.hid (fun (u:World)=>(qboth a b c d u:Calls Try.prog 91 #[.agg #[.int .i64 a,.int .i64 b],.agg #[.int .i64 c,.int .i64 d]] u fun e w'=>e = .returned (.bool (rightS a b && rightS c d))∧Below u.heap.size u w'))
 obtain ⟨bo,hbo⟩:∃ b_,(rightS a b && rightS c d)=b_:=⟨_,rfl⟩
 rw [hbo] at MB
 obtain ⟨⟨x,y,z⟩,hR⟩:∃ X,subS a b c d=X:=⟨_,rfl⟩
 rw [hR]
 go_enter Try.func59,Try.ntmps59
 refine wp_seq_k (fun K0 hK0=>?_)
 have HK0:=Lib.hid hK0
 clear hK0
 conv=>arg 2;whnf
 go_wp2
 refine HK0.out _ _ ?_
 obtain ⟨V,hV⟩:∃ V_,V_=(((w.alloc (.cells #[Value.int .i64 a,Value.int .i64 b] 31)).alloc (.cells #[Value.int .i64 c,Value.int .i64 d] 31)).alloc (.cells #[Value.int .i64 0,Value.int .i64 0] 31)):=⟨_,rfl⟩
 rw [← hV]
 have g_A:V.heap[w.heap.size]?=some (.cells #[Value.int .i64 a,Value.int .i64 b] 31 (0,0)):=by rw [hV];simp (disch:=try exact Hand.z) only [Hand.q4,Hand.q3]
 have g_B:V.heap[w.heap.size+1]?=some (.cells #[Value.int .i64 c,Value.int .i64 d] 31 (0,0)):=by rw [hV];simp (disch:=try exact Hand.z) only [Hand.q4,Hand.q3]
 have g_R:V.heap[w.heap.size+1+1]?=some (.cells #[Value.int .i64 0,Value.int .i64 0] 31 (0,0)):=by rw [hV];simp (disch:=try exact Hand.z) only [Hand.q4,Hand.q3]
 have HB:Below w.heap.size w V:=by rw [hV];exact Below.alloc (Below.alloc (Below.alloc (Below.refl _ _) Hand.z _) Hand.z _) Hand.z _
 clear hV
 obtain ⟨cA0,_,cA1,_⟩:=Hand.hc2 g_A
 obtain ⟨cB0,_,cB1,_⟩:=Hand.hc2 g_B
 obtain ⟨cR0,_,cR1,_⟩:=Hand.hc2 g_R
 obtain ⟨z_A,_⟩:=Hand.hz g_A
 obtain ⟨z_B,_⟩:=Hand.hz g_B
 obtain ⟨z_R,_⟩:=Hand.hz g_R
 conv=>arg 2;whnf
 go_wp2_with fail
 with_reducible refine (MB.out _).mono ?_
 rintro e_ w1 ⟨rfl,hb1⟩
 have g_A:=Hand.kb hb1 g_A
 have g_B:=Hand.kb hb1 g_B
 have g_R:=Hand.kb hb1 g_R
 have HB:=Hand.stepB hb1 HB (Nat.le_refl _)
 obtain ⟨cA0,_,cA1,_⟩:=Hand.hc2 g_A
 obtain ⟨cB0,_,cB1,_⟩:=Hand.hc2 g_B
 obtain ⟨cR0,_,cR1,_⟩:=Hand.hc2 g_R
 obtain ⟨z_A,_⟩:=Hand.hz g_A
 obtain ⟨z_B,_⟩:=Hand.hz g_B
 obtain ⟨z_R,_⟩:=Hand.hz g_R
 clear hb1
 cases bo
 ·rw [(bad2 hbo).2.1] at hR
  cases hR
  go_wp2
  refine bodyPost_ret (results_ct rfl _ _ (w.heap.size+1+1) 31 #[.int .i64 0,.int .i64 0] (0,0) _ rfl ?_ Try.underlying31 rfl (by kernel_rfl)) rfl ⟨rfl,?_⟩
  ·simp (disch:=try exact Hand.z) only [Hand.q5,Hand.q1,Hand.q2,g_R];rfl
  ·repeat (with_reducible first|assumption|apply Below.drew|refine Below.setCell ?_ Hand.d _|refine Below.alloc ?_ Hand.z _)
 ·have hbo2:=hbo
  rw [Bool.and_eq_true] at hbo2
  obtain ⟨ba,bb_,b3,_⟩:=right_bounds hbo2.1
  obtain ⟨da,db_,d3,_⟩:=right_bounds hbo2.2
  have hw:IntKind.i64.wrap (-c) = -c:=by rw [IntKind.wrap_i64];omega
  have hw2:IntKind.i64.wrap (0 - c) = -c:=by rw [IntKind.wrap_i64];omega
  have MA:=Lib.hid (fun (u:World)=>(by have:=rh_add a b (-c) d u;unfold subS at hR;rw [if_pos hbo] at hR;rw [hR] at this;exact this:Calls Try.prog 60 #[.agg #[.int .i64 a,.int .i64 b],.agg #[.int .i64 (-c),.int .i64 d]] u fun e w'=>e = .returned (.tuple #[.agg #[.int .i64 x,.int .i64 y],.int .i64 z])∧Below u.heap.size u w'))
  clear hbo hbo2 hR
  go_wp2_with fail
  with_reducible refine (MA.out _).mono ?_
  rintro e_ w2 ⟨rfl,hb2⟩
  have g_R:=Hand.kb hb2 g_R
  have HB:=Hand.stepB hb2 HB (Nat.le_refl _)
  obtain ⟨cR0,_,cR1,_⟩:=Hand.hc2 g_R
  obtain ⟨z_R,_⟩:=Hand.hz g_R
  clear hb2
  go_wp2
  refine bodyPost_ret (results_ct rfl _ _ (w.heap.size+1+1) 31 #[.int .i64 x,.int .i64 y] (0,0) _ rfl ?_ Try.underlying31 rfl (by kernel_rfl)) rfl ⟨rfl,?_⟩
  ·simp (disch:=try exact Hand.z) only [Hand.q5,Hand.q1,Hand.q2,g_R];rfl
  ·repeat (with_reducible first|assumption|apply Below.drew|refine Below.setCell ?_ Hand.d _|refine Below.alloc ?_ Hand.z _)
theorem mul_neg_of {a d:Int} (hd:0<d):decide (a*d<0)=decide (a<0):=by
 rw [decide_eq_decide]
 constructor
 ·intro h
  by_cases h1:a<0
  ·exact h1
  ·have:=Int.mul_nonneg (show 0≤a by omega) (show 0≤d by omega);omega
 ·intro h;exact Int.mul_neg_of_neg_of_pos h hd
theorem low_div {a b c d n1 n2 d1 d2:Int} {s p:Bool} (h:(rightS a b && rightS c d)=true) (hc:c≠0) (hn:wI (a*d)=(s,n1,n2)) (hd:wI (b*c)=(p,d1,d2)):∃ v,surtitleref3_right.f (p != s) n1 n2=some (v,n1,n2)∧surtitleref3_lowest.f v n1 n2 false d1 d2=some (divS a b c d):=by
 have h0:=h
 rw [Bool.and_eq_true] at h
 obtain ⟨b1,b2,b3,_⟩:=right_bounds h.1
 obtain ⟨e1,e2,e3,_⟩:=right_bounds h.2
 have m1:(a*d).natAbs≤9903520314283042199192993792:=by rw [Int.natAbs_mul];exact Nat.mul_le_mul b3 (show d.natAbs≤2147483648 by omega)
 have m2:(b*c).natAbs≤9903520314283042199192993792:=by rw [Int.natAbs_mul,Nat.mul_comm];exact Nat.mul_le_mul e3 (show b.natAbs≤2147483648 by omega)
 have m4:0<(b*c).natAbs:=by
  have:b*c≠0:=Int.mul_ne_zero (by omega) hc
  omega
 have hs1:=mul_neg_of (a:=a) (show 0<d by omega)
 have hs2:=mul_neg_of (a:=c) (show 0<b by omega)
 rw [Int.mul_comm c b] at hs2
 unfold wI at hn hd
 cases hn
 cases hd
 refine ⟨_,rightW _ _,?_⟩
 unfold surtitleref3_lowest.f
 rw [wvN_hl,wvN_hl,if_pos ⟨hiN_ok (by omega),loN_ok _,hiN_ok (by omega),loN_ok _,rfl,fun h=>by rw [h];simp,by omega⟩]
 unfold divS
 rw [if_pos h0,if_neg hc,Int.natAbs_mul a d,Int.natAbs_mul b c]
 rw [Int.natAbs_mul] at m4
 congr 1
 refine fitS_sign _ _ _ _ (fun hne=>?_) m4
 rw [hs1,hs2]
 simp only [hne,ne_eq,not_false_eq_true,decide_true,Bool.and_true]
 cases decide (a<0)<;>cases decide (c<0)<;>rfl
theorem wp_world {P:Program} {c:Code} {Q:Exit → Act → World → Prop} {a:Act} {W:World} (h:∀ V,V=W → c.wp P Q a V):c.wp P Q a W:=h W rfl
theorem rh_div (a b c d:Int) (w:World) :
  Calls Try.prog 66 #[.agg #[.int .i64 a,.int .i64 b],.agg #[.int .i64 c,.int .i64 d]] w fun e w'=>e = .returned (.tuple #[.agg #[.int .i64 (divS a b c d).1,.int .i64 (divS a b c d).2.1],.int .i64 (divS a b c d).2.2])∧Below w.heap.size w w':=by
 have MB:=Lib.hid (fun (u:World)=>(qboth a b c d u:Calls Try.prog 91 #[.agg #[.int .i64 a,.int .i64 b],.agg #[.int .i64 c,.int .i64 d]] u fun e w'=>e = .returned (.bool (rightS a b && rightS c d))∧Below u.heap.size u w'))
 obtain ⟨bo,hbo⟩:∃ b_,(rightS a b && rightS c d)=b_:=⟨_,rfl⟩
 rw [hbo] at MB
 obtain ⟨⟨x,y,z⟩,hR⟩:∃ X,divS a b c d=X:=⟨_,rfl⟩
 rw [hR]
 go_enter Try.func66,Try.ntmps66
 refine wp_seq_k (fun K0 hK0=>?_)
 have HK0:=Lib.hid hK0
 clear hK0
 conv=>arg 2;whnf
 go_wp2
 refine HK0.out _ _ ?_
 obtain ⟨V,hV⟩:∃ V_,V_=(((w.alloc (.cells #[Value.int .i64 a,Value.int .i64 b] 31)).alloc (.cells #[Value.int .i64 c,Value.int .i64 d] 31)).alloc (.cells #[Value.int .i64 0,Value.int .i64 0] 31)):=⟨_,rfl⟩
 rw [← hV]
 have g_A:V.heap[w.heap.size]?=some (.cells #[Value.int .i64 a,Value.int .i64 b] 31 (0,0)):=by rw [hV];simp (disch:=try exact Hand.z) only [Hand.q4,Hand.q3]
 have g_B:V.heap[w.heap.size+1]?=some (.cells #[Value.int .i64 c,Value.int .i64 d] 31 (0,0)):=by rw [hV];simp (disch:=try exact Hand.z) only [Hand.q4,Hand.q3]
 have g_R:V.heap[w.heap.size+1+1]?=some (.cells #[Value.int .i64 0,Value.int .i64 0] 31 (0,0)):=by rw [hV];simp (disch:=try exact Hand.z) only [Hand.q4,Hand.q3]
 have HB:Below w.heap.size w V:=by rw [hV];exact Below.alloc (Below.alloc (Below.alloc (Below.refl _ _) Hand.z _) Hand.z _) Hand.z _
 clear hV
 obtain ⟨cA0,_,cA1,_⟩:=Hand.hc2 g_A
 obtain ⟨cB0,_,cB1,_⟩:=Hand.hc2 g_B
 obtain ⟨cR0,_,cR1,_⟩:=Hand.hc2 g_R
 obtain ⟨z_A,_⟩:=Hand.hz g_A
 obtain ⟨z_B,_⟩:=Hand.hz g_B
 obtain ⟨z_R,_⟩:=Hand.hz g_R
 conv=>arg 2;whnf
 go_wp2_with fail
 with_reducible refine (MB.out _).mono ?_
 rintro e_ w1 ⟨rfl,hb1⟩
 have g_A:=Hand.kb hb1 g_A
 have g_B:=Hand.kb hb1 g_B
 have g_R:=Hand.kb hb1 g_R
 have HB:=Hand.stepB hb1 HB (Nat.le_refl _)
 obtain ⟨cA0,_,cA1,_⟩:=Hand.hc2 g_A
 obtain ⟨cB0,_,cB1,_⟩:=Hand.hc2 g_B
 obtain ⟨cR0,_,cR1,_⟩:=Hand.hc2 g_R
 obtain ⟨z_A,_⟩:=Hand.hz g_A
 obtain ⟨z_B,_⟩:=Hand.hz g_B
 obtain ⟨z_R,_⟩:=Hand.hz g_R
 clear hb1
 cases bo
 ·rw [(bad2 hbo).2.2.2] at hR
  cases hR
  go_wp2
  refine bodyPost_ret (results_ct rfl _ _ (w.heap.size+1+1) 31 #[.int .i64 0,.int .i64 0] (0,0) _ rfl ?_ Try.underlying31 rfl (by kernel_rfl)) rfl ⟨rfl,?_⟩
  ·simp (disch:=try exact Hand.z) only [Hand.q5,Hand.q1,Hand.q2,g_R];rfl
  ·repeat (with_reducible first|assumption|apply Below.drew|refine Below.setCell ?_ Hand.d _|refine Below.alloc ?_ Hand.z _)
 ·by_cases hc:c=0
  ·subst hc
   have hR2:divS a b 0 d=(0,0,11):=by unfold divS;rw [if_pos hbo,if_pos rfl]
   rw [hR2] at hR
   cases hR
   have q0:((0:Int) == 0)=true:=rfl
   clear hR2 hbo
   go_wp2
   refine bodyPost_ret (results_ct rfl _ _ (w.heap.size+1+1) 31 #[.int .i64 0,.int .i64 0] (0,0) _ rfl ?_ Try.underlying31 rfl (by kernel_rfl)) rfl ⟨rfl,?_⟩
   ·simp (disch:=try exact Hand.z) only [Hand.q5,Hand.q1,Hand.q2,g_R];rfl
   ·repeat (with_reducible first|assumption|apply Below.drew|refine Below.setCell ?_ Hand.d _|refine Below.alloc ?_ Hand.z _)
  ·have hbo2:=hbo
   rw [Bool.and_eq_true] at hbo2
   obtain ⟨ba,bb_,b3,_⟩:=right_bounds hbo2.1
   obtain ⟨da,db_,d3,_⟩:=right_bounds hbo2.2
   have q0:(c == 0)=false:=by simpa using hc
   obtain ⟨s,n1,n2,hn⟩:∃ s n1 n2,wI (a*d)=(s,n1,n2):=⟨_,_,_,rfl⟩
   obtain ⟨p,d1,d2,hd⟩:∃ s n1 n2,wI (b*c)=(s,n1,n2):=⟨_,_,_,rfl⟩
   have M1:=Lib.hid (fun (u:World)=>(by have:=qtimes a d u (by omega) (by omega) (by omega) (by omega);rw [hn] at this;exact this:Calls Try.prog 94 #[.int .i64 a,.int .i64 d] u fun e w'=>e = .returned (.agg #[.bool s,.int .u64 n1,.int .u64 n2])∧Below u.heap.size u w'))
   have M2:=Lib.hid (fun (u:World)=>(by have:=qtimes b c u (by omega) (by omega) (by omega) (by omega);rw [hd] at this;exact this:Calls Try.prog 94 #[.int .i64 b,.int .i64 c] u fun e w'=>e = .returned (.agg #[.bool p,.int .u64 d1,.int .u64 d2])∧Below u.heap.size u w'))
   obtain ⟨v,hv,hlow⟩:=low_div hbo hc hn hd
   have M3:=Lib.hid (fun (u:World)=>(surtitleref3_right.calls (p != s) n1 n2 _ _ _ u hv:Calls Try.prog 100 #[.agg #[.bool (p != s),.int .u64 n1,.int .u64 n2]] u fun e w'=>e = .returned (.agg #[.bool v,.int .u64 n1,.int .u64 n2])∧Below u.heap.size u w'))
   have M4:=Lib.hid (fun (u:World)=>(surtitleref3_lowest.calls v n1 n2 false d1 d2 x y z u (by rw [hlow];exact congrArg some hR):Calls Try.prog 92 #[.agg #[.bool v,.int .u64 n1,.int .u64 n2],.agg #[.bool false,.int .u64 d1,.int .u64 d2]] u fun e w'=>e = .returned (.tuple #[.agg #[.int .i64 x,.int .i64 y],.int .i64 z])∧Below u.heap.size u w'))
   clear hbo hbo2 hR hc hn hd hv hlow
   go_wp2_with fail
   with_reducible refine (M1.out _).mono ?_
   rintro e_ w2 ⟨rfl,hb2⟩
   have g_A:=Hand.kb hb2 g_A
   have g_B:=Hand.kb hb2 g_B
   have g_R:=Hand.kb hb2 g_R
   have HB:=Hand.stepB hb2 HB (Nat.le_refl _)
   obtain ⟨cA0,_,cA1,_⟩:=Hand.hc2 g_A
   obtain ⟨cB0,_,cB1,_⟩:=Hand.hc2 g_B
   obtain ⟨cR0,_,cR1,_⟩:=Hand.hc2 g_R
   obtain ⟨z_A,_⟩:=Hand.hz g_A
   obtain ⟨z_B,_⟩:=Hand.hz g_B
   obtain ⟨z_R,_⟩:=Hand.hz g_R
   clear hb2
   have lR2:=(Hand.hz g_R).1
   obtain ⟨N,hN⟩:∃ V_,V_=w2.alloc (.cells #[.bool s,.int .u64 n1,.int .u64 n2] 126):=⟨_,rfl⟩
   have g_N:N.heap[w2.heap.size]?=some (.cells #[.bool s,.int .u64 n1,.int .u64 n2] 126 (0,0)):=by rw [hN];exact Hand.q3 _ _ _ rfl
   have hb3:Below w2.heap.size w2 N:=by rw [hN];exact (Below.refl _ _).alloc (Nat.le_refl _) _
   have g_A:=Hand.kb hb3 g_A
   have g_B:=Hand.kb hb3 g_B
   have g_R:=Hand.kb hb3 g_R
   have HB:=Hand.stepB hb3 HB (Nat.le_refl _)
   obtain ⟨cA0,_,cA1,_⟩:=Hand.hc2 g_A
   obtain ⟨cB0,_,cB1,_⟩:=Hand.hc2 g_B
   obtain ⟨cR0,_,cR1,_⟩:=Hand.hc2 g_R
   obtain ⟨z_A,_⟩:=Hand.hz g_A
   obtain ⟨z_B,_⟩:=Hand.hz g_B
   obtain ⟨z_R,_⟩:=Hand.hz g_R
   clear hb3
   go_wp2_with fail
   rw [← hN]
   clear hN
   with_reducible refine (M2.out _).mono ?_
   rintro e_ w4 ⟨rfl,hb4⟩
   have g_A:=Hand.kb hb4 g_A
   have g_B:=Hand.kb hb4 g_B
   have g_R:=Hand.kb hb4 g_R
   have g_N:=Hand.kb hb4 g_N
   have HB:=Hand.stepB hb4 HB (Nat.le_refl _)
   obtain ⟨cA0,_,cA1,_⟩:=Hand.hc2 g_A
   obtain ⟨cB0,_,cB1,_⟩:=Hand.hc2 g_B
   obtain ⟨cR0,_,cR1,_⟩:=Hand.hc2 g_R
   obtain ⟨cN0,_,cN1,_,cN2,_⟩:=Hand.hc3 g_N
   obtain ⟨z_A,_⟩:=Hand.hz g_A
   obtain ⟨z_B,_⟩:=Hand.hz g_B
   obtain ⟨z_R,_⟩:=Hand.hz g_R
   obtain ⟨z_N,_⟩:=Hand.hz g_N
   clear hb4
   have lN:=(Hand.hz g_N).1
   have lR:=(Hand.hz g_R).1
   have hsz:=HB.size
   cases p
   ·have eb:(false != s)=s:=by cases s<;>rfl
    rw [eb] at M3
    go_wp2_with fail
    refine wp_world (fun V hV=>?_)
    have h_R:V.heap[w.heap.size+1+1]?=some (.cells #[.int .i64 0,.int .i64 0] 31 (0,0)):=by rw [hV];simp (disch:=try exact Hand.z) only [Hand.q4,Hand.q3,Hand.q2,Hand.q1,Hand.q5,g_R]
    have h_N:V.heap[w2.heap.size]?=some (.cells #[.bool s,.int .u64 n1,.int .u64 n2] 126 (0,0)):=by rw [hV];simp (disch:=try exact Hand.z) only [Hand.q4,Hand.q3,Hand.q2,Hand.q1,Hand.q5,g_N]<;>rfl
    have h_D:V.heap[w4.heap.size]?=some (.cells #[.bool false,.int .u64 d1,.int .u64 d2] 126 (0,0)):=by rw [hV];simp (disch:=try exact Hand.z) only [Hand.q4,Hand.q3,Hand.q2,Hand.q1,Hand.q5,g_N]<;>rfl
    have HBV:=Lib.hid (show Below w.heap.size w V from by rw [hV];repeat (with_reducible first|assumption|apply Below.drew|refine Below.setCell ?_ Hand.d _|refine Below.alloc ?_ Hand.z _))
    clear hV HB g_N cN0 cN1 cN2 z_N
    have g_R:=h_R
    clear h_R
    obtain ⟨n0_,_,n1_,_,n2_,_⟩:=Hand.hc3 h_N
    obtain ⟨d0_,_,d1_,_,d2_,_⟩:=Hand.hc3 h_D
    have lD:=(Hand.hz h_D).1
    have lN2:=(Hand.hz h_N).1
    obtain ⟨cR0,fR0,cR1,fR1⟩:=Hand.hc2 g_R
    obtain ⟨zR,_,_,_,_⟩:=Hand.hz g_R
    have HC:=Lib.hid (fun (w_:World) (h:Fx (w.heap.size+1+1) V w_)=>(⟨h,(h.cell _ Hand.d Hand.d).trans n0_,(h.cell _ Hand.d Hand.d).trans n1_,(h.cell _ Hand.d Hand.d).trans n2_,(h.cell _ Hand.d Hand.d).trans d0_,(h.cell _ Hand.d Hand.d).trans d1_,(h.cell _ Hand.d Hand.d).trans d2_⟩:Fx (w.heap.size+1+1) V w_∧w_.cell? ⟨w2.heap.size,0,none⟩=some (.bool s)∧w_.cell? ⟨w2.heap.size,1,none⟩=some (.int .u64 n1)∧w_.cell? ⟨w2.heap.size,2,none⟩=some (.int .u64 n2)∧w_.cell? ⟨w4.heap.size,0,none⟩=some (.bool false)∧w_.cell? ⟨w4.heap.size,1,none⟩=some (.int .u64 d1)∧w_.cell? ⟨w4.heap.size,2,none⟩=some (.int .u64 d2)))
    have BR:Fx (w.heap.size+1+1) V V:=Fx.refl _ _
    clear h_N h_D n0_ n1_ n2_ d0_ d1_ d2_ cA0 cA1 cB0 cB1 g_A g_B z_A z_B
    go_region_held3 (fun w_=>Fx (w.heap.size+1+1) V w_∧w_.cell? ⟨w2.heap.size,0,none⟩=some (.bool s)∧w_.cell? ⟨w2.heap.size,1,none⟩=some (.int .u64 n1)∧w_.cell? ⟨w2.heap.size,2,none⟩=some (.int .u64 n2)∧w_.cell? ⟨w4.heap.size,0,none⟩=some (.bool false)∧w_.cell? ⟨w4.heap.size,1,none⟩=some (.int .u64 d1)∧w_.cell? ⟨w4.heap.size,2,none⟩=some (.int .u64 d2)) (first|(refine HC.out _ ?_;repeat (with_reducible first|assumption|apply Fx.drew|apply Fx.alloc|refine Fx.setCell ?_ _ _))) (first|(go_at_call 100;((with_reducible refine (M3.out _).mono ?_);rintro e_ w7 ⟨rfl,hb7⟩;have BB:Fx (w.heap.size+1+1) V w7:=Fx.trans (by repeat (with_reducible first|assumption|apply Fx.drew|apply Fx.alloc|refine Fx.setCell ?_ _ _)) (Fx.of_below hb7);have g_R:=Hand.kb (i:=w.heap.size+1+1) (x:=.cells #[.int .i64 0,.int .i64 0] 31 (0,0)) hb7 (by first|exact g_R|(rw [Hand.q5];exact g_R));obtain ⟨cR0,fR0,cR1,fR1⟩:=Hand.hc2 g_R;obtain ⟨zR,_,_,_,_⟩:=Hand.hz g_R))|(go_at_call 92;((with_reducible refine (M4.out _).mono ?_);rintro e_ w8 ⟨rfl,hb8⟩;have BB:Fx (w.heap.size+1+1) V w8:=Fx.trans (by repeat (with_reducible first|assumption|apply Fx.drew|apply Fx.alloc|refine Fx.setCell ?_ _ _)) (Fx.of_below hb8);have g_R:=Hand.kb (i:=w.heap.size+1+1) (x:=.cells #[.int .i64 0,.int .i64 0] 31 (0,0)) hb8 (by first|exact g_R|(rw [Hand.q5];exact g_R));obtain ⟨cR0,fR0,cR1,fR1⟩:=Hand.hc2 g_R;obtain ⟨zR,_,_,_,_⟩:=Hand.hz g_R)))
    all_goals go_wp2
    all_goals (refine bodyPost_ret (results_ct rfl _ _ (w.heap.size+1+1) 31 #[.int .i64 x,.int .i64 y] (0,0) _ rfl ?_ Try.underlying31 rfl (by kernel_rfl)) rfl ⟨rfl,?_⟩)
    all_goals (first|(simp (disch:=try exact Hand.z) only [Hand.q5,Hand.q1,Hand.q2,g_R];rfl)|(refine Fx.below (g:=w.heap.size+1+1) (w:=V) ?_ HBV.out (by omega) HBV.out.size;repeat (with_reducible first|assumption|apply Fx.drew|apply Fx.alloc|refine Fx.setCell ?_ _ _)))
   ·have eb:(true != s)=(!s):=by cases s<;>rfl
    rw [eb] at M3
    go_wp2_with fail
    refine wp_world (fun V hV=>?_)
    have h_R:V.heap[w.heap.size+1+1]?=some (.cells #[.int .i64 0,.int .i64 0] 31 (0,0)):=by rw [hV];simp (disch:=try exact Hand.z) only [Hand.q4,Hand.q3,Hand.q2,Hand.q1,Hand.q5,g_R]
    have h_N:V.heap[w2.heap.size]?=some (.cells #[.bool (!s),.int .u64 n1,.int .u64 n2] 126 (0,0)):=by rw [hV];simp (disch:=try exact Hand.z) only [Hand.q4,Hand.q3,Hand.q2,Hand.q1,Hand.q5,g_N]<;>rfl
    have h_D:V.heap[w4.heap.size]?=some (.cells #[.bool false,.int .u64 d1,.int .u64 d2] 126 (0,0)):=by rw [hV];simp (disch:=try exact Hand.z) only [Hand.q4,Hand.q3,Hand.q2,Hand.q1,Hand.q5,g_N]<;>rfl
    have HBV:=Lib.hid (show Below w.heap.size w V from by rw [hV];repeat (with_reducible first|assumption|apply Below.drew|refine Below.setCell ?_ Hand.d _|refine Below.alloc ?_ Hand.z _))
    clear hV HB g_N cN0 cN1 cN2 z_N
    have g_R:=h_R
    clear h_R
    obtain ⟨n0_,_,n1_,_,n2_,_⟩:=Hand.hc3 h_N
    obtain ⟨d0_,_,d1_,_,d2_,_⟩:=Hand.hc3 h_D
    have lD:=(Hand.hz h_D).1
    have lN2:=(Hand.hz h_N).1
    obtain ⟨cR0,fR0,cR1,fR1⟩:=Hand.hc2 g_R
    obtain ⟨zR,_,_,_,_⟩:=Hand.hz g_R
    have HC:=Lib.hid (fun (w_:World) (h:Fx (w.heap.size+1+1) V w_)=>(⟨h,(h.cell _ Hand.d Hand.d).trans n0_,(h.cell _ Hand.d Hand.d).trans n1_,(h.cell _ Hand.d Hand.d).trans n2_,(h.cell _ Hand.d Hand.d).trans d0_,(h.cell _ Hand.d Hand.d).trans d1_,(h.cell _ Hand.d Hand.d).trans d2_⟩:Fx (w.heap.size+1+1) V w_∧w_.cell? ⟨w2.heap.size,0,none⟩=some (.bool (!s))∧w_.cell? ⟨w2.heap.size,1,none⟩=some (.int .u64 n1)∧w_.cell? ⟨w2.heap.size,2,none⟩=some (.int .u64 n2)∧w_.cell? ⟨w4.heap.size,0,none⟩=some (.bool false)∧w_.cell? ⟨w4.heap.size,1,none⟩=some (.int .u64 d1)∧w_.cell? ⟨w4.heap.size,2,none⟩=some (.int .u64 d2)))
    have BR:Fx (w.heap.size+1+1) V V:=Fx.refl _ _
    clear h_N h_D n0_ n1_ n2_ d0_ d1_ d2_ cA0 cA1 cB0 cB1 g_A g_B z_A z_B
    go_region_held3 (fun w_=>Fx (w.heap.size+1+1) V w_∧w_.cell? ⟨w2.heap.size,0,none⟩=some (.bool (!s))∧w_.cell? ⟨w2.heap.size,1,none⟩=some (.int .u64 n1)∧w_.cell? ⟨w2.heap.size,2,none⟩=some (.int .u64 n2)∧w_.cell? ⟨w4.heap.size,0,none⟩=some (.bool false)∧w_.cell? ⟨w4.heap.size,1,none⟩=some (.int .u64 d1)∧w_.cell? ⟨w4.heap.size,2,none⟩=some (.int .u64 d2)) (first|(refine HC.out _ ?_;repeat (with_reducible first|assumption|apply Fx.drew|apply Fx.alloc|refine Fx.setCell ?_ _ _))) (first|(go_at_call 100;((with_reducible refine (M3.out _).mono ?_);rintro e_ w7 ⟨rfl,hb7⟩;have BB:Fx (w.heap.size+1+1) V w7:=Fx.trans (by repeat (with_reducible first|assumption|apply Fx.drew|apply Fx.alloc|refine Fx.setCell ?_ _ _)) (Fx.of_below hb7);have g_R:=Hand.kb (i:=w.heap.size+1+1) (x:=.cells #[.int .i64 0,.int .i64 0] 31 (0,0)) hb7 (by first|exact g_R|(rw [Hand.q5];exact g_R));obtain ⟨cR0,fR0,cR1,fR1⟩:=Hand.hc2 g_R;obtain ⟨zR,_,_,_,_⟩:=Hand.hz g_R))|(go_at_call 92;((with_reducible refine (M4.out _).mono ?_);rintro e_ w8 ⟨rfl,hb8⟩;have BB:Fx (w.heap.size+1+1) V w8:=Fx.trans (by repeat (with_reducible first|assumption|apply Fx.drew|apply Fx.alloc|refine Fx.setCell ?_ _ _)) (Fx.of_below hb8);have g_R:=Hand.kb (i:=w.heap.size+1+1) (x:=.cells #[.int .i64 0,.int .i64 0] 31 (0,0)) hb8 (by first|exact g_R|(rw [Hand.q5];exact g_R));obtain ⟨cR0,fR0,cR1,fR1⟩:=Hand.hc2 g_R;obtain ⟨zR,_,_,_,_⟩:=Hand.hz g_R)))
    all_goals go_wp2
    all_goals (refine bodyPost_ret (results_ct rfl _ _ (w.heap.size+1+1) 31 #[.int .i64 x,.int .i64 y] (0,0) _ rfl ?_ Try.underlying31 rfl (by kernel_rfl)) rfl ⟨rfl,?_⟩)
    all_goals (first|(simp (disch:=try exact Hand.z) only [Hand.q5,Hand.q1,Hand.q2,g_R];rfl)|(refine Fx.below (g:=w.heap.size+1+1) (w:=V) ?_ HBV.out (by omega) HBV.out.size;repeat (with_reducible first|assumption|apply Fx.drew|apply Fx.alloc|refine Fx.setCell ?_ _ _)))
end Go.Proofs.Ythlpaglldhgmfaa.PA
