/- Chapter 6: Check of both. -/
import Derived.Test.YthlpaglldhgmfaaM3
import Derived.Deep.QuietTactic
import Derived.BigQuiet
set_option maxHeartbeats 1600000
set_option maxRecDepth 100000
namespace Go.Proofs.Ythlpaglldhgmfaa.CS
def okR (n d:Int) (dr:Bool):Bool :=
 decide (1≤n∧n≤240000∧1≤d∧d≤1001∧Nat.gcd n.natAbs d.natAbs=1∧d≤n∧n≤240*d∧(dr=true → d=1001∧(n=30000 ∨ n=60000)))
structure Ok (n d:Int) (dr:Bool):Prop where
 n1:1≤n
 n2:n≤240000
 d1:1≤d
 d2:d≤1001
 g:Nat.gcd n.natAbs d.natAbs=1
 le:d≤n
 ge:n≤240*d
 dr:dr=true → d=1001∧(n=30000 ∨ n=60000)
theorem okR_iff {n d:Int} {dr:Bool}:okR n d dr=true ↔ Ok n d dr:=by
 unfold okR
 rw [decide_eq_true_iff]
 exact ⟨fun ⟨a,b,c,d,e,f,g,h⟩=>⟨a,b,c,d,e,f,g,h⟩,fun h=>⟨h.n1,h.n2,h.d1,h.d2,h.g,h.le,h.ge,h.dr⟩⟩
def checkS (n d:Int) (dr:Bool):Int:=if okR n d dr=true then 0 else 14
end Go.Proofs.Ythlpaglldhgmfaa.CS
namespace Go.Proofs.Ythlpaglldhgmfaa.PA
open Go Go.RowKit Go.Proofs.YthlpaglldhgmfaaW.PrintWords Go.Proofs.YthlpaglldhgmfaaW.PrintLast Go.Proofs.YthlpaglldhgmfaaW.PrintMore Go.Proofs.Ythlpaglldhgmfaa.CS
set_option linter.unusedSimpArgs false
set_option linter.unusedVariables false
theorem eqA131 (d:Nat) (w:World) (x0 y0:Int) (x1 y1:Int) :
  (Op.equalIn (d+2) 131 (.agg #[.int .i64 x0,.int .i64 x1]) (.agg #[.int .i64 y0,.int .i64 y1])).run Try.prog w = .ok (x0 == y0 && (x1 == y1)) w:=by
 have hu:Try.prog.underlying 131=some (.array 2 3):=by kernel_rfl
 have s3:(sizeOf 3).run Try.prog w = .ok 1 w:=by go_simp
 rw [Op.equalIn]
 simp only [Sem.run_bind,run_underlying hu,Result.andThen_ok,s3]
 simp [go_sem,List.range'_succ]
 by_cases h0:x0=y0<;>by_cases h1:x1=y1<;>simp [h0,h1]
attribute [local go_sem high] eqA131
abbrev rate (n d:Int) (dr:Bool):Value:=.agg #[.int .i64 n,.int .i64 d,.bool dr]
def dropsS (n d:Int):Int:=if (n == 30000 && (d == 1001))=true then 2 else if (n == 60000 && (d == 1001))=true then 4 else 0
theorem drops_any (n d:Int) (w:World) :
  Calls Try.prog 97 #[.agg #[.int .i64 n,.int .i64 d]] w fun e w'=>e = .returned (.int .i64 (dropsS n d))∧Below w.heap.size w w':=by
 unfold dropsS
 cases h1:(n == 30000)<;>cases h2:(n == 60000)<;>cases h3:(d == 1001)
 all_goals
  simp only [Bool.false_and,Bool.and_false,Bool.true_and,Bool.and_true,if_true,Bool.false_eq_true,if_false]
  go_enter Try.func97,Try.ntmps97
  go_wp2
  go_ret
  exact ⟨rfl,(Below.refl _ _).alloc (Nat.le_refl _) _⟩
theorem check_out (n d:Int) (dr:Bool) (w:World) (h:n<1 ∨ n > 240000 ∨ d<1 ∨ d > 1001) :
  Calls Try.prog 62 #[rate n d dr] w fun e w'=>e = .returned (.int .i64 14)∧Below w.heap.size w w':=by
 have hh:=Lib.hid h
 clear h
 go_enter Try.func62,Try.ntmps62
 go_wp2
 all_goals first
  | (go_ret;exact ⟨rfl,(Below.refl _ _).alloc (Nat.le_refl _) _⟩)
  | (exfalso;have:=hh.out;omega)
theorem checkS_eq {n d:Int} {dr:Bool} (a:Nat) (n1:1≤n) (n2:n≤240000) (d1:1≤d) (d2:d≤1001) (hg:Nat.gcd a 0=Nat.gcd n.natAbs d.natAbs) :
  checkS n d dr=if a=1∧d≤n∧n≤240*d∧(dr=true → (dropsS n d == 0)=false) then 0 else 14:=by
 rw [Nat.gcd_zero_right] at hg
 unfold checkS
 have e:okR n d dr=true ↔ a=1∧d≤n∧n≤240*d∧(dr=true → (dropsS n d == 0)=false):=by
  rw [okR_iff]
  have hd:(dropsS n d == 0)=false ↔ d=1001∧(n=30000 ∨ n=60000):=by
   unfold dropsS
   by_cases h1:n=30000<;>by_cases h2:n=60000<;>by_cases h3:d=1001<;>simp [h1,h2,h3]<;>omega
  rw [hd,hg]
  exact ⟨fun h=>⟨h.g,h.le,h.ge,h.dr⟩,fun ⟨a,b,c,e⟩=>⟨n1,n2,d1,d2,a,b,c,e⟩⟩
 by_cases h:okR n d dr=true
 ·rw [if_pos h,if_pos (e.mp h)]
 ·rw [if_neg h,if_neg (fun x=>h (e.mpr x))]
theorem check_in (n d:Int) (dr z:Bool) (w:World) (n1:1≤n) (n2:n≤240000) (d1:1≤d) (d2:d≤1001) (hz:(dropsS n d == 0)=z) :
  Calls Try.prog 62 #[rate n d dr] w fun e w'=>e = .returned (.int .i64 (checkS n d dr))∧Below w.heap.size w w':=by
 have hc:=Lib.hid (fun (a:Nat)=>checkS_eq (dr:=dr) a n1 n2 d1 d2)
 have HZ:=Lib.hid hz
 obtain ⟨q,hq⟩:∃ q,dropsS n d=q:=⟨_,rfl⟩
 have m1:=drops_any n d
 rw [hq] at hz m1
 have M1:=Lib.hid m1
 clear m1 hq
 obtain ⟨R,hR⟩:∃ R,checkS n d dr=R:=⟨_,rfl⟩
 rw [hR]
 have HR:=Lib.hid hR
 clear hR
 cases dr<;>cases z
 all_goals
  go_enter Try.func62,Try.ntmps62
  go_wp2
  go_quiet (fail)
  go_wp2
  go_loopw [3,4] (fun x y wr=>∃ a b k:Nat,x = .int .i64 a∧y = .int .i64 b∧Nat.gcd a b=Nat.gcd n.natAbs d.natAbs∧1≤a∧a≤240000∧b≤240000∧wr=(w.alloc (.cells #[.int .i64 n,.int .i64 d,.bool _] 50)).drewN k) (fun _ y _=>(intOf y).toNat)
  case atStart =>
   refine ⟨n.toNat,d.toNat,_,?_,?_,?_,by omega,by omega,by omega,rfl⟩
   ·rw [Int.toNat_of_nonneg (by omega)]
   ·rw [Int.toNat_of_nonneg (by omega)]
   ·congr 1<;>omega
  case round =>
   obtain ⟨a,b,k,rfl,rfl,hg,a1,a2,b2,rfl⟩:=hrel
   have HG:=Lib.hid hg
   clear hg
   by_cases hb:b=0
   ·subst hb
    go_wp2_with (go_at_call 97;(with_reducible refine (M1.out _).mono ?_);rintro e w1 ⟨rfl,hb1⟩)
    all_goals
     go_ret
     refine ⟨?_,?_⟩
     ·have h2:=hc.out a HG.out
      rw [HR.out,HZ.out] at h2
      rw [h2]
      first
       | (rw [if_pos ⟨by omega,by omega,by omega,by simp⟩];rfl)
       | (rw [if_neg (fun hh=>by obtain ⟨h3,h4,h5,h6⟩:=hh;first|omega|simp at h6)];rfl)
     ·first
       | exact Below.trans (pw_below_drewN ((Below.refl _ _).alloc (Nat.le_refl _) _) _) (hb1.mono (by simp))
       | exact pw_below_drewN ((Below.refl _ _).alloc (Nat.le_refl _) _) _
   ·have hb1:((b:Int) == 0)=false:=by simp;omega
    have hb2:((b:Int) != 0)=true:=by simp;omega
    go_wp2
    go_quiet (fail)
    go_wp2
    go_roundw
    case rel =>
     refine ⟨b,a % b,_,rfl,by first|rfl|go_num,?_,by omega,b2,?_,World.drewN_drewN _ _ _⟩
     ·rw [← HG.out,Nat.gcd_comm b,Nat.gcd_comm a b,← Nat.gcd_rec]
     ·have:=Nat.mod_lt a (show b > 0 by omega);omega
    case measure =>
     have:=Nat.mod_lt a (show b > 0 by omega)
     simp [intOf];omega
theorem check_any (n d:Int) (dr:Bool) (w:World) :
  Calls Try.prog 62 #[rate n d dr] w fun e w'=>e = .returned (.int .i64 (checkS n d dr))∧Below w.heap.size w w':=by
 by_cases h:n<1 ∨ n > 240000 ∨ d<1 ∨ d > 1001
 ·have e:checkS n d dr=14:=by
   unfold checkS
   rw [if_neg (fun hh=>by have:=okR_iff.mp hh;obtain ⟨_,_,_,_,_,_,_,_⟩:=this;omega)]
  rw [e];exact check_out n d dr w h
 ·exact check_in n d dr _ w (by omega) (by omega) (by omega) (by omega) rfl
theorem rcommon_any (x y:Nat) (hx:(x:Int)≤9223372036854775807) (hy:(y:Int)≤9223372036854775807) (w:World) :
  Calls Try.prog 99 #[.int .i64 (x:Int),.int .i64 (y:Int)] w fun e w'=>e = .returned (.int .i64 (Nat.gcd x y:Int))∧Below w.heap.size w w':=by
 go_enter Try.func99,Try.ntmps99
 go_wp2
 go_loopw [0,1] (fun p q wr=>∃ a b k:Nat,p = .int .i64 a∧q = .int .i64 b∧Nat.gcd a b=Nat.gcd x y∧(a:Int)≤9223372036854775807∧(b:Int)≤9223372036854775807∧wr=w.drewN k) (fun _ q _=>(intOf q).toNat)
 case atStart=>exact ⟨x,y,0,rfl,rfl,rfl,hx,hy,rfl⟩
 case round =>
  obtain ⟨a,b,k,rfl,rfl,hg,a2,b2,rfl⟩:=hrel
  have HG:=Lib.hid hg
  clear hg
  by_cases hb:b=0
  ·subst hb
   go_wp2
   go_ret
   exact ⟨by rw [← HG.out,Nat.gcd_zero_right];rfl,pw_below_drewN (Below.refl _ _) _⟩
  ·have hb1:((b:Int) == 0)=false:=by simp;omega
   have hb2:((b:Int) != 0)=true:=by simp;omega
   go_wp2
   go_quiet (fail)
   go_wp2
   go_roundw
   case rel =>
    refine ⟨b,a % b,_,rfl,by first|rfl|go_num,?_,b2,?_,World.drewN_drewN _ _ _⟩
    ·rw [← HG.out,Nat.gcd_comm b,Nat.gcd_comm a b,← Nat.gcd_rec]
    ·have:=Nat.mod_lt a (show b > 0 by omega);omega
   case measure =>
    have:=Nat.mod_lt a (show b > 0 by omega)
    simp [intOf];omega
theorem common_of {a b:Int} (ha:0≤a) (ha1:a≤9223372036854775807) (hb:0≤b) (hb1:b≤9223372036854775807) (w:World) :
  Calls Try.prog 99 #[.int .i64 a,.int .i64 b] w fun e w'=>e = .returned (.int .i64 (Nat.gcd a.natAbs b.natAbs:Int))∧Below w.heap.size w w':=by
 have h:=rcommon_any a.natAbs b.natAbs (by omega) (by omega) w
 rw [show ((a.natAbs:Nat):Int)=a by omega,show ((b.natAbs:Nat):Int)=b by omega] at h
 exact h
theorem checkS_of {n d:Int} {dr:Bool} {g:Nat} (n1:1≤n) (n2:n≤240000) (d1:1≤d) (d2:d≤1001) (hg:Nat.gcd n.natAbs d.natAbs=g) :
  checkS n d dr=if g=1∧d≤n∧n≤240*d∧(dr=true → d=1001∧(n=30000 ∨ n=60000)) then 0 else 14:=by
 unfold checkS
 have e:okR n d dr=true ↔ g=1∧d≤n∧n≤240*d∧(dr=true → d=1001∧(n=30000 ∨ n=60000)):=by
  rw [okR_iff,← hg]
  exact ⟨fun h=>⟨h.g,h.le,h.ge,h.dr⟩,fun ⟨a,b,c,e⟩=>⟨n1,n2,d1,d2,a,b,c,e⟩⟩
 by_cases h:okR n d dr=true
 ·rw [if_pos h,if_pos (e.mp h)]
 ·rw [if_neg h,if_neg (fun x=>h (e.mpr x))]
theorem rcheck_false (n d R:Int) (g:Nat) (w:World) (n1:1≤n) (n2:n≤240000) (d1:1≤d) (d2:d≤1001) (g9:(g:Int)≤240000)
  (hR:(if g=1∧d≤n∧n≤240*d∧(false=true → d=1001∧(n=30000 ∨ n=60000)) then 0 else 14)=R)
  (m1:∀ w,Calls Try.prog 99 #[.int .i64 n,.int .i64 d] w fun e w'=>e = .returned (.int .i64 (g:Int))∧Below w.heap.size w w') :
  Calls Try.prog 64 #[rate n d false] w fun e w'=>e = .returned (.int .i64 R)∧Below w.heap.size w w':=by
 have M1:=Lib.hid m1
 have HR:=Lib.hid hR
 clear m1 hR
 have hgc:((g:Int) != 1)=false∧g=1 ∨ ((g:Int) != 1)=true∧g≠1:=by
  by_cases hg1:g=1
  ·exact .inl ⟨by simp [hg1],hg1⟩
  ·exact .inr ⟨by simp;omega,hg1⟩
 rcases hgc with ⟨hg2,hg1⟩|⟨hg2,hg1⟩
 all_goals
  have HG1:=Lib.hid hg1
  clear hg1
  go_enter Try.func64,Try.ntmps64
  go_wp2_with fail
  with_reducible refine (M1.out _).mono ?_
  rintro e w1 ⟨rfl,hb1⟩
  have h_A:w1.heap[w.heap.size]?=some (.cells #[.int .i64 n,.int .i64 d,.bool false] 50 (0,0)):=by
   exact Hand.kb hb1 Hand.k
  have hB':Below w.heap.size w w1:=Hand.stepB hb1 Hand.b (Nat.le_refl _)
  clear hb1
  have g_A:=h_A
  have hB:=hB'
  clear hB' h_A
  obtain ⟨z_A,z1_A,z2_A,y0_A,y1_A⟩:=Hand.hz g_A
  obtain ⟨c_A_0,f_A_0,c_A_1,f_A_1,c_A_2,f_A_2⟩:=Hand.hc3 g_A
  have zw:w.heap.size≤w1.heap.size:=hB.size
  have HG:=Lib.hid (And.intro g_A (hB))
  clear g_A hB
  go_wp2
  all_goals
   go_ret
   obtain ⟨g_A,hB⟩:=HG.out
   refine ⟨?_,hB⟩
   have hg1:=HG1.out
   rw [← HR.out]
   first
    | (rw [if_pos ⟨by omega,by omega,by omega,by first|(intro h;cases h;done)|(intro _;omega)⟩];rfl)
    | (rw [if_neg (fun hh=>by obtain ⟨h3,h4,h5,h6⟩:=hh;first|omega|(have h7:=h6 (by first|rfl|trivial);omega))];rfl)
theorem rcheck_true (n d R:Int) (g:Nat) (w:World) (n1:1≤n) (n2:n≤240000) (d1:1≤d) (d2:d≤1001) (g9:(g:Int)≤240000)
  (hR:(if g=1∧d≤n∧n≤240*d∧(true=true → d=1001∧(n=30000 ∨ n=60000)) then 0 else 14)=R)
  (m1:∀ w,Calls Try.prog 99 #[.int .i64 n,.int .i64 d] w fun e w'=>e = .returned (.int .i64 (g:Int))∧Below w.heap.size w w') :
  Calls Try.prog 64 #[rate n d true] w fun e w'=>e = .returned (.int .i64 R)∧Below w.heap.size w w':=by
 have M1:=Lib.hid m1
 have HR:=Lib.hid hR
 clear m1 hR
 have hgc:((g:Int) != 1)=false∧g=1 ∨ ((g:Int) != 1)=true∧g≠1:=by
  by_cases hg1:g=1
  ·exact .inl ⟨by simp [hg1],hg1⟩
  ·exact .inr ⟨by simp;omega,hg1⟩
 rcases hgc with ⟨hg2,hg1⟩|⟨hg2,hg1⟩
 all_goals
  have HG1:=Lib.hid hg1
  clear hg1
  go_enter Try.func64,Try.ntmps64
  go_wp2_with fail
  with_reducible refine (M1.out _).mono ?_
  rintro e w1 ⟨rfl,hb1⟩
  have h_A:w1.heap[w.heap.size]?=some (.cells #[.int .i64 n,.int .i64 d,.bool true] 50 (0,0)):=by
   exact Hand.kb hb1 Hand.k
  have hB':Below w.heap.size w w1:=Hand.stepB hb1 Hand.b (Nat.le_refl _)
  clear hb1
  have g_A:=h_A
  have hB:=hB'
  clear hB' h_A
  obtain ⟨z_A,z1_A,z2_A,y0_A,y1_A⟩:=Hand.hz g_A
  obtain ⟨c_A_0,f_A_0,c_A_1,f_A_1,c_A_2,f_A_2⟩:=Hand.hc3 g_A
  have zw:w.heap.size≤w1.heap.size:=hB.size
  have HG:=Lib.hid (And.intro g_A (hB))
  clear g_A hB
  go_wp2
  all_goals
   go_ret
   obtain ⟨g_A,hB⟩:=HG.out
   refine ⟨?_,hB⟩
   have hg1:=HG1.out
   rw [← HR.out]
   first
    | (rw [if_pos ⟨by omega,by omega,by omega,by first|(intro h;cases h;done)|(intro _;omega)⟩];rfl)
    | (have hx:(!n == 30000)=false ∨ (!n == 60000)=false:=(by assumption);simp at hx;rw [if_pos ⟨by omega,by omega,by omega,fun _=>by omega⟩];rfl)
    | (have hx:(!n == 30000)=true∧(!n == 60000)=true:=(by assumption);simp at hx;rw [if_neg (fun hh=>by obtain ⟨h3,h4,h5,h6⟩:=hh;have h7:=h6 (by first|rfl|trivial);omega)];rfl)
    | (rw [if_neg (fun hh=>by obtain ⟨h3,h4,h5,h6⟩:=hh;first|omega|(have h7:=h6 (by first|rfl|trivial);omega))];rfl)
theorem rcheck_out (n d:Int) (dr:Bool) (w:World) (h:n<1 ∨ n > 240000 ∨ d<1 ∨ d > 1001) :
  Calls Try.prog 64 #[rate n d dr] w fun e w'=>e = .returned (.int .i64 14)∧Below w.heap.size w w':=by
 have hh:=Lib.hid h
 clear h
 go_enter Try.func64,Try.ntmps64
 go_wp2_with fail
 all_goals first
  | (go_ret;exact ⟨rfl,(Below.refl _ _).alloc (Nat.le_refl _) _⟩)
  | (exfalso;have:=hh.out;omega)
theorem rcheck_any (n d:Int) (dr:Bool) (w:World) :
  Calls Try.prog 64 #[rate n d dr] w fun e w'=>e = .returned (.int .i64 (checkS n d dr))∧Below w.heap.size w w':=by
 by_cases h:n<1 ∨ n > 240000 ∨ d<1 ∨ d > 1001
 ·have e:checkS n d dr=14:=by
   unfold checkS
   rw [if_neg (fun hh=>by have:=okR_iff.mp hh;obtain ⟨_,_,_,_,_,_,_,_⟩:=this;omega)]
  rw [e];exact rcheck_out n d dr w h
 ·have h1:1≤n:=by omega
  have h2:1≤d:=by omega
  have m1:=common_of (a:=n) (b:=d) (by omega) (by omega) (by omega) (by omega)
  have hg:Nat.gcd n.natAbs d.natAbs≤n.natAbs:=Nat.gcd_le_left _ (by omega)
  have e:=checkS_of (dr:=dr) (n:=n) (d:=d) h1 (by omega) h2 (by omega) rfl
  cases dr
  ·exact rcheck_false n d _ _ w h1 (by omega) h2 (by omega) (by omega) e.symm m1
  ·exact rcheck_true n d _ _ w h1 (by omega) h2 (by omega) (by omega) e.symm m1
end Go.Proofs.Ythlpaglldhgmfaa.PA
