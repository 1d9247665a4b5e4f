-- made by wip/pp2.py out of the translation, over contracts of my own
import Derived.Test.YthlpaglldhgmfaaProg
import Derived.Below
import Derived.Deep.Draws
import Derived.Deep.AppendLies
import Derived.Maps.AppendAt
import Derived.OwnWalk
import Derived.Laws.BytesArg
import Derived.Laws.MakeOwn
import Derived.Laws.OwnMore
import Derived.Deep.OwnRows
import Derived.Tactics
import Derived.Lib.ConvBytes
import Derived.Laws.Slices
import Derived.WalkKit
import Derived.KernelRfl
import Derived.RowKit3
import Derived.Deep.LoopGhost
import Derived.Deep.QuietTactic
import Derived.BigQuiet
import Derived.WideLaws
import Derived.Deep.DeepCutAuto
import Derived.Deep.CutBlock
import Derived.Deep.RegionHeld3
import Derived.Laws.Rows
import Derived.Lib.AppendStr
import Derived.ArgAppend
import Derived.Laws.IdiomCopy
import Derived.OrdersHeld
import Derived.Laws.BitsLemmas
import Derived.RowKit
import Derived.Test.YthlpaglldhgmfaaU64
import Derived.Test.YthlpaglldhgmfaaXW
set_option maxHeartbeats 8000000
set_option maxRecDepth 100000
namespace Go.Proofs.Ythlpaglldhgmfaa.PR
open Go.RowKit Go.Proofs.YthlpaglldhgmfaaW.PrintWords Go.Proofs.YthlpaglldhgmfaaW.PrintLast Go.Proofs.YthlpaglldhgmfaaW.PrintMore
set_option linter.unusedVariables false
set_option linter.unusedSimpArgs false



def errW:Option Int → Value
 | none=>.nilIface
 | some c=>.iface 0 (.int .i64 c)
theorem errW_none:errW none = .nilIface:=rfl
theorem errW_some (c:Int):errW (some c) = .iface 0 (.int .i64 c):=rfl

-- the values' own types


/-! ### surtitleref3_size: function 96 -/
def surtitleref3_size.f (a0:Int):Option (Int):=if a0<0 then (some (IntKind.u64.wrap (-(IntKind.u64.wrap (a0))))) else (some (IntKind.u64.wrap (a0)))
theorem surtitleref3_size.calls (a0:Int) (r:Int) (w:World) (h:surtitleref3_size.f a0=some r) :
  Calls Try.prog 96 #[.int .i64 a0] w fun e w'=>e = .returned (.int .u64 r)∧Drawn0 w w':=by
 have H:(if a0<0 then (some (IntKind.u64.wrap (-(IntKind.u64.wrap (a0))))) else (some (IntKind.u64.wrap (a0))))=some r:=h
 clear h
 by_cases c2:a0<0
 ·rw [if_pos c2] at H
  have c2b0:decide (a0<0)=true:=decide_eq_true c2
  clear c2
  obtain rfl:=Option.some.inj H
  go_enter Try.func96,Try.ntmps96
  go_wp2
  go_ret
  exact ⟨by first|rfl|(simp;done)|(simp [*];done),by repeat (first|exact Drawn0.refl _|apply Drawn0.step)⟩
 ·rw [if_neg c2] at H
  have c2b0:decide (a0<0)=false:=decide_eq_false c2
  clear c2
  obtain rfl:=Option.some.inj H
  go_enter Try.func96,Try.ntmps96
  go_wp2
  go_ret
  exact ⟨by first|rfl|(simp;done)|(simp [*];done),by repeat (first|exact Drawn0.refl _|apply Drawn0.step)⟩

/-! ### surtitleref3_right: function 100 -/
def surtitleref3_right.f (a0_0:Bool) (a0_1:Int) (a0_2:Int):Option (Bool × Int × Int):=if a0_1=0 then (if a0_2=0 then (some (false,a0_1,a0_2)) else (some (a0_0,a0_1,a0_2))) else (some (a0_0,a0_1,a0_2))
theorem surtitleref3_right.calls (a0_0:Bool) (a0_1:Int) (a0_2:Int) (r1:Bool) (r2:Int) (r3:Int) (w:World) (h:surtitleref3_right.f a0_0 a0_1 a0_2=some (r1,r2,r3)) :
  Calls Try.prog 100 #[.agg #[.bool a0_0,.int .u64 a0_1,.int .u64 a0_2]] w fun e w'=>e = .returned (.agg #[.bool r1,.int .u64 r2,.int .u64 r3])∧Below w.heap.size w w':=by
 have hu126:=Try.underlying126
 have HB:=Aside0.mk (Below.refl w.heap.size w)
 have H:(if a0_1=0 then (if a0_2=0 then (some (false,a0_1,a0_2)) else (some (a0_0,a0_1,a0_2))) else (some (a0_0,a0_1,a0_2)))=some (r1,r2,r3):=h
 clear h
 by_cases c2:a0_1=0
 ·rw [if_pos c2] at H
  have c2b0:(a0_1 == 0)=true:=beq_iff_eq.mpr c2
  have c2b1:(a0_1 != 0)=false:=bne_eq_false_iff_eq.mpr c2
  clear c2
  by_cases c3:a0_2=0
  ·rw [if_pos c3] at H
   have c3b0:(a0_2 == 0)=true:=beq_iff_eq.mpr c3
   have c3b1:(a0_2 != 0)=false:=bne_eq_false_iff_eq.mpr c3
   clear c3
   simp only [Option.some.injEq,Prod.mk.injEq] at H
   obtain ⟨rfl,rfl,rfl⟩:=H
   go_enter Try.func100,Try.ntmps100
   go_wp2_with (first|((with_reducible refine gate_dst (N:=1) rfl ?_);refine box_event ?hg (N:=1) ?hd (cs:=#[.bool a0_0,.int .u64 a0_1,.int .u64 a0_2]) (t:=126) ?hr ?_;(case hd=>rfl);(case hg=>rfl);(case hr=>first|(go_simp;done)|(go_simp;rfl));intro gb101 hg w4 hbox hb;have BK101:=Aside0.mk (hbox);have GW101:=ag hg HB;have GE101:=ag hg HB;replace HB:=hs hb HB;clear hb hbox hg)|((with_reducible refine gate_dst (N:=2) rfl ?_);refine box_event ?hg (N:=2) ?hd (cs:=#[.bool false,.int .u64 0,.int .u64 0]) (t:=126) ?hr ?_;(case hd=>rfl);(case hg=>rfl);(case hr=>first|(go_simp;done)|(go_simp;rfl));intro gb102 hg w5 hbox hb;have BK102:=Aside0.mk (hbox);have GW102:=ag hg HB;have GE102:=ag hg HB;have NB101_102:=na hg BK101;have NB102_101:=nb hg BK101;replace BK101:=ab hb BK101;replace HB:=hs hb HB;clear hb hbox hg;have hnb6:=NB101_102.out;have hnc6:=NB102_101.out;obtain ⟨hcz7_0,hcz7_1,hcz7_2,hfz7_0,hfz7_1,hfz7_2⟩:=k3 BK101.out;obtain ⟨hcz8_0,hcz8_1,hcz8_2,hfz8_0,hfz8_1,hfz8_2⟩:=k3 BK102.out))
   refine bodyPost_ret (results_cell_row rfl _ _ gb102 126 #[.bool false,.int .u64 a0_1,.int .u64 a0_2] (0,0) _ rfl (by refine bk ?_;refine blk_put (cs:=#[.bool false,.int .u64 a0_1,.int .u64 0]) ?_ 2 _ rfl;refine bk ?_;refine blk_put (cs:=#[.bool false,.int .u64 0,.int .u64 0]) ?_ 1 _ rfl;refine bk ?_;refine blk_put (cs:=#[.bool false,.int .u64 0,.int .u64 0]) ?_ 0 _ rfl;refine bk ?_;exact BK102.out) Try.underlying126 rfl (by kernel_rfl)) rfl ?_
   exact ⟨by first|rfl|(simp [errW_none,errW_some]<;>rfl)|(simp [*,errW_none,errW_some]<;>rfl),by repeat (first|(with_reducible first|exact HB.out|apply below_alloc|apply pw_below_drewN|apply below_drew1|refine below_set ?_ GE101.out|refine below_set ?_ GE102.out)|exact HB.out)⟩
  ·rw [if_neg c3] at H
   have c3b0:(a0_2 == 0)=false:=beq_eq_false_iff_ne.mpr c3
   have c3b1:(a0_2 != 0)=true:=bne_iff_ne.mpr c3
   simp only [Option.some.injEq,Prod.mk.injEq] at H
   obtain ⟨rfl,rfl,rfl⟩:=H
   go_enter Try.func100,Try.ntmps100
   go_wp2_with (first|((with_reducible refine gate_dst (N:=1) rfl ?_);refine box_event ?hg (N:=1) ?hd (cs:=#[.bool a0_0,.int .u64 a0_1,.int .u64 a0_2]) (t:=126) ?hr ?_;(case hd=>rfl);(case hg=>rfl);(case hr=>first|(go_simp;done)|(go_simp;rfl));intro gb101 hg w9 hbox hb;have BK101:=Aside0.mk (hbox);have GW101:=ag hg HB;have GE101:=ag hg HB;replace HB:=hs hb HB;clear hb hbox hg)|((with_reducible refine gate_dst (N:=2) rfl ?_);refine box_event ?hg (N:=2) ?hd (cs:=#[.bool false,.int .u64 0,.int .u64 0]) (t:=126) ?hr ?_;(case hd=>rfl);(case hg=>rfl);(case hr=>first|(go_simp;done)|(go_simp;rfl));intro gb102 hg w10 hbox hb;have BK102:=Aside0.mk (hbox);have GW102:=ag hg HB;have GE102:=ag hg HB;have NB101_102:=na hg BK101;have NB102_101:=nb hg BK101;replace BK101:=ab hb BK101;replace HB:=hs hb HB;clear hb hbox hg;have hnb11:=NB101_102.out;have hnc11:=NB102_101.out;obtain ⟨hcz12_0,hcz12_1,hcz12_2,hfz12_0,hfz12_1,hfz12_2⟩:=k3 BK101.out;obtain ⟨hcz13_0,hcz13_1,hcz13_2,hfz13_0,hfz13_1,hfz13_2⟩:=k3 BK102.out))
   refine bodyPost_ret (results_cell_row rfl _ _ gb102 126 #[.bool a0_0,.int .u64 a0_1,.int .u64 a0_2] (0,0) _ rfl (by refine bk ?_;refine blk_put (cs:=#[.bool a0_0,.int .u64 a0_1,.int .u64 0]) ?_ 2 _ rfl;refine bk ?_;refine blk_put (cs:=#[.bool a0_0,.int .u64 0,.int .u64 0]) ?_ 1 _ rfl;refine bk ?_;refine blk_put (cs:=#[.bool false,.int .u64 0,.int .u64 0]) ?_ 0 _ rfl;refine bk ?_;exact BK102.out) Try.underlying126 rfl (by kernel_rfl)) rfl ?_
   exact ⟨by first|rfl|(simp [errW_none,errW_some]<;>rfl)|(simp [*,errW_none,errW_some]<;>rfl),by repeat (first|(with_reducible first|exact HB.out|apply below_alloc|apply pw_below_drewN|apply below_drew1|refine below_set ?_ GE101.out|refine below_set ?_ GE102.out)|exact HB.out)⟩
 ·rw [if_neg c2] at H
  have c2b0:(a0_1 == 0)=false:=beq_eq_false_iff_ne.mpr c2
  have c2b1:(a0_1 != 0)=true:=bne_iff_ne.mpr c2
  simp only [Option.some.injEq,Prod.mk.injEq] at H
  obtain ⟨rfl,rfl,rfl⟩:=H
  go_enter Try.func100,Try.ntmps100
  go_wp2_with (first|((with_reducible refine gate_dst (N:=1) rfl ?_);refine box_event ?hg (N:=1) ?hd (cs:=#[.bool a0_0,.int .u64 a0_1,.int .u64 a0_2]) (t:=126) ?hr ?_;(case hd=>rfl);(case hg=>rfl);(case hr=>first|(go_simp;done)|(go_simp;rfl));intro gb101 hg w14 hbox hb;have BK101:=Aside0.mk (hbox);have GW101:=ag hg HB;have GE101:=ag hg HB;replace HB:=hs hb HB;clear hb hbox hg)|((with_reducible refine gate_dst (N:=2) rfl ?_);refine box_event ?hg (N:=2) ?hd (cs:=#[.bool false,.int .u64 0,.int .u64 0]) (t:=126) ?hr ?_;(case hd=>rfl);(case hg=>rfl);(case hr=>first|(go_simp;done)|(go_simp;rfl));intro gb102 hg w15 hbox hb;have BK102:=Aside0.mk (hbox);have GW102:=ag hg HB;have GE102:=ag hg HB;have NB101_102:=na hg BK101;have NB102_101:=nb hg BK101;replace BK101:=ab hb BK101;replace HB:=hs hb HB;clear hb hbox hg;have hnb16:=NB101_102.out;have hnc16:=NB102_101.out;obtain ⟨hcz17_0,hcz17_1,hcz17_2,hfz17_0,hfz17_1,hfz17_2⟩:=k3 BK101.out;obtain ⟨hcz18_0,hcz18_1,hcz18_2,hfz18_0,hfz18_1,hfz18_2⟩:=k3 BK102.out))
  refine bodyPost_ret (results_cell_row rfl _ _ gb102 126 #[.bool a0_0,.int .u64 a0_1,.int .u64 a0_2] (0,0) _ rfl (by refine bk ?_;refine blk_put (cs:=#[.bool a0_0,.int .u64 a0_1,.int .u64 0]) ?_ 2 _ rfl;refine bk ?_;refine blk_put (cs:=#[.bool a0_0,.int .u64 0,.int .u64 0]) ?_ 1 _ rfl;refine bk ?_;refine blk_put (cs:=#[.bool false,.int .u64 0,.int .u64 0]) ?_ 0 _ rfl;refine bk ?_;exact BK102.out) Try.underlying126 rfl (by kernel_rfl)) rfl ?_
  exact ⟨by first|rfl|(simp [errW_none,errW_some]<;>rfl)|(simp [*,errW_none,errW_some]<;>rfl),by repeat (first|(with_reducible first|exact HB.out|apply below_alloc|apply pw_below_drewN|apply below_drew1|refine below_set ?_ GE101.out|refine below_set ?_ GE102.out)|exact HB.out)⟩

/-! ### surtitleref3_Times: function 94 -/
def surtitleref3_Times.f (a0:Int) (a1:Int):Option (Bool × Int × Int):=(surtitleref3_size.f a0).bind fun t104=>((surtitleref3_size.f a1).bind fun t105=>((surtitleref3_right.f ((decide (a0<0)) != (decide (a1<0))) (IntKind.u64.wrap ((IntKind.u64.wrap ((IntKind.u64.wrap ((t104 / 4294967296)*(t105 / 4294967296)))+((IntKind.u64.wrap ((IntKind.u64.wrap ((t104 / 4294967296)*(Go.bits .and .u64 t105 4294967295)))+((IntKind.u64.wrap ((Go.bits .and .u64 t104 4294967295)*(Go.bits .and .u64 t105 4294967295))) / 4294967296))) / 4294967296)))+((IntKind.u64.wrap ((IntKind.u64.wrap ((Go.bits .and .u64 t104 4294967295)*(t105 / 4294967296)))+(Go.bits .and .u64 (IntKind.u64.wrap ((IntKind.u64.wrap ((t104 / 4294967296)*(Go.bits .and .u64 t105 4294967295)))+((IntKind.u64.wrap ((Go.bits .and .u64 t104 4294967295)*(Go.bits .and .u64 t105 4294967295))) / 4294967296))) 4294967295))) / 4294967296))) (IntKind.u64.wrap (t104*t105))).bind fun bt106=>(some (bt106.1,bt106.2.1,bt106.2.2))))
theorem surtitleref3_Times.calls (a0:Int) (a1:Int) (r1:Bool) (r2:Int) (r3:Int) (w:World) (h:surtitleref3_Times.f a0 a1=some (r1,r2,r3)) :
  Calls Try.prog 94 #[.int .i64 a0,.int .i64 a1] w fun e w'=>e = .returned (.agg #[.bool r1,.int .u64 r2,.int .u64 r3])∧Below w.heap.size w w':=by
 have hu126:=Try.underlying126
 have HB:=Aside0.mk (Below.refl w.heap.size w)
 have H:((surtitleref3_size.f a0).bind fun t104=>((surtitleref3_size.f a1).bind fun t105=>((surtitleref3_right.f ((decide (a0<0)) != (decide (a1<0))) (IntKind.u64.wrap ((IntKind.u64.wrap ((IntKind.u64.wrap ((t104 / 4294967296)*(t105 / 4294967296)))+((IntKind.u64.wrap ((IntKind.u64.wrap ((t104 / 4294967296)*(Go.bits .and .u64 t105 4294967295)))+((IntKind.u64.wrap ((Go.bits .and .u64 t104 4294967295)*(Go.bits .and .u64 t105 4294967295))) / 4294967296))) / 4294967296)))+((IntKind.u64.wrap ((IntKind.u64.wrap ((Go.bits .and .u64 t104 4294967295)*(t105 / 4294967296)))+(Go.bits .and .u64 (IntKind.u64.wrap ((IntKind.u64.wrap ((t104 / 4294967296)*(Go.bits .and .u64 t105 4294967295)))+((IntKind.u64.wrap ((Go.bits .and .u64 t104 4294967295)*(Go.bits .and .u64 t105 4294967295))) / 4294967296))) 4294967295))) / 4294967296))) (IntKind.u64.wrap (t104*t105))).bind fun bt106=>(some (bt106.1,bt106.2.1,bt106.2.2)))))=some (r1,r2,r3):=h
 clear h
 replace H:=Option.bind_eq_some_iff.mp H
 obtain ⟨t104,A30,H⟩:=H
 replace H:((surtitleref3_size.f a1).bind fun t105=>((surtitleref3_right.f ((decide (a0<0)) != (decide (a1<0))) (IntKind.u64.wrap ((IntKind.u64.wrap ((IntKind.u64.wrap ((t104 / 4294967296)*(t105 / 4294967296)))+((IntKind.u64.wrap ((IntKind.u64.wrap ((t104 / 4294967296)*(Go.bits .and .u64 t105 4294967295)))+((IntKind.u64.wrap ((Go.bits .and .u64 t104 4294967295)*(Go.bits .and .u64 t105 4294967295))) / 4294967296))) / 4294967296)))+((IntKind.u64.wrap ((IntKind.u64.wrap ((Go.bits .and .u64 t104 4294967295)*(t105 / 4294967296)))+(Go.bits .and .u64 (IntKind.u64.wrap ((IntKind.u64.wrap ((t104 / 4294967296)*(Go.bits .and .u64 t105 4294967295)))+((IntKind.u64.wrap ((Go.bits .and .u64 t104 4294967295)*(Go.bits .and .u64 t105 4294967295))) / 4294967296))) 4294967295))) / 4294967296))) (IntKind.u64.wrap (t104*t105))).bind fun bt106=>(some (bt106.1,bt106.2.1,bt106.2.2))))=some (r1,r2,r3):=H
 have A3:=Aside0.mk A30
 clear A30
 replace H:=Option.bind_eq_some_iff.mp H
 obtain ⟨t105,A40,H⟩:=H
 replace H:((surtitleref3_right.f ((decide (a0<0)) != (decide (a1<0))) (IntKind.u64.wrap ((IntKind.u64.wrap ((IntKind.u64.wrap ((t104 / 4294967296)*(t105 / 4294967296)))+((IntKind.u64.wrap ((IntKind.u64.wrap ((t104 / 4294967296)*(Go.bits .and .u64 t105 4294967295)))+((IntKind.u64.wrap ((Go.bits .and .u64 t104 4294967295)*(Go.bits .and .u64 t105 4294967295))) / 4294967296))) / 4294967296)))+((IntKind.u64.wrap ((IntKind.u64.wrap ((Go.bits .and .u64 t104 4294967295)*(t105 / 4294967296)))+(Go.bits .and .u64 (IntKind.u64.wrap ((IntKind.u64.wrap ((t104 / 4294967296)*(Go.bits .and .u64 t105 4294967295)))+((IntKind.u64.wrap ((Go.bits .and .u64 t104 4294967295)*(Go.bits .and .u64 t105 4294967295))) / 4294967296))) 4294967295))) / 4294967296))) (IntKind.u64.wrap (t104*t105))).bind fun bt106=>(some (bt106.1,bt106.2.1,bt106.2.2)))=some (r1,r2,r3):=H
 have A4:=Aside0.mk A40
 clear A40
 replace H:=Option.bind_eq_some_iff.mp H
 obtain ⟨⟨t106,t107,t108⟩,A50,H⟩:=H
 replace H:(some (t106,t107,t108))=some (r1,r2,r3):=H
 have A5:=Aside0.mk A50
 clear A50
 simp only [Option.some.injEq,Prod.mk.injEq] at H
 obtain ⟨rfl,rfl,rfl⟩:=H
 go_enter Try.func94,Try.ntmps94
 go_wp2_with (first|((with_reducible refine gate_dst (N:=4) rfl ?_);refine box_event ?hg (N:=4) ?hd (cs:=#[.bool false,.int .u64 0,.int .u64 0]) (t:=126) ?hr ?_;(case hd=>rfl);(case hg=>rfl);(case hr=>first|(go_simp;done)|(go_simp;rfl));intro gb103 hg w6 hbox hb;have BK103:=Aside0.mk (hbox);have GW103:=ag hg HB;have GE103:=ag hg HB;replace HB:=hs hb HB;clear hb hbox hg)|((with_reducible refine gate_callee (f:=96) rfl ?_);refine goesL_ (some 15) rfl rfl Try.func96 (by kernel_rfl) rfl #[.int .i64 a0] rfl (by (try simp only [List.map_toArray,List.map_cons,List.map_nil]);first|done|rfl|(simp only [List.length_drop,List.length_take];rfl)) ?_;(with_reducible refine (surtitleref3_size.calls a0 t104 _ A3.out).mono ?_);rintro e w' ⟨rfl,⟨nd,rfl⟩⟩;refine ⟨_,rfl,?_⟩;(try (rw [drewN_self w6];generalize hq_:World.drewN w6 _=w6;have n0_:Aside0 (w6.heap[gb103]?=some (.cells #[.bool false,.int .u64 0,.int .u64 0] 126 (0,0))):=⟨by rw [← hq_];exact (bk BK103.out)⟩;have n1_:Aside0 (Below w.heap.size w w6):=⟨by rw [← hq_];exact (bw HB.out)⟩;clear BK103 HB hq_;have BK103:=n0_;have HB:=n1_;clear n0_ n1_)))|((with_reducible refine gate_callee (f:=96) rfl ?_);refine goesL_ (some 17) rfl rfl Try.func96 (by kernel_rfl) rfl #[.int .i64 a1] rfl (by (try simp only [List.map_toArray,List.map_cons,List.map_nil]);first|done|rfl|(simp only [List.length_drop,List.length_take];rfl)) ?_;(with_reducible refine (surtitleref3_size.calls a1 t105 _ A4.out).mono ?_);rintro e w' ⟨rfl,⟨nd,rfl⟩⟩;refine ⟨_,rfl,?_⟩;(try (rw [drewN_self w6];generalize hq_:World.drewN w6 _=w6;have n0_:Aside0 (w6.heap[gb103]?=some (.cells #[.bool false,.int .u64 0,.int .u64 0] 126 (0,0))):=⟨by rw [← hq_];exact (bk BK103.out)⟩;have n1_:Aside0 (Below w.heap.size w w6):=⟨by rw [← hq_];exact (bw HB.out)⟩;clear BK103 HB hq_;have BK103:=n0_;have HB:=n1_;clear n0_ n1_)))|((with_reducible refine gate_callee (f:=100) rfl ?_);refine goesL_ (some 59) rfl rfl Try.func100 (by kernel_rfl) rfl #[.agg #[.bool ((decide (a0<0)) != (decide (a1<0))),.int .u64 (IntKind.u64.wrap ((IntKind.u64.wrap ((IntKind.u64.wrap ((t104 / 4294967296)*(t105 / 4294967296)))+((IntKind.u64.wrap ((IntKind.u64.wrap ((t104 / 4294967296)*(Go.bits .and .u64 t105 4294967295)))+((IntKind.u64.wrap ((Go.bits .and .u64 t104 4294967295)*(Go.bits .and .u64 t105 4294967295))) / 4294967296))) / 4294967296)))+((IntKind.u64.wrap ((IntKind.u64.wrap ((Go.bits .and .u64 t104 4294967295)*(t105 / 4294967296)))+(Go.bits .and .u64 (IntKind.u64.wrap ((IntKind.u64.wrap ((t104 / 4294967296)*(Go.bits .and .u64 t105 4294967295)))+((IntKind.u64.wrap ((Go.bits .and .u64 t104 4294967295)*(Go.bits .and .u64 t105 4294967295))) / 4294967296))) 4294967295))) / 4294967296))),.int .u64 (IntKind.u64.wrap (t104*t105))]] rfl (by (try simp only [List.map_toArray,List.map_cons,List.map_nil]);first|done|rfl|(simp only [List.length_drop,List.length_take];rfl)) ?_;(with_reducible refine (surtitleref3_right.calls ((decide (a0<0)) != (decide (a1<0))) (IntKind.u64.wrap ((IntKind.u64.wrap ((IntKind.u64.wrap ((t104 / 4294967296)*(t105 / 4294967296)))+((IntKind.u64.wrap ((IntKind.u64.wrap ((t104 / 4294967296)*(Go.bits .and .u64 t105 4294967295)))+((IntKind.u64.wrap ((Go.bits .and .u64 t104 4294967295)*(Go.bits .and .u64 t105 4294967295))) / 4294967296))) / 4294967296)))+((IntKind.u64.wrap ((IntKind.u64.wrap ((Go.bits .and .u64 t104 4294967295)*(t105 / 4294967296)))+(Go.bits .and .u64 (IntKind.u64.wrap ((IntKind.u64.wrap ((t104 / 4294967296)*(Go.bits .and .u64 t105 4294967295)))+((IntKind.u64.wrap ((Go.bits .and .u64 t104 4294967295)*(Go.bits .and .u64 t105 4294967295))) / 4294967296))) 4294967295))) / 4294967296))) (IntKind.u64.wrap (t104*t105)) t106 t107 t108 _ A5.out).mono ?_);rintro e w7 ⟨rfl,hb⟩;refine ⟨_,rfl,?_⟩;replace BK103:=ab hb BK103;replace HB:=hs hb HB;(try clear hb);(try clear hb2);(try clear hk);(try clear hi);obtain ⟨hcz8_0,hcz8_1,hcz8_2,hfz8_0,hfz8_1,hfz8_2⟩:=k3 BK103.out))
 refine bodyPost_ret (results_cell_row rfl _ _ gb103 126 #[.bool t106,.int .u64 t107,.int .u64 t108] (0,0) _ rfl (by refine bk ?_;refine blk_put (cs:=#[.bool t106,.int .u64 t107,.int .u64 0]) ?_ 2 _ rfl;refine bk ?_;refine blk_put (cs:=#[.bool t106,.int .u64 0,.int .u64 0]) ?_ 1 _ rfl;refine bk ?_;refine blk_put (cs:=#[.bool false,.int .u64 0,.int .u64 0]) ?_ 0 _ rfl;refine bk ?_;exact BK103.out) Try.underlying126 rfl (by kernel_rfl)) rfl ?_
 exact ⟨by first|rfl|(simp [errW_none,errW_some]<;>rfl)|(simp [*,errW_none,errW_some]<;>rfl),by repeat (first|(with_reducible first|exact HB.out|apply below_alloc|apply pw_below_drewN|apply below_drew1|refine below_set ?_ GE103.out)|exact HB.out)⟩

/-! ### surtitleref3_fits: function 113 -/
def surtitleref3_fits.f (a0_0:Bool) (a0_1:Int) (a0_2:Int):Option (Bool):=if a0_1=0 then (some (decide (a0_2≤4611686018427387904))) else (some false)
theorem surtitleref3_fits.calls (a0_0:Bool) (a0_1:Int) (a0_2:Int) (r:Bool) (w:World) (h:surtitleref3_fits.f a0_0 a0_1 a0_2=some r) :
  Calls Try.prog 113 #[.agg #[.bool a0_0,.int .u64 a0_1,.int .u64 a0_2]] w fun e w'=>e = .returned (.bool r)∧Below w.heap.size w w':=by
 have hu126:=Try.underlying126
 have HB:=Aside0.mk (Below.refl w.heap.size w)
 have H:(if a0_1=0 then (some (decide (a0_2≤4611686018427387904))) else (some false))=some r:=h
 clear h
 by_cases c2:a0_1=0
 ·rw [if_pos c2] at H
  have c2b0:(a0_1 == 0)=true:=beq_iff_eq.mpr c2
  have c2b1:(a0_1 != 0)=false:=bne_eq_false_iff_eq.mpr c2
  clear c2
  obtain rfl:=Option.some.inj H
  go_enter Try.func113,Try.ntmps113
  go_wp2_with (first|((with_reducible refine gate_dst (N:=1) rfl ?_);refine box_event ?hg (N:=1) ?hd (cs:=#[.bool a0_0,.int .u64 a0_1,.int .u64 a0_2]) (t:=126) ?hr ?_;(case hd=>rfl);(case hg=>rfl);(case hr=>first|(go_simp;done)|(go_simp;rfl));intro gb109 hg w3 hbox hb;have BK109:=Aside0.mk (hbox);have GW109:=ag hg HB;have GE109:=ag hg HB;replace HB:=hs hb HB;clear hb hbox hg;obtain ⟨hcz4_0,hcz4_1,hcz4_2,hfz4_0,hfz4_1,hfz4_2⟩:=k3 BK109.out))
  go_ret
  exact ⟨by first|rfl|(simp [errW_none,errW_some]<;>rfl)|(simp [*,errW_none,errW_some]<;>rfl),by repeat (first|(with_reducible first|exact HB.out|apply below_alloc|apply pw_below_drewN|apply below_drew1|refine below_set ?_ GE109.out)|exact HB.out)⟩
 ·rw [if_neg c2] at H
  have c2b0:(a0_1 == 0)=false:=beq_eq_false_iff_ne.mpr c2
  have c2b1:(a0_1 != 0)=true:=bne_iff_ne.mpr c2
  obtain rfl:=Option.some.inj H
  go_enter Try.func113,Try.ntmps113
  go_wp2_with (first|((with_reducible refine gate_dst (N:=1) rfl ?_);refine box_event ?hg (N:=1) ?hd (cs:=#[.bool a0_0,.int .u64 a0_1,.int .u64 a0_2]) (t:=126) ?hr ?_;(case hd=>rfl);(case hg=>rfl);(case hr=>first|(go_simp;done)|(go_simp;rfl));intro gb109 hg w5 hbox hb;have BK109:=Aside0.mk (hbox);have GW109:=ag hg HB;have GE109:=ag hg HB;replace HB:=hs hb HB;clear hb hbox hg;obtain ⟨hcz6_0,hcz6_1,hcz6_2,hfz6_0,hfz6_1,hfz6_2⟩:=k3 BK109.out))
  go_ret
  exact ⟨by first|rfl|(simp [errW_none,errW_some]<;>rfl)|(simp [*,errW_none,errW_some]<;>rfl),by repeat (first|(with_reducible first|exact HB.out|apply below_alloc|apply pw_below_drewN|apply below_drew1|refine below_set ?_ GE109.out)|exact HB.out)⟩

/-! ### surtitleref3_number: function 114 -/
def surtitleref3_number.f (a0_0:Bool) (a0_1:Int) (a0_2:Int):Option (Int):=if a0_0=true then (some (wrap64 (-(wrap64 (a0_2))))) else (some (wrap64 (a0_2)))
theorem surtitleref3_number.calls (a0_0:Bool) (a0_1:Int) (a0_2:Int) (r:Int) (w:World) (h:surtitleref3_number.f a0_0 a0_1 a0_2=some r) :
  Calls Try.prog 114 #[.agg #[.bool a0_0,.int .u64 a0_1,.int .u64 a0_2]] w fun e w'=>e = .returned (.int .i64 r)∧Below w.heap.size w w':=by
 have hu126:=Try.underlying126
 have HB:=Aside0.mk (Below.refl w.heap.size w)
 have H:(if a0_0=true then (some (wrap64 (-(wrap64 (a0_2))))) else (some (wrap64 (a0_2))))=some r:=h
 clear h
 by_cases c2:a0_0=true
 ·subst c2
  have H1:(some (wrap64 (-(wrap64 (a0_2)))))=some r:=by rw [if_pos rfl] at H;exact H
  clear H
  have H:=H1
  clear H1
  obtain rfl:=Option.some.inj H
  go_enter Try.func114,Try.ntmps114
  go_wp2_with (first|((with_reducible refine gate_dst (N:=1) rfl ?_);refine box_event ?hg (N:=1) ?hd (cs:=#[.bool true,.int .u64 a0_1,.int .u64 a0_2]) (t:=126) ?hr ?_;(case hd=>rfl);(case hg=>rfl);(case hr=>first|(go_simp;done)|(go_simp;rfl));intro gb110 hg w3 hbox hb;have BK110:=Aside0.mk (hbox);have GW110:=ag hg HB;have GE110:=ag hg HB;replace HB:=hs hb HB;clear hb hbox hg;obtain ⟨hcz4_0,hcz4_1,hcz4_2,hfz4_0,hfz4_1,hfz4_2⟩:=k3 BK110.out))
  go_ret
  exact ⟨by first|rfl|(simp [errW_none,errW_some]<;>rfl)|(simp [*,errW_none,errW_some]<;>rfl),by repeat (first|(with_reducible first|exact HB.out|apply below_alloc|apply pw_below_drewN|apply below_drew1|refine below_set ?_ GE110.out)|exact HB.out)⟩
 ·replace c2:=Bool.eq_false_iff.mpr c2
  subst c2
  have H1:(some (wrap64 (a0_2)))=some r:=by rw [if_neg (show ¬ (false=true) by decide)] at H;exact H
  clear H
  have H:=H1
  clear H1
  obtain rfl:=Option.some.inj H
  go_enter Try.func114,Try.ntmps114
  go_wp2_with (first|((with_reducible refine gate_dst (N:=1) rfl ?_);refine box_event ?hg (N:=1) ?hd (cs:=#[.bool false,.int .u64 a0_1,.int .u64 a0_2]) (t:=126) ?hr ?_;(case hd=>rfl);(case hg=>rfl);(case hr=>first|(go_simp;done)|(go_simp;rfl));intro gb110 hg w5 hbox hb;have BK110:=Aside0.mk (hbox);have GW110:=ag hg HB;have GE110:=ag hg HB;replace HB:=hs hb HB;clear hb hbox hg;obtain ⟨hcz6_0,hcz6_1,hcz6_2,hfz6_0,hfz6_1,hfz6_2⟩:=k3 BK110.out))
  go_ret
  exact ⟨by first|rfl|(simp [errW_none,errW_some]<;>rfl)|(simp [*,errW_none,errW_some]<;>rfl),by repeat (first|(with_reducible first|exact HB.out|apply below_alloc|apply pw_below_drewN|apply below_drew1|refine below_set ?_ GE110.out)|exact HB.out)⟩

/-! ### surtitleref3_above: function 115 -/
def surtitleref3_above.f (a0_0:Bool) (a0_1:Int) (a0_2:Int) (a1_0:Bool) (a1_1:Int) (a1_2:Int):Option (Bool):=if a0_1 > a1_1 then (some true) else (if a0_1=a1_1 then (some (decide (a0_2 > a1_2))) else (some false))
theorem surtitleref3_above.calls (a0_0:Bool) (a0_1:Int) (a0_2:Int) (a1_0:Bool) (a1_1:Int) (a1_2:Int) (r:Bool) (w:World) (h:surtitleref3_above.f a0_0 a0_1 a0_2 a1_0 a1_1 a1_2=some r) :
  Calls Try.prog 115 #[.agg #[.bool a0_0,.int .u64 a0_1,.int .u64 a0_2],.agg #[.bool a1_0,.int .u64 a1_1,.int .u64 a1_2]] w fun e w'=>e = .returned (.bool r)∧Below w.heap.size w w':=by
 have hu126:=Try.underlying126
 have HB:=Aside0.mk (Below.refl w.heap.size w)
 have H:(if a0_1 > a1_1 then (some true) else (if a0_1=a1_1 then (some (decide (a0_2 > a1_2))) else (some false)))=some r:=h
 clear h
 by_cases c3:a0_1 > a1_1
 ·rw [if_pos c3] at H
  have c3b0:decide (a1_1<a0_1)=true:=decide_eq_true c3
  clear c3
  obtain rfl:=Option.some.inj H
  go_enter Try.func115,Try.ntmps115
  go_wp2_with (first|((with_reducible refine gate_dst (N:=2) rfl ?_);refine box_event ?hg (N:=2) ?hd (cs:=#[.bool a0_0,.int .u64 a0_1,.int .u64 a0_2]) (t:=126) ?hr ?_;(case hd=>rfl);(case hg=>rfl);(case hr=>first|(go_simp;done)|(go_simp;rfl));intro gb111 hg w4 hbox hb;have BK111:=Aside0.mk (hbox);have GW111:=ag hg HB;have GE111:=ag hg HB;replace HB:=hs hb HB;clear hb hbox hg)|((with_reducible refine gate_dst (N:=3) rfl ?_);refine box_event ?hg (N:=3) ?hd (cs:=#[.bool a1_0,.int .u64 a1_1,.int .u64 a1_2]) (t:=126) ?hr ?_;(case hd=>rfl);(case hg=>rfl);(case hr=>first|(go_simp;done)|(go_simp;rfl));intro gb112 hg w5 hbox hb;have BK112:=Aside0.mk (hbox);have GW112:=ag hg HB;have GE112:=ag hg HB;have NB111_112:=na hg BK111;have NB112_111:=nb hg BK111;replace BK111:=ab hb BK111;replace HB:=hs hb HB;clear hb hbox hg;have hnb6:=NB111_112.out;have hnc6:=NB112_111.out;obtain ⟨hcz7_0,hcz7_1,hcz7_2,hfz7_0,hfz7_1,hfz7_2⟩:=k3 BK111.out;obtain ⟨hcz8_0,hcz8_1,hcz8_2,hfz8_0,hfz8_1,hfz8_2⟩:=k3 BK112.out))
  go_ret
  exact ⟨by first|rfl|(simp [errW_none,errW_some]<;>rfl)|(simp [*,errW_none,errW_some]<;>rfl),by repeat (first|(with_reducible first|exact HB.out|apply below_alloc|apply pw_below_drewN|apply below_drew1|refine below_set ?_ GE111.out|refine below_set ?_ GE112.out)|exact HB.out)⟩
 ·rw [if_neg c3] at H
  have c3b0:decide (a1_1<a0_1)=false:=decide_eq_false c3
  clear c3
  by_cases c9:a0_1=a1_1
  ·rw [if_pos c9] at H
   have c9b0:(a0_1 == a1_1)=true:=beq_iff_eq.mpr c9
   have c9b1:(a0_1 != a1_1)=false:=bne_eq_false_iff_eq.mpr c9
   clear c9
   obtain rfl:=Option.some.inj H
   go_enter Try.func115,Try.ntmps115
   go_wp2_with (first|((with_reducible refine gate_dst (N:=2) rfl ?_);refine box_event ?hg (N:=2) ?hd (cs:=#[.bool a0_0,.int .u64 a0_1,.int .u64 a0_2]) (t:=126) ?hr ?_;(case hd=>rfl);(case hg=>rfl);(case hr=>first|(go_simp;done)|(go_simp;rfl));intro gb111 hg w10 hbox hb;have BK111:=Aside0.mk (hbox);have GW111:=ag hg HB;have GE111:=ag hg HB;replace HB:=hs hb HB;clear hb hbox hg)|((with_reducible refine gate_dst (N:=3) rfl ?_);refine box_event ?hg (N:=3) ?hd (cs:=#[.bool a1_0,.int .u64 a1_1,.int .u64 a1_2]) (t:=126) ?hr ?_;(case hd=>rfl);(case hg=>rfl);(case hr=>first|(go_simp;done)|(go_simp;rfl));intro gb112 hg w11 hbox hb;have BK112:=Aside0.mk (hbox);have GW112:=ag hg HB;have GE112:=ag hg HB;have NB111_112:=na hg BK111;have NB112_111:=nb hg BK111;replace BK111:=ab hb BK111;replace HB:=hs hb HB;clear hb hbox hg;have hnb12:=NB111_112.out;have hnc12:=NB112_111.out;obtain ⟨hcz13_0,hcz13_1,hcz13_2,hfz13_0,hfz13_1,hfz13_2⟩:=k3 BK111.out;obtain ⟨hcz14_0,hcz14_1,hcz14_2,hfz14_0,hfz14_1,hfz14_2⟩:=k3 BK112.out))
   go_ret
   exact ⟨by first|rfl|(simp [errW_none,errW_some]<;>rfl)|(simp [*,errW_none,errW_some]<;>rfl),by repeat (first|(with_reducible first|exact HB.out|apply below_alloc|apply pw_below_drewN|apply below_drew1|refine below_set ?_ GE111.out|refine below_set ?_ GE112.out)|exact HB.out)⟩
  ·rw [if_neg c9] at H
   have c9b0:(a0_1 == a1_1)=false:=beq_eq_false_iff_ne.mpr c9
   have c9b1:(a0_1 != a1_1)=true:=bne_iff_ne.mpr c9
   obtain rfl:=Option.some.inj H
   go_enter Try.func115,Try.ntmps115
   go_wp2_with (first|((with_reducible refine gate_dst (N:=2) rfl ?_);refine box_event ?hg (N:=2) ?hd (cs:=#[.bool a0_0,.int .u64 a0_1,.int .u64 a0_2]) (t:=126) ?hr ?_;(case hd=>rfl);(case hg=>rfl);(case hr=>first|(go_simp;done)|(go_simp;rfl));intro gb111 hg w15 hbox hb;have BK111:=Aside0.mk (hbox);have GW111:=ag hg HB;have GE111:=ag hg HB;replace HB:=hs hb HB;clear hb hbox hg)|((with_reducible refine gate_dst (N:=3) rfl ?_);refine box_event ?hg (N:=3) ?hd (cs:=#[.bool a1_0,.int .u64 a1_1,.int .u64 a1_2]) (t:=126) ?hr ?_;(case hd=>rfl);(case hg=>rfl);(case hr=>first|(go_simp;done)|(go_simp;rfl));intro gb112 hg w16 hbox hb;have BK112:=Aside0.mk (hbox);have GW112:=ag hg HB;have GE112:=ag hg HB;have NB111_112:=na hg BK111;have NB112_111:=nb hg BK111;replace BK111:=ab hb BK111;replace HB:=hs hb HB;clear hb hbox hg;have hnb17:=NB111_112.out;have hnc17:=NB112_111.out;obtain ⟨hcz18_0,hcz18_1,hcz18_2,hfz18_0,hfz18_1,hfz18_2⟩:=k3 BK111.out;obtain ⟨hcz19_0,hcz19_1,hcz19_2,hfz19_0,hfz19_1,hfz19_2⟩:=k3 BK112.out))
   go_ret
   exact ⟨by first|rfl|(simp [errW_none,errW_some]<;>rfl)|(simp [*,errW_none,errW_some]<;>rfl),by repeat (first|(with_reducible first|exact HB.out|apply below_alloc|apply pw_below_drewN|apply below_drew1|refine below_set ?_ GE111.out|refine below_set ?_ GE112.out)|exact HB.out)⟩

/-! ### surtitleref3_divided: function 112 -/
def surtitleref3_divided.l0:Nat → Int → Bool → Int → Int → Bool → Int → Int → Bool → Int → Int → Bool → Int → Int → Option (Bool × Int × Int × Bool × Int × Int)
 | 0,_,_,_,_,_,_,_,_,_,_,_,_,_=>none
 | k+1,x8,x114000,x114001,x114002,x115000,x115001,x115002,x118000,x118001,x118002,x119000,x119001,x119002=>if x8<128 then ((surtitleref3_above.f false x115001 x115002 x119000 (Go.bits .or .u64 (IntKind.u64.wrap (x119001*2)) (x119002 / 9223372036854775808)) (Go.bits .or .u64 (IntKind.u64.wrap (x119002*2)) (x114001 / 9223372036854775808))).bind fun t119=>(if t119=true then (surtitleref3_divided.l0 k (wrap64 (x8+1)) x114000 (Go.bits .or .u64 (IntKind.u64.wrap (x114001*2)) (x114002 / 9223372036854775808)) (IntKind.u64.wrap (x114002*2)) x115000 x115001 x115002 x118000 (Go.bits .or .u64 (IntKind.u64.wrap (x118001*2)) (x118002 / 9223372036854775808)) (IntKind.u64.wrap (x118002*2)) x119000 (Go.bits .or .u64 (IntKind.u64.wrap (x119001*2)) (x119002 / 9223372036854775808)) (Go.bits .or .u64 (IntKind.u64.wrap (x119002*2)) (x114001 / 9223372036854775808))) else (if (Go.bits .or .u64 (IntKind.u64.wrap (x119002*2)) (x114001 / 9223372036854775808))<x115002 then (surtitleref3_divided.l0 k (wrap64 (x8+1)) x114000 (Go.bits .or .u64 (IntKind.u64.wrap (x114001*2)) (x114002 / 9223372036854775808)) (IntKind.u64.wrap (x114002*2)) x115000 x115001 x115002 x118000 (Go.bits .or .u64 (IntKind.u64.wrap (x118001*2)) (x118002 / 9223372036854775808)) (Go.bits .or .u64 (IntKind.u64.wrap (x118002*2)) 1) false (IntKind.u64.wrap ((IntKind.u64.wrap ((Go.bits .or .u64 (IntKind.u64.wrap (x119001*2)) (x119002 / 9223372036854775808)) - x115001)) - 1)) (IntKind.u64.wrap ((Go.bits .or .u64 (IntKind.u64.wrap (x119002*2)) (x114001 / 9223372036854775808)) - x115002))) else (surtitleref3_divided.l0 k (wrap64 (x8+1)) x114000 (Go.bits .or .u64 (IntKind.u64.wrap (x114001*2)) (x114002 / 9223372036854775808)) (IntKind.u64.wrap (x114002*2)) x115000 x115001 x115002 x118000 (Go.bits .or .u64 (IntKind.u64.wrap (x118001*2)) (x118002 / 9223372036854775808)) (Go.bits .or .u64 (IntKind.u64.wrap (x118002*2)) 1) false (IntKind.u64.wrap ((Go.bits .or .u64 (IntKind.u64.wrap (x119001*2)) (x119002 / 9223372036854775808)) - x115001)) (IntKind.u64.wrap ((Go.bits .or .u64 (IntKind.u64.wrap (x119002*2)) (x114001 / 9223372036854775808)) - x115002)))))) else (some (x118000,x118001,x118002,x119000,x119001,x119002))
def surtitleref3_divided.f (k:Nat) (a0_0:Bool) (a0_1:Int) (a0_2:Int) (a1_0:Bool) (a1_1:Int) (a1_2:Int):Option (Bool × Int × Int × Bool × Int × Int):=surtitleref3_divided.l0 k 0 a0_0 a0_1 a0_2 a1_0 a1_1 a1_2 false 0 0 false 0 0
theorem surtitleref3_divided.mono_l:∀ k,(∀ y0 y1 y2 y3 y4 y5 y6 y7 y8 y9 y10 y11 y12,LeO (surtitleref3_divided.l0 k y0 y1 y2 y3 y4 y5 y6 y7 y8 y9 y10 y11 y12) (surtitleref3_divided.l0 (k+1) y0 y1 y2 y3 y4 y5 y6 y7 y8 y9 y10 y11 y12))
 | 0=>fun _ _ _ _ _ _ _ _ _ _ _ _ _ r h=>by simp [surtitleref3_divided.l0] at h
 | k+1=>by
  have ih0:=surtitleref3_divided.mono_l k
  ·intro y0 y1 y2 y3 y4 y5 y6 y7 y8 y9 y10 y11 y12
   unfold surtitleref3_divided.l0
   repeat' first
   | (with_reducible exact ih0 _ _ _ _ _ _ _ _ _ _ _ _ _)
   | (with_reducible exact LeO.refl _)
   | (with_reducible exact LeO.none _)
   | (with_reducible refine LeO.ite ?_ ?_)
   | (with_reducible refine LeO.bind ?_ (fun _=>?_))
   | exact ih0 _ _ _ _ _ _ _ _ _ _ _ _ _
   | exact LeO.none _
   | refine LeO.ite ?_ ?_
   | refine LeO.bind ?_ (fun _=>?_)
theorem surtitleref3_divided.mono:∀ a0 a1 a2 a3 a4 a5 k,LeO (surtitleref3_divided.f k a0 a1 a2 a3 a4 a5) (surtitleref3_divided.f (k+1) a0 a1 a2 a3 a4 a5):=by
 intro a0 a1 a2 a3 a4 a5 k
 have ih0:=surtitleref3_divided.mono_l k
 unfold surtitleref3_divided.f
 repeat' first
   | (with_reducible exact ih0 _ _ _ _ _ _ _ _ _ _ _ _ _)
   | (with_reducible exact LeO.refl _)
   | (with_reducible exact LeO.none _)
   | (with_reducible refine LeO.ite ?_ ?_)
   | (with_reducible refine LeO.bind ?_ (fun _=>?_))
   | exact ih0 _ _ _ _ _ _ _ _ _ _ _ _ _
   | exact LeO.none _
   | refine LeO.ite ?_ ?_
   | refine LeO.bind ?_ (fun _=>?_)
theorem surtitleref3_divided.calls (k:Nat) (a0_0:Bool) (a0_1:Int) (a0_2:Int) (a1_0:Bool) (a1_1:Int) (a1_2:Int) (r1:Bool) (r2:Int) (r3:Int) (r4:Bool) (r5:Int) (r6:Int) (w:World) (h:surtitleref3_divided.f k a0_0 a0_1 a0_2 a1_0 a1_1 a1_2=some (r1,r2,r3,r4,r5,r6)) :
  Calls Try.prog 112 #[.agg #[.bool a0_0,.int .u64 a0_1,.int .u64 a0_2],.agg #[.bool a1_0,.int .u64 a1_1,.int .u64 a1_2]] w fun e w'=>e = .returned (.tuple #[.agg #[.bool r1,.int .u64 r2,.int .u64 r3],.agg #[.bool r4,.int .u64 r5,.int .u64 r6]])∧Below w.heap.size w w':=by
 have hu126:=Try.underlying126
 have HB:=Aside0.mk (Below.refl w.heap.size w)
 have H:(surtitleref3_divided.l0 k 0 a0_0 a0_1 a0_2 a1_0 a1_1 a1_2 false 0 0 false 0 0)=some (r1,r2,r3,r4,r5,r6):=h
 clear h
 have H':=Aside0.mk H
 clear H
 go_enter Try.func112,Try.ntmps112
 go_wp2_with (first|((with_reducible refine gate_dst (N:=2) rfl ?_);refine box_event ?hg (N:=2) ?hd (cs:=#[.bool a0_0,.int .u64 a0_1,.int .u64 a0_2]) (t:=126) ?hr ?_;(case hd=>rfl);(case hg=>rfl);(case hr=>first|(go_simp;done)|(go_simp;rfl));intro gb113 hg w3 hbox hb;have BK113:=Aside0.mk (hbox);have GW113:=ag hg HB;have GE113:=ag hg HB;replace HB:=hs hb HB;clear hb hbox hg)|((with_reducible refine gate_dst (N:=3) rfl ?_);refine box_event ?hg (N:=3) ?hd (cs:=#[.bool a1_0,.int .u64 a1_1,.int .u64 a1_2]) (t:=126) ?hr ?_;(case hd=>rfl);(case hg=>rfl);(case hr=>first|(go_simp;done)|(go_simp;rfl));intro gb114 hg w4 hbox hb;have BK114:=Aside0.mk (hbox);have GW114:=ag hg HB;have GE114:=ag hg HB;have NB113_114:=na hg BK113;have NB114_113:=nb hg BK113;replace BK113:=ab hb BK113;replace HB:=hs hb HB;clear hb hbox hg)|((with_reducible refine gate_dst (N:=4) rfl ?_);refine box_event ?hg (N:=4) ?hd (cs:=#[.bool false,.int .u64 0,.int .u64 0]) (t:=126) ?hr ?_;(case hd=>rfl);(case hg=>rfl);(case hr=>first|(go_simp;done)|(go_simp;rfl));intro gb115 hg w5 hbox hb;have BK115:=Aside0.mk (hbox);have GW115:=ag hg HB;have GE115:=ag hg HB;have NB113_115:=na hg BK113;have NB115_113:=nb hg BK113;have NB114_115:=na hg BK114;have NB115_114:=nb hg BK114;replace BK113:=ab hb BK113;replace BK114:=ab hb BK114;replace HB:=hs hb HB;clear hb hbox hg)|((with_reducible refine gate_dst (N:=5) rfl ?_);refine box_event ?hg (N:=5) ?hd (cs:=#[.bool false,.int .u64 0,.int .u64 0]) (t:=126) ?hr ?_;(case hd=>rfl);(case hg=>rfl);(case hr=>first|(go_simp;done)|(go_simp;rfl));intro gb116 hg w6 hbox hb;have BK116:=Aside0.mk (hbox);have GW116:=ag hg HB;have GE116:=ag hg HB;have NB113_116:=na hg BK113;have NB116_113:=nb hg BK113;have NB114_116:=na hg BK114;have NB116_114:=nb hg BK114;have NB115_116:=na hg BK115;have NB116_115:=nb hg BK115;replace BK113:=ab hb BK113;replace BK114:=ab hb BK114;replace BK115:=ab hb BK115;replace HB:=hs hb HB;clear hb hbox hg)|((with_reducible refine gate_dst (N:=6) rfl ?_);refine box_event ?hg (N:=6) ?hd (cs:=#[.bool false,.int .u64 0,.int .u64 0]) (t:=126) ?hr ?_;(case hd=>rfl);(case hg=>rfl);(case hr=>first|(go_simp;done)|(go_simp;rfl));intro gb117 hg w7 hbox hb;have BK117:=Aside0.mk (hbox);have GW117:=ag hg HB;have GE117:=ag hg HB;have NB113_117:=na hg BK113;have NB117_113:=nb hg BK113;have NB114_117:=na hg BK114;have NB117_114:=nb hg BK114;have NB115_117:=na hg BK115;have NB117_115:=nb hg BK115;have NB116_117:=na hg BK116;have NB117_116:=nb hg BK116;replace BK113:=ab hb BK113;replace BK114:=ab hb BK114;replace BK115:=ab hb BK115;replace BK116:=ab hb BK116;replace HB:=hs hb HB;clear hb hbox hg;have hnb8:=NB117_113.out;have hnc8:=NB113_117.out;have hnb9:=NB117_114.out;have hnc9:=NB114_117.out;have hnb10:=NB117_115.out;have hnc10:=NB115_117.out;have hnb11:=NB117_116.out;have hnc11:=NB116_117.out;obtain ⟨hcz12_0,hcz12_1,hcz12_2,hfz12_0,hfz12_1,hfz12_2⟩:=k3 BK117.out)|((with_reducible refine gate_dst (N:=7) rfl ?_);refine box_event ?hg (N:=7) ?hd (cs:=#[.bool false,.int .u64 0,.int .u64 0]) (t:=126) ?hr ?_;(case hd=>rfl);(case hg=>rfl);(case hr=>first|(go_simp;done)|(go_simp;rfl));intro gb118 hg w13 hbox hb;have n0_:=ab hb BK113;have n1_:=ab hb BK114;have n2_:=ab hb BK115;have n3_:=ab hb BK116;have n4_:=Aside0.mk (blk_below (g:=gb117) (o:=.cells #[.bool false,.int .u64 0,.int .u64 0] 126 (0,0)) (by refine bk ?_;refine blk_put (cs:=#[.bool false,.int .u64 0,.int .u64 0]) ?_ 2 _ rfl;refine bk ?_;refine blk_put (cs:=#[.bool false,.int .u64 0,.int .u64 0]) ?_ 1 _ rfl;refine bk ?_;refine blk_put (cs:=#[.bool false,.int .u64 0,.int .u64 0]) ?_ 0 _ rfl;refine bk ?_;exact BK117.out) hb);have n5_:=hs hb HB;have n6_:=Aside0.mk (hbox);have n7_:=ag hg HB;have n8_:=ag hg HB;have n9_:=na hg BK113;have n10_:=nb hg BK113;have n11_:=na hg BK114;have n12_:=nb hg BK114;have n13_:=na hg BK115;have n14_:=nb hg BK115;have n15_:=na hg BK116;have n16_:=nb hg BK116;have n17_:=Aside0.mk ((by rw [hg];exact Nat.ne_of_lt (blk_lt (g:=gb117) (o:=.cells #[.bool false,.int .u64 0,.int .u64 0] 126 (0,0)) (by refine bk ?_;refine blk_put (cs:=#[.bool false,.int .u64 0,.int .u64 0]) ?_ 2 _ rfl;refine bk ?_;refine blk_put (cs:=#[.bool false,.int .u64 0,.int .u64 0]) ?_ 1 _ rfl;refine bk ?_;refine blk_put (cs:=#[.bool false,.int .u64 0,.int .u64 0]) ?_ 0 _ rfl;refine bk ?_;exact BK117.out)):gb117≠gb118));have n18_:=Aside0.mk ((by rw [hg];exact Nat.ne_of_gt (blk_lt (g:=gb117) (o:=.cells #[.bool false,.int .u64 0,.int .u64 0] 126 (0,0)) (by refine bk ?_;refine blk_put (cs:=#[.bool false,.int .u64 0,.int .u64 0]) ?_ 2 _ rfl;refine bk ?_;refine blk_put (cs:=#[.bool false,.int .u64 0,.int .u64 0]) ?_ 1 _ rfl;refine bk ?_;refine blk_put (cs:=#[.bool false,.int .u64 0,.int .u64 0]) ?_ 0 _ rfl;refine bk ?_;exact BK117.out)):gb118≠gb117));clear BK113;clear BK114;clear BK115;clear BK116;clear BK117;clear HB;have BK113:=n0_;have BK114:=n1_;have BK115:=n2_;have BK116:=n3_;have BK117:=n4_;have HB:=n5_;have BK118:=n6_;have GW118:=n7_;have GE118:=n8_;have NB113_118:=n9_;have NB118_113:=n10_;have NB114_118:=n11_;have NB118_114:=n12_;have NB115_118:=n13_;have NB118_115:=n14_;have NB116_118:=n15_;have NB118_116:=n16_;have NB117_118:=n17_;have NB118_117:=n18_;clear n0_ n1_ n2_ n3_ n4_ n5_ n6_ n7_ n8_ n9_ n10_ n11_ n12_ n13_ n14_ n15_ n16_ n17_ n18_;clear hb hbox hg;have hnb14:=NB118_113.out;have hnc14:=NB113_118.out;have hnb15:=NB118_114.out;have hnc15:=NB114_118.out;have hnb16:=NB118_115.out;have hnc16:=NB115_118.out;have hnb17:=NB118_116.out;have hnc17:=NB116_118.out;have hnb18:=NB118_117.out;have hnc18:=NB117_118.out;obtain ⟨hcz19_0,hcz19_1,hcz19_2,hfz19_0,hfz19_1,hfz19_2⟩:=k3 BK118.out))
 go_loopg [8] k (fun kq v8 w'=>∃ (x8_1:Int) (x114001_1:Int) (x114002_1:Int) (x118001_1:Int) (x118002_1:Int) (x119000_1:Bool) (x119001_1:Int) (x119002_1:Int),v8 = .int .i64 x8_1∧Aside0 (surtitleref3_divided.l0 kq x8_1 a0_0 x114001_1 x114002_1 a1_0 a1_1 a1_2 false x118001_1 x118002_1 x119000_1 x119001_1 x119002_1=some (r1,r2,r3,r4,r5,r6))∧Aside0 (kq≤k)∧Aside0 (w'.heap[gb113]?=some (.cells #[.bool a0_0,.int .u64 x114001_1,.int .u64 x114002_1] 126 (0,0)))∧Aside0 (w'.heap[gb114]?=some (.cells #[.bool a1_0,.int .u64 a1_1,.int .u64 a1_2] 126 (0,0)))∧Aside0 (w'.heap[gb115]?=some (.cells #[.bool false,.int .u64 0,.int .u64 0] 126 (0,0)))∧Aside0 (w'.heap[gb116]?=some (.cells #[.bool false,.int .u64 0,.int .u64 0] 126 (0,0)))∧Aside0 (w'.heap[gb117]?=some (.cells #[.bool false,.int .u64 x118001_1,.int .u64 x118002_1] 126 (0,0)))∧Aside0 (w'.heap[gb118]?=some (.cells #[.bool x119000_1,.int .u64 x119001_1,.int .u64 x119002_1] 126 (0,0)))∧Aside0 (Below w.heap.size w w'))
 case atStart=>exact ⟨(0),(a0_1),(a0_2),(0),(0),(false),(0),(0),(by first|rfl|(simp;done)|(simp [*];done)),H',⟨Nat.le_refl _⟩,⟨by refine bk ?_;exact BK113.out⟩,⟨by refine bk ?_;exact BK114.out⟩,⟨by refine bk ?_;exact BK115.out⟩,⟨by refine bk ?_;exact BK116.out⟩,⟨by refine bk ?_;exact BK117.out⟩,⟨by refine bk ?_;refine blk_put (cs:=#[.bool false,.int .u64 0,.int .u64 0]) ?_ 2 _ rfl;refine bk ?_;refine blk_put (cs:=#[.bool false,.int .u64 0,.int .u64 0]) ?_ 1 _ rfl;refine bk ?_;refine blk_put (cs:=#[.bool false,.int .u64 0,.int .u64 0]) ?_ 0 _ rfl;refine bk ?_;exact BK118.out⟩,⟨by repeat (first|(with_reducible first|exact HB.out|apply below_alloc|apply pw_below_drewN|apply below_drew1|refine below_set ?_ GE113.out|refine below_set ?_ GE114.out|refine below_set ?_ GE115.out|refine below_set ?_ GE116.out|refine below_set ?_ GE117.out|refine below_set ?_ GE118.out)|exact HB.out)⟩⟩
 case round =>
  clear H'
  try clear c1
  try clear p2
  try clear c8
  try clear c9
  try clear c10
  try clear c11
  try clear c14
  try clear c15
  try clear c16
  try clear c17
  try clear c18
  try clear hcz12_0
  try clear hcz12_1
  try clear hcz12_2
  try clear hcz19_0
  try clear hcz19_1
  try clear hcz19_2
  try clear hfz12_0
  try clear hfz12_1
  try clear hfz12_2
  try clear hfz19_0
  try clear hfz19_1
  try clear hfz19_2
  obtain ⟨x8_1,x114001_1,x114002_1,x118001_1,x118002_1,x119000_1,x119001_1,x119002_1,rfl,HA,HK1,BK113,BK114,BK115,BK116,BK117,BK118,HB⟩:=hrel
  cases gk with
  | zero=>exact absurd HA.out (by simp [surtitleref3_divided.l0])
  | succ k1 =>
   have H:=HA.out
   clear HA
   simp only [surtitleref3_divided.l0] at H
   by_cases c20:x8_1<128
   ·rw [if_pos c20] at H
    have c20b0:decide (x8_1<128)=true:=decide_eq_true c20
    clear c20
    replace H:=Option.bind_eq_some_iff.mp H
    obtain ⟨t119,A210,H⟩:=H
    replace H:(if t119=true then (surtitleref3_divided.l0 k1 (wrap64 (x8_1+1)) a0_0 (Go.bits .or .u64 (IntKind.u64.wrap (x114001_1*2)) (x114002_1 / 9223372036854775808)) (IntKind.u64.wrap (x114002_1*2)) a1_0 a1_1 a1_2 false (Go.bits .or .u64 (IntKind.u64.wrap (x118001_1*2)) (x118002_1 / 9223372036854775808)) (IntKind.u64.wrap (x118002_1*2)) x119000_1 (Go.bits .or .u64 (IntKind.u64.wrap (x119001_1*2)) (x119002_1 / 9223372036854775808)) (Go.bits .or .u64 (IntKind.u64.wrap (x119002_1*2)) (x114001_1 / 9223372036854775808))) else (if (Go.bits .or .u64 (IntKind.u64.wrap (x119002_1*2)) (x114001_1 / 9223372036854775808))<a1_2 then (surtitleref3_divided.l0 k1 (wrap64 (x8_1+1)) a0_0 (Go.bits .or .u64 (IntKind.u64.wrap (x114001_1*2)) (x114002_1 / 9223372036854775808)) (IntKind.u64.wrap (x114002_1*2)) a1_0 a1_1 a1_2 false (Go.bits .or .u64 (IntKind.u64.wrap (x118001_1*2)) (x118002_1 / 9223372036854775808)) (Go.bits .or .u64 (IntKind.u64.wrap (x118002_1*2)) 1) false (IntKind.u64.wrap ((IntKind.u64.wrap ((Go.bits .or .u64 (IntKind.u64.wrap (x119001_1*2)) (x119002_1 / 9223372036854775808)) - a1_1)) - 1)) (IntKind.u64.wrap ((Go.bits .or .u64 (IntKind.u64.wrap (x119002_1*2)) (x114001_1 / 9223372036854775808)) - a1_2))) else (surtitleref3_divided.l0 k1 (wrap64 (x8_1+1)) a0_0 (Go.bits .or .u64 (IntKind.u64.wrap (x114001_1*2)) (x114002_1 / 9223372036854775808)) (IntKind.u64.wrap (x114002_1*2)) a1_0 a1_1 a1_2 false (Go.bits .or .u64 (IntKind.u64.wrap (x118001_1*2)) (x118002_1 / 9223372036854775808)) (Go.bits .or .u64 (IntKind.u64.wrap (x118002_1*2)) 1) false (IntKind.u64.wrap ((Go.bits .or .u64 (IntKind.u64.wrap (x119001_1*2)) (x119002_1 / 9223372036854775808)) - a1_1)) (IntKind.u64.wrap ((Go.bits .or .u64 (IntKind.u64.wrap (x119002_1*2)) (x114001_1 / 9223372036854775808)) - a1_2)))))=some (r1,r2,r3,r4,r5,r6):=H
    have A21:=Aside0.mk A210
    clear A210
    by_cases c22:t119=true
    ·subst c22
     have H1:(surtitleref3_divided.l0 k1 (wrap64 (x8_1+1)) a0_0 (Go.bits .or .u64 (IntKind.u64.wrap (x114001_1*2)) (x114002_1 / 9223372036854775808)) (IntKind.u64.wrap (x114002_1*2)) a1_0 a1_1 a1_2 false (Go.bits .or .u64 (IntKind.u64.wrap (x118001_1*2)) (x118002_1 / 9223372036854775808)) (IntKind.u64.wrap (x118002_1*2)) x119000_1 (Go.bits .or .u64 (IntKind.u64.wrap (x119001_1*2)) (x119002_1 / 9223372036854775808)) (Go.bits .or .u64 (IntKind.u64.wrap (x119002_1*2)) (x114001_1 / 9223372036854775808)))=some (r1,r2,r3,r4,r5,r6):=by rw [if_pos rfl] at H;exact H
     clear H
     have H:=H1
     clear H1
     have H':=Aside0.mk H
     clear H
     have hnb23:=NB113_114.out
     have hnc23:=NB114_113.out
     have hnb24:=NB113_115.out
     have hnc24:=NB115_113.out
     have hnb25:=NB113_116.out
     have hnc25:=NB116_113.out
     have hnb26:=NB113_117.out
     have hnc26:=NB117_113.out
     have hnb27:=NB113_118.out
     have hnc27:=NB118_113.out
     obtain ⟨hcz28_0,hcz28_1,hcz28_2,hfz28_0,hfz28_1,hfz28_2⟩:=k3 BK113.out
     have hnb29:=NB118_114.out
     have hnc29:=NB114_118.out
     have hnb30:=NB118_115.out
     have hnc30:=NB115_118.out
     have hnb31:=NB118_116.out
     have hnc31:=NB116_118.out
     have hnb32:=NB118_117.out
     have hnc32:=NB117_118.out
     obtain ⟨hcz33_0,hcz33_1,hcz33_2,hfz33_0,hfz33_1,hfz33_2⟩:=k3 BK118.out
     have hnb34:=NB117_114.out
     have hnc34:=NB114_117.out
     have hnb35:=NB117_115.out
     have hnc35:=NB115_117.out
     have hnb36:=NB117_116.out
     have hnc36:=NB116_117.out
     obtain ⟨hcz37_0,hcz37_1,hcz37_2,hfz37_0,hfz37_1,hfz37_2⟩:=k3 BK117.out
     have hnb38:=NB114_115.out
     have hnc38:=NB115_114.out
     have hnb39:=NB114_116.out
     have hnc39:=NB116_114.out
     obtain ⟨hcz40_0,hcz40_1,hcz40_2,hfz40_0,hfz40_1,hfz40_2⟩:=k3 BK114.out
     go_wp2_with (first|((with_reducible refine gate_callee (f:=115) rfl ?_);refine goesL_ (some 65) rfl rfl Try.func115 (by kernel_rfl) rfl #[.agg #[.bool false,.int .u64 a1_1,.int .u64 a1_2],.agg #[.bool x119000_1,.int .u64 (Go.bits .or .u64 (IntKind.u64.wrap (x119001_1*2)) (x119002_1 / 9223372036854775808)),.int .u64 (Go.bits .or .u64 (IntKind.u64.wrap (x119002_1*2)) (x114001_1 / 9223372036854775808))]] rfl (by (try simp only [List.map_toArray,List.map_cons,List.map_nil]);first|done|rfl|(simp only [List.length_drop,List.length_take];rfl)) ?_;(with_reducible refine (surtitleref3_above.calls false a1_1 a1_2 x119000_1 (Go.bits .or .u64 (IntKind.u64.wrap (x119001_1*2)) (x119002_1 / 9223372036854775808)) (Go.bits .or .u64 (IntKind.u64.wrap (x119002_1*2)) (x114001_1 / 9223372036854775808)) true _ A21.out).mono ?_);rintro e w41 ⟨rfl,hb⟩;refine ⟨_,rfl,?_⟩;have n0_:=Aside0.mk (blk_below (g:=gb113) (o:=.cells #[.bool a0_0,.int .u64 (Go.bits .or .u64 (IntKind.u64.wrap (x114001_1*2)) (x114002_1 / 9223372036854775808)),.int .u64 (IntKind.u64.wrap (x114002_1*2))] 126 (0,0)) (by refine bk ?_;refine blk_put (cs:=#[.bool a0_0,.int .u64 (Go.bits .or .u64 (IntKind.u64.wrap (x114001_1*2)) (x114002_1 / 9223372036854775808)),.int .u64 x114002_1]) ?_ 2 _ rfl;refine bk ?_;refine blk_put (cs:=#[.bool a0_0,.int .u64 x114001_1,.int .u64 x114002_1]) ?_ 1 _ rfl;refine bk ?_;exact BK113.out) hb);have n1_:=ab hb BK114;have n2_:=ab hb BK115;have n3_:=ab hb BK116;have n4_:=Aside0.mk (blk_below (g:=gb117) (o:=.cells #[.bool false,.int .u64 (Go.bits .or .u64 (IntKind.u64.wrap (x118001_1*2)) (x118002_1 / 9223372036854775808)),.int .u64 (IntKind.u64.wrap (x118002_1*2))] 126 (0,0)) (by refine bk ?_;refine blk_put (cs:=#[.bool false,.int .u64 (Go.bits .or .u64 (IntKind.u64.wrap (x118001_1*2)) (x118002_1 / 9223372036854775808)),.int .u64 x118002_1]) ?_ 2 _ rfl;refine bk ?_;refine blk_put (cs:=#[.bool false,.int .u64 x118001_1,.int .u64 x118002_1]) ?_ 1 _ rfl;refine bk ?_;exact BK117.out) hb);have n5_:=Aside0.mk (blk_below (g:=gb118) (o:=.cells #[.bool x119000_1,.int .u64 (Go.bits .or .u64 (IntKind.u64.wrap (x119001_1*2)) (x119002_1 / 9223372036854775808)),.int .u64 (Go.bits .or .u64 (IntKind.u64.wrap (x119002_1*2)) (x114001_1 / 9223372036854775808))] 126 (0,0)) (by refine bk ?_;refine blk_put (cs:=#[.bool x119000_1,.int .u64 (Go.bits .or .u64 (IntKind.u64.wrap (x119001_1*2)) (x119002_1 / 9223372036854775808)),.int .u64 x119002_1]) ?_ 2 _ rfl;refine bk ?_;refine blk_put (cs:=#[.bool x119000_1,.int .u64 x119001_1,.int .u64 x119002_1]) ?_ 1 _ rfl;refine bk ?_;exact BK118.out) hb);have n6_:=hs hb HB;clear BK113;clear BK114;clear BK115;clear BK116;clear BK117;clear BK118;clear HB;have BK113:=n0_;have BK114:=n1_;have BK115:=n2_;have BK116:=n3_;have BK117:=n4_;have BK118:=n5_;have HB:=n6_;clear n0_ n1_ n2_ n3_ n4_ n5_ n6_;(try clear hb);(try clear hb2);(try clear hk);(try clear hi)))
     go_roundg k1
     case measure=>have:=HK1.out;omega
     case rel=>exact ⟨(wrap64 (x8_1+1)),(Go.bits .or .u64 (IntKind.u64.wrap (x114001_1*2)) (x114002_1 / 9223372036854775808)),(IntKind.u64.wrap (x114002_1*2)),(Go.bits .or .u64 (IntKind.u64.wrap (x118001_1*2)) (x118002_1 / 9223372036854775808)),(IntKind.u64.wrap (x118002_1*2)),(x119000_1),(Go.bits .or .u64 (IntKind.u64.wrap (x119001_1*2)) (x119002_1 / 9223372036854775808)),(Go.bits .or .u64 (IntKind.u64.wrap (x119002_1*2)) (x114001_1 / 9223372036854775808)),(by first|rfl|(simp;done)|(simp [*];done)),H',⟨by have:=HK1.out;omega⟩,⟨by refine bk ?_;exact BK113.out⟩,⟨by refine bk ?_;exact BK114.out⟩,⟨by refine bk ?_;exact BK115.out⟩,⟨by refine bk ?_;exact BK116.out⟩,⟨by refine bk ?_;exact BK117.out⟩,⟨by refine bk ?_;exact BK118.out⟩,⟨by repeat (first|(with_reducible first|exact HB.out|apply below_alloc|apply pw_below_drewN|apply below_drew1|refine below_set ?_ GE113.out|refine below_set ?_ GE114.out|refine below_set ?_ GE115.out|refine below_set ?_ GE116.out|refine below_set ?_ GE117.out|refine below_set ?_ GE118.out)|exact HB.out)⟩⟩
    ·replace c22:=Bool.eq_false_iff.mpr c22
     subst c22
     have H1:(if (Go.bits .or .u64 (IntKind.u64.wrap (x119002_1*2)) (x114001_1 / 9223372036854775808))<a1_2 then (surtitleref3_divided.l0 k1 (wrap64 (x8_1+1)) a0_0 (Go.bits .or .u64 (IntKind.u64.wrap (x114001_1*2)) (x114002_1 / 9223372036854775808)) (IntKind.u64.wrap (x114002_1*2)) a1_0 a1_1 a1_2 false (Go.bits .or .u64 (IntKind.u64.wrap (x118001_1*2)) (x118002_1 / 9223372036854775808)) (Go.bits .or .u64 (IntKind.u64.wrap (x118002_1*2)) 1) false (IntKind.u64.wrap ((IntKind.u64.wrap ((Go.bits .or .u64 (IntKind.u64.wrap (x119001_1*2)) (x119002_1 / 9223372036854775808)) - a1_1)) - 1)) (IntKind.u64.wrap ((Go.bits .or .u64 (IntKind.u64.wrap (x119002_1*2)) (x114001_1 / 9223372036854775808)) - a1_2))) else (surtitleref3_divided.l0 k1 (wrap64 (x8_1+1)) a0_0 (Go.bits .or .u64 (IntKind.u64.wrap (x114001_1*2)) (x114002_1 / 9223372036854775808)) (IntKind.u64.wrap (x114002_1*2)) a1_0 a1_1 a1_2 false (Go.bits .or .u64 (IntKind.u64.wrap (x118001_1*2)) (x118002_1 / 9223372036854775808)) (Go.bits .or .u64 (IntKind.u64.wrap (x118002_1*2)) 1) false (IntKind.u64.wrap ((Go.bits .or .u64 (IntKind.u64.wrap (x119001_1*2)) (x119002_1 / 9223372036854775808)) - a1_1)) (IntKind.u64.wrap ((Go.bits .or .u64 (IntKind.u64.wrap (x119002_1*2)) (x114001_1 / 9223372036854775808)) - a1_2))))=some (r1,r2,r3,r4,r5,r6):=by rw [if_neg (show ¬ (false=true) by decide)] at H;exact H
     clear H
     have H:=H1
     clear H1
     by_cases c42:(Go.bits .or .u64 (IntKind.u64.wrap (x119002_1*2)) (x114001_1 / 9223372036854775808))<a1_2
     ·rw [if_pos c42] at H
      have c42b0:decide ((Go.bits .or .u64 (IntKind.u64.wrap (x119002_1*2)) (x114001_1 / 9223372036854775808))<a1_2)=true:=decide_eq_true c42
      clear c42
      have H':=Aside0.mk H
      clear H
      have hnb43:=NB113_114.out
      have hnc43:=NB114_113.out
      have hnb44:=NB113_115.out
      have hnc44:=NB115_113.out
      have hnb45:=NB113_116.out
      have hnc45:=NB116_113.out
      have hnb46:=NB113_117.out
      have hnc46:=NB117_113.out
      have hnb47:=NB113_118.out
      have hnc47:=NB118_113.out
      obtain ⟨hcz48_0,hcz48_1,hcz48_2,hfz48_0,hfz48_1,hfz48_2⟩:=k3 BK113.out
      have hnb49:=NB118_114.out
      have hnc49:=NB114_118.out
      have hnb50:=NB118_115.out
      have hnc50:=NB115_118.out
      have hnb51:=NB118_116.out
      have hnc51:=NB116_118.out
      have hnb52:=NB118_117.out
      have hnc52:=NB117_118.out
      obtain ⟨hcz53_0,hcz53_1,hcz53_2,hfz53_0,hfz53_1,hfz53_2⟩:=k3 BK118.out
      have hnb54:=NB117_114.out
      have hnc54:=NB114_117.out
      have hnb55:=NB117_115.out
      have hnc55:=NB115_117.out
      have hnb56:=NB117_116.out
      have hnc56:=NB116_117.out
      obtain ⟨hcz57_0,hcz57_1,hcz57_2,hfz57_0,hfz57_1,hfz57_2⟩:=k3 BK117.out
      have hnb58:=NB114_115.out
      have hnc58:=NB115_114.out
      have hnb59:=NB114_116.out
      have hnc59:=NB116_114.out
      obtain ⟨hcz60_0,hcz60_1,hcz60_2,hfz60_0,hfz60_1,hfz60_2⟩:=k3 BK114.out
      go_wp2_with (first|((with_reducible refine gate_callee (f:=115) rfl ?_);refine goesL_ (some 65) rfl rfl Try.func115 (by kernel_rfl) rfl #[.agg #[.bool false,.int .u64 a1_1,.int .u64 a1_2],.agg #[.bool x119000_1,.int .u64 (Go.bits .or .u64 (IntKind.u64.wrap (x119001_1*2)) (x119002_1 / 9223372036854775808)),.int .u64 (Go.bits .or .u64 (IntKind.u64.wrap (x119002_1*2)) (x114001_1 / 9223372036854775808))]] rfl (by (try simp only [List.map_toArray,List.map_cons,List.map_nil]);first|done|rfl|(simp only [List.length_drop,List.length_take];rfl)) ?_;(with_reducible refine (surtitleref3_above.calls false a1_1 a1_2 x119000_1 (Go.bits .or .u64 (IntKind.u64.wrap (x119001_1*2)) (x119002_1 / 9223372036854775808)) (Go.bits .or .u64 (IntKind.u64.wrap (x119002_1*2)) (x114001_1 / 9223372036854775808)) false _ A21.out).mono ?_);rintro e w61 ⟨rfl,hb⟩;refine ⟨_,rfl,?_⟩;have n0_:=Aside0.mk (blk_below (g:=gb113) (o:=.cells #[.bool a0_0,.int .u64 (Go.bits .or .u64 (IntKind.u64.wrap (x114001_1*2)) (x114002_1 / 9223372036854775808)),.int .u64 (IntKind.u64.wrap (x114002_1*2))] 126 (0,0)) (by refine bk ?_;refine blk_put (cs:=#[.bool a0_0,.int .u64 (Go.bits .or .u64 (IntKind.u64.wrap (x114001_1*2)) (x114002_1 / 9223372036854775808)),.int .u64 x114002_1]) ?_ 2 _ rfl;refine bk ?_;refine blk_put (cs:=#[.bool a0_0,.int .u64 x114001_1,.int .u64 x114002_1]) ?_ 1 _ rfl;refine bk ?_;exact BK113.out) hb);have n1_:=ab hb BK114;have n2_:=ab hb BK115;have n3_:=ab hb BK116;have n4_:=Aside0.mk (blk_below (g:=gb117) (o:=.cells #[.bool false,.int .u64 (Go.bits .or .u64 (IntKind.u64.wrap (x118001_1*2)) (x118002_1 / 9223372036854775808)),.int .u64 (IntKind.u64.wrap (x118002_1*2))] 126 (0,0)) (by refine bk ?_;refine blk_put (cs:=#[.bool false,.int .u64 (Go.bits .or .u64 (IntKind.u64.wrap (x118001_1*2)) (x118002_1 / 9223372036854775808)),.int .u64 x118002_1]) ?_ 2 _ rfl;refine bk ?_;refine blk_put (cs:=#[.bool false,.int .u64 x118001_1,.int .u64 x118002_1]) ?_ 1 _ rfl;refine bk ?_;exact BK117.out) hb);have n5_:=Aside0.mk (blk_below (g:=gb118) (o:=.cells #[.bool x119000_1,.int .u64 (Go.bits .or .u64 (IntKind.u64.wrap (x119001_1*2)) (x119002_1 / 9223372036854775808)),.int .u64 (Go.bits .or .u64 (IntKind.u64.wrap (x119002_1*2)) (x114001_1 / 9223372036854775808))] 126 (0,0)) (by refine bk ?_;refine blk_put (cs:=#[.bool x119000_1,.int .u64 (Go.bits .or .u64 (IntKind.u64.wrap (x119001_1*2)) (x119002_1 / 9223372036854775808)),.int .u64 x119002_1]) ?_ 2 _ rfl;refine bk ?_;refine blk_put (cs:=#[.bool x119000_1,.int .u64 x119001_1,.int .u64 x119002_1]) ?_ 1 _ rfl;refine bk ?_;exact BK118.out) hb);have n6_:=hs hb HB;clear BK113;clear BK114;clear BK115;clear BK116;clear BK117;clear BK118;clear HB;have BK113:=n0_;have BK114:=n1_;have BK115:=n2_;have BK116:=n3_;have BK117:=n4_;have BK118:=n5_;have HB:=n6_;clear n0_ n1_ n2_ n3_ n4_ n5_ n6_;(try clear hb);(try clear hb2);(try clear hk);(try clear hi);have hcz62_0:w61.cell? ⟨gb118,0,none⟩=some (.bool x119000_1):=c0 BK118.out;have hcz62_1:w61.cell? ⟨gb118,1,none⟩=some (.int .u64 (Go.bits .or .u64 (IntKind.u64.wrap (x119001_1*2)) (x119002_1 / 9223372036854775808))):=c1 BK118.out;have hcz62_2:w61.cell? ⟨gb118,2,none⟩=some (.int .u64 (Go.bits .or .u64 (IntKind.u64.wrap (x119002_1*2)) (x114001_1 / 9223372036854775808))):=c2 BK118.out;have hfz62_0:=blk_frozen BK118.out 0;have hfz62_1:=blk_frozen BK118.out 1;have hfz62_2:=blk_frozen BK118.out 2;obtain ⟨hcz63_0,hcz63_1,hcz63_2,hfz63_0,hfz63_1,hfz63_2⟩:=k3 BK114.out;have hcz64_0:w61.cell? ⟨gb117,0,none⟩=some (.bool false):=c0 BK117.out;have hcz64_1:w61.cell? ⟨gb117,1,none⟩=some (.int .u64 (Go.bits .or .u64 (IntKind.u64.wrap (x118001_1*2)) (x118002_1 / 9223372036854775808))):=c1 BK117.out;have hcz64_2:w61.cell? ⟨gb117,2,none⟩=some (.int .u64 (IntKind.u64.wrap (x118002_1*2))):=c2 BK117.out;have hfz64_0:=blk_frozen BK117.out 0;have hfz64_1:=blk_frozen BK117.out 1;have hfz64_2:=blk_frozen BK117.out 2))
      go_roundg k1
      case measure=>have:=HK1.out;omega
      case rel=>exact ⟨(wrap64 (x8_1+1)),(Go.bits .or .u64 (IntKind.u64.wrap (x114001_1*2)) (x114002_1 / 9223372036854775808)),(IntKind.u64.wrap (x114002_1*2)),(Go.bits .or .u64 (IntKind.u64.wrap (x118001_1*2)) (x118002_1 / 9223372036854775808)),(Go.bits .or .u64 (IntKind.u64.wrap (x118002_1*2)) 1),(false),(IntKind.u64.wrap ((IntKind.u64.wrap ((Go.bits .or .u64 (IntKind.u64.wrap (x119001_1*2)) (x119002_1 / 9223372036854775808)) - a1_1)) - 1)),(IntKind.u64.wrap ((Go.bits .or .u64 (IntKind.u64.wrap (x119002_1*2)) (x114001_1 / 9223372036854775808)) - a1_2)),(by first|rfl|(simp;done)|(simp [*];done)),H',⟨by have:=HK1.out;omega⟩,⟨by refine bk ?_;exact BK113.out⟩,⟨by refine bk ?_;exact BK114.out⟩,⟨by refine bk ?_;exact BK115.out⟩,⟨by refine bk ?_;exact BK116.out⟩,⟨by refine bk ?_;refine blk_put (cs:=#[.bool false,.int .u64 (Go.bits .or .u64 (IntKind.u64.wrap (x118001_1*2)) (x118002_1 / 9223372036854775808)),.int .u64 (IntKind.u64.wrap (x118002_1*2))]) ?_ 2 _ rfl;refine bk ?_;exact BK117.out⟩,⟨by refine bk ?_;refine blk_put (cs:=#[.bool false,.int .u64 (IntKind.u64.wrap ((IntKind.u64.wrap ((Go.bits .or .u64 (IntKind.u64.wrap (x119001_1*2)) (x119002_1 / 9223372036854775808)) - a1_1)) - 1)),.int .u64 (Go.bits .or .u64 (IntKind.u64.wrap (x119002_1*2)) (x114001_1 / 9223372036854775808))]) ?_ 2 _ rfl;refine bk ?_;refine blk_put (cs:=#[.bool false,.int .u64 (Go.bits .or .u64 (IntKind.u64.wrap (x119001_1*2)) (x119002_1 / 9223372036854775808)),.int .u64 (Go.bits .or .u64 (IntKind.u64.wrap (x119002_1*2)) (x114001_1 / 9223372036854775808))]) ?_ 1 _ rfl;refine bk ?_;refine blk_put (cs:=#[.bool x119000_1,.int .u64 (Go.bits .or .u64 (IntKind.u64.wrap (x119001_1*2)) (x119002_1 / 9223372036854775808)),.int .u64 (Go.bits .or .u64 (IntKind.u64.wrap (x119002_1*2)) (x114001_1 / 9223372036854775808))]) ?_ 0 _ rfl;refine bk ?_;exact BK118.out⟩,⟨by repeat (first|(with_reducible first|exact HB.out|apply below_alloc|apply pw_below_drewN|apply below_drew1|refine below_set ?_ GE113.out|refine below_set ?_ GE114.out|refine below_set ?_ GE115.out|refine below_set ?_ GE116.out|refine below_set ?_ GE117.out|refine below_set ?_ GE118.out)|exact HB.out)⟩⟩
     ·rw [if_neg c42] at H
      have c42b0:decide ((Go.bits .or .u64 (IntKind.u64.wrap (x119002_1*2)) (x114001_1 / 9223372036854775808))<a1_2)=false:=decide_eq_false c42
      clear c42
      have H':=Aside0.mk H
      clear H
      have hnb65:=NB113_114.out
      have hnc65:=NB114_113.out
      have hnb66:=NB113_115.out
      have hnc66:=NB115_113.out
      have hnb67:=NB113_116.out
      have hnc67:=NB116_113.out
      have hnb68:=NB113_117.out
      have hnc68:=NB117_113.out
      have hnb69:=NB113_118.out
      have hnc69:=NB118_113.out
      obtain ⟨hcz70_0,hcz70_1,hcz70_2,hfz70_0,hfz70_1,hfz70_2⟩:=k3 BK113.out
      have hnb71:=NB118_114.out
      have hnc71:=NB114_118.out
      have hnb72:=NB118_115.out
      have hnc72:=NB115_118.out
      have hnb73:=NB118_116.out
      have hnc73:=NB116_118.out
      have hnb74:=NB118_117.out
      have hnc74:=NB117_118.out
      obtain ⟨hcz75_0,hcz75_1,hcz75_2,hfz75_0,hfz75_1,hfz75_2⟩:=k3 BK118.out
      have hnb76:=NB117_114.out
      have hnc76:=NB114_117.out
      have hnb77:=NB117_115.out
      have hnc77:=NB115_117.out
      have hnb78:=NB117_116.out
      have hnc78:=NB116_117.out
      obtain ⟨hcz79_0,hcz79_1,hcz79_2,hfz79_0,hfz79_1,hfz79_2⟩:=k3 BK117.out
      have hnb80:=NB114_115.out
      have hnc80:=NB115_114.out
      have hnb81:=NB114_116.out
      have hnc81:=NB116_114.out
      obtain ⟨hcz82_0,hcz82_1,hcz82_2,hfz82_0,hfz82_1,hfz82_2⟩:=k3 BK114.out
      go_wp2_with (first|((with_reducible refine gate_callee (f:=115) rfl ?_);refine goesL_ (some 65) rfl rfl Try.func115 (by kernel_rfl) rfl #[.agg #[.bool false,.int .u64 a1_1,.int .u64 a1_2],.agg #[.bool x119000_1,.int .u64 (Go.bits .or .u64 (IntKind.u64.wrap (x119001_1*2)) (x119002_1 / 9223372036854775808)),.int .u64 (Go.bits .or .u64 (IntKind.u64.wrap (x119002_1*2)) (x114001_1 / 9223372036854775808))]] rfl (by (try simp only [List.map_toArray,List.map_cons,List.map_nil]);first|done|rfl|(simp only [List.length_drop,List.length_take];rfl)) ?_;(with_reducible refine (surtitleref3_above.calls false a1_1 a1_2 x119000_1 (Go.bits .or .u64 (IntKind.u64.wrap (x119001_1*2)) (x119002_1 / 9223372036854775808)) (Go.bits .or .u64 (IntKind.u64.wrap (x119002_1*2)) (x114001_1 / 9223372036854775808)) false _ A21.out).mono ?_);rintro e w83 ⟨rfl,hb⟩;refine ⟨_,rfl,?_⟩;have n0_:=Aside0.mk (blk_below (g:=gb113) (o:=.cells #[.bool a0_0,.int .u64 (Go.bits .or .u64 (IntKind.u64.wrap (x114001_1*2)) (x114002_1 / 9223372036854775808)),.int .u64 (IntKind.u64.wrap (x114002_1*2))] 126 (0,0)) (by refine bk ?_;refine blk_put (cs:=#[.bool a0_0,.int .u64 (Go.bits .or .u64 (IntKind.u64.wrap (x114001_1*2)) (x114002_1 / 9223372036854775808)),.int .u64 x114002_1]) ?_ 2 _ rfl;refine bk ?_;refine blk_put (cs:=#[.bool a0_0,.int .u64 x114001_1,.int .u64 x114002_1]) ?_ 1 _ rfl;refine bk ?_;exact BK113.out) hb);have n1_:=ab hb BK114;have n2_:=ab hb BK115;have n3_:=ab hb BK116;have n4_:=Aside0.mk (blk_below (g:=gb117) (o:=.cells #[.bool false,.int .u64 (Go.bits .or .u64 (IntKind.u64.wrap (x118001_1*2)) (x118002_1 / 9223372036854775808)),.int .u64 (IntKind.u64.wrap (x118002_1*2))] 126 (0,0)) (by refine bk ?_;refine blk_put (cs:=#[.bool false,.int .u64 (Go.bits .or .u64 (IntKind.u64.wrap (x118001_1*2)) (x118002_1 / 9223372036854775808)),.int .u64 x118002_1]) ?_ 2 _ rfl;refine bk ?_;refine blk_put (cs:=#[.bool false,.int .u64 x118001_1,.int .u64 x118002_1]) ?_ 1 _ rfl;refine bk ?_;exact BK117.out) hb);have n5_:=Aside0.mk (blk_below (g:=gb118) (o:=.cells #[.bool x119000_1,.int .u64 (Go.bits .or .u64 (IntKind.u64.wrap (x119001_1*2)) (x119002_1 / 9223372036854775808)),.int .u64 (Go.bits .or .u64 (IntKind.u64.wrap (x119002_1*2)) (x114001_1 / 9223372036854775808))] 126 (0,0)) (by refine bk ?_;refine blk_put (cs:=#[.bool x119000_1,.int .u64 (Go.bits .or .u64 (IntKind.u64.wrap (x119001_1*2)) (x119002_1 / 9223372036854775808)),.int .u64 x119002_1]) ?_ 2 _ rfl;refine bk ?_;refine blk_put (cs:=#[.bool x119000_1,.int .u64 x119001_1,.int .u64 x119002_1]) ?_ 1 _ rfl;refine bk ?_;exact BK118.out) hb);have n6_:=hs hb HB;clear BK113;clear BK114;clear BK115;clear BK116;clear BK117;clear BK118;clear HB;have BK113:=n0_;have BK114:=n1_;have BK115:=n2_;have BK116:=n3_;have BK117:=n4_;have BK118:=n5_;have HB:=n6_;clear n0_ n1_ n2_ n3_ n4_ n5_ n6_;(try clear hb);(try clear hb2);(try clear hk);(try clear hi);have hcz84_0:w83.cell? ⟨gb118,0,none⟩=some (.bool x119000_1):=c0 BK118.out;have hcz84_1:w83.cell? ⟨gb118,1,none⟩=some (.int .u64 (Go.bits .or .u64 (IntKind.u64.wrap (x119001_1*2)) (x119002_1 / 9223372036854775808))):=c1 BK118.out;have hcz84_2:w83.cell? ⟨gb118,2,none⟩=some (.int .u64 (Go.bits .or .u64 (IntKind.u64.wrap (x119002_1*2)) (x114001_1 / 9223372036854775808))):=c2 BK118.out;have hfz84_0:=blk_frozen BK118.out 0;have hfz84_1:=blk_frozen BK118.out 1;have hfz84_2:=blk_frozen BK118.out 2;obtain ⟨hcz85_0,hcz85_1,hcz85_2,hfz85_0,hfz85_1,hfz85_2⟩:=k3 BK114.out;have hcz86_0:w83.cell? ⟨gb117,0,none⟩=some (.bool false):=c0 BK117.out;have hcz86_1:w83.cell? ⟨gb117,1,none⟩=some (.int .u64 (Go.bits .or .u64 (IntKind.u64.wrap (x118001_1*2)) (x118002_1 / 9223372036854775808))):=c1 BK117.out;have hcz86_2:w83.cell? ⟨gb117,2,none⟩=some (.int .u64 (IntKind.u64.wrap (x118002_1*2))):=c2 BK117.out;have hfz86_0:=blk_frozen BK117.out 0;have hfz86_1:=blk_frozen BK117.out 1;have hfz86_2:=blk_frozen BK117.out 2))
      go_roundg k1
      case measure=>have:=HK1.out;omega
      case rel=>exact ⟨(wrap64 (x8_1+1)),(Go.bits .or .u64 (IntKind.u64.wrap (x114001_1*2)) (x114002_1 / 9223372036854775808)),(IntKind.u64.wrap (x114002_1*2)),(Go.bits .or .u64 (IntKind.u64.wrap (x118001_1*2)) (x118002_1 / 9223372036854775808)),(Go.bits .or .u64 (IntKind.u64.wrap (x118002_1*2)) 1),(false),(IntKind.u64.wrap ((Go.bits .or .u64 (IntKind.u64.wrap (x119001_1*2)) (x119002_1 / 9223372036854775808)) - a1_1)),(IntKind.u64.wrap ((Go.bits .or .u64 (IntKind.u64.wrap (x119002_1*2)) (x114001_1 / 9223372036854775808)) - a1_2)),(by first|rfl|(simp;done)|(simp [*];done)),H',⟨by have:=HK1.out;omega⟩,⟨by refine bk ?_;exact BK113.out⟩,⟨by refine bk ?_;exact BK114.out⟩,⟨by refine bk ?_;exact BK115.out⟩,⟨by refine bk ?_;exact BK116.out⟩,⟨by refine bk ?_;refine blk_put (cs:=#[.bool false,.int .u64 (Go.bits .or .u64 (IntKind.u64.wrap (x118001_1*2)) (x118002_1 / 9223372036854775808)),.int .u64 (IntKind.u64.wrap (x118002_1*2))]) ?_ 2 _ rfl;refine bk ?_;exact BK117.out⟩,⟨by refine bk ?_;refine blk_put (cs:=#[.bool false,.int .u64 (IntKind.u64.wrap ((Go.bits .or .u64 (IntKind.u64.wrap (x119001_1*2)) (x119002_1 / 9223372036854775808)) - a1_1)),.int .u64 (Go.bits .or .u64 (IntKind.u64.wrap (x119002_1*2)) (x114001_1 / 9223372036854775808))]) ?_ 2 _ rfl;refine bk ?_;refine blk_put (cs:=#[.bool false,.int .u64 (Go.bits .or .u64 (IntKind.u64.wrap (x119001_1*2)) (x119002_1 / 9223372036854775808)),.int .u64 (Go.bits .or .u64 (IntKind.u64.wrap (x119002_1*2)) (x114001_1 / 9223372036854775808))]) ?_ 1 _ rfl;refine bk ?_;refine blk_put (cs:=#[.bool x119000_1,.int .u64 (Go.bits .or .u64 (IntKind.u64.wrap (x119001_1*2)) (x119002_1 / 9223372036854775808)),.int .u64 (Go.bits .or .u64 (IntKind.u64.wrap (x119002_1*2)) (x114001_1 / 9223372036854775808))]) ?_ 0 _ rfl;refine bk ?_;exact BK118.out⟩,⟨by repeat (first|(with_reducible first|exact HB.out|apply below_alloc|apply pw_below_drewN|apply below_drew1|refine below_set ?_ GE113.out|refine below_set ?_ GE114.out|refine below_set ?_ GE115.out|refine below_set ?_ GE116.out|refine below_set ?_ GE117.out|refine below_set ?_ GE118.out)|exact HB.out)⟩⟩
   ·rw [if_neg c20] at H
    have c20b0:decide (x8_1<128)=false:=decide_eq_false c20
    clear c20
    simp only [Option.some.injEq,Prod.mk.injEq] at H
    obtain ⟨rfl,rfl,rfl,rfl,rfl,rfl⟩:=H
    try go_wp2
    have n0_:=Aside0.mk (blk_drew BK113.out)
    have n1_:=Aside0.mk (blk_drew BK114.out)
    have n2_:=Aside0.mk (blk_drew BK115.out)
    have n3_:=Aside0.mk (blk_drew BK116.out)
    have n4_:=Aside0.mk (blk_drew BK117.out)
    have n5_:=Aside0.mk (blk_drew BK118.out)
    have n6_:=Aside0.mk (below_drew1 HB.out)
    clear BK113
    clear BK114
    clear BK115
    clear BK116
    clear BK117
    clear BK118
    clear HB
    have BK113:=n0_
    have BK114:=n1_
    have BK115:=n2_
    have BK116:=n3_
    have BK117:=n4_
    have BK118:=n5_
    have HB:=n6_
    clear n0_ n1_ n2_ n3_ n4_ n5_ n6_
    refine start_ (n:=4) (S:=fun w'=>w'.cell? ⟨gb117,0,none⟩=some (.bool false)∧w'.cell? ⟨gb117,1,none⟩=some (.int .u64 x118001_1)∧w'.cell? ⟨gb117,2,none⟩=some (.int .u64 x118002_1)∧w'.cell? ⟨gb118,0,none⟩=some (.bool x119000_1)∧w'.cell? ⟨gb118,1,none⟩=some (.int .u64 x119001_1)∧w'.cell? ⟨gb118,2,none⟩=some (.int .u64 x119002_1)) (ds:=[]) #[false,false,false,false] (by kernel_rfl) rfl rfl ⟨c0 BK117.out,c1 BK117.out,c2 BK117.out,c0 BK118.out,c1 BK118.out,c2 BK118.out⟩ (fun hHeld=>?_)
    generalize wr.drew=w87 at BK113 BK114 BK115 BK116 BK117 BK118 HB hHeld ⊢
    refine take_ (i:=0) (N:=some 91) (v:=?_) (a':=?_) #[true,false,false,false] rfl rfl (by kernel_rfl) (fun _ _ _ h=>h) (Or.inl ⟨by rfl,?_⟩) hHeld ?_ ?_
    rotate_left
    ·rintro w' ⟨s0,s1,s2,s3,s4,s5⟩
     go_simp
     with_reducible rfl
    rotate_left
    ·simp only [Act.put,List.setIfInBounds_toArray,List.set_cons_zero,List.set_cons_succ,i64_w,i32_w]
     rfl
    refine take_ (i:=1) (N:=some 92) (v:=?_) (a':=?_) #[true,true,false,false] rfl rfl (by kernel_rfl) (fun _ _ _ h=>h) (Or.inl ⟨by rfl,?_⟩) hHeld ?_ ?_
    rotate_left
    ·rintro w' ⟨s0,s1,s2,s3,s4,s5⟩
     go_simp
     with_reducible rfl
    rotate_left
    ·simp only [Act.put,List.setIfInBounds_toArray,List.set_cons_zero,List.set_cons_succ,i64_w,i32_w]
     rfl
    refine one_ (i:=2) (N:=none) #[true,true,true,false] rfl rfl (by kernel_rfl) (by decide) (fun K hK=>?_)
    have hs88:w87.cell? ⟨gb115,0,none⟩=some (.bool false):=c0 BK115.out
    have hfs88:=blk_frozen BK115.out 0
    have hns88_0:=NB113_115.out
    have hns88_1:=NB114_115.out
    have hns88_3:=NB116_115.out
    have hns88_4:=NB117_115.out
    have hns88_5:=NB118_115.out
    have hms88_0:=NB115_113.out
    have hms88_1:=NB115_114.out
    have hms88_3:=NB115_116.out
    have hms88_4:=NB115_117.out
    have hms88_5:=NB115_118.out
    have hs89:w87.cell? ⟨gb115,1,none⟩=some (.int .u64 0):=c1 BK115.out
    have hfs89:=blk_frozen BK115.out 1
    have hns89_0:=NB113_115.out
    have hns89_1:=NB114_115.out
    have hns89_3:=NB116_115.out
    have hns89_4:=NB117_115.out
    have hns89_5:=NB118_115.out
    have hms89_0:=NB115_113.out
    have hms89_1:=NB115_114.out
    have hms89_3:=NB115_116.out
    have hms89_4:=NB115_117.out
    have hms89_5:=NB115_118.out
    have hs90:w87.cell? ⟨gb115,2,none⟩=some (.int .u64 0):=c2 BK115.out
    have hfs90:=blk_frozen BK115.out 2
    have hns90_0:=NB113_115.out
    have hns90_1:=NB114_115.out
    have hns90_3:=NB116_115.out
    have hns90_4:=NB117_115.out
    have hns90_5:=NB118_115.out
    have hms90_0:=NB115_113.out
    have hms90_1:=NB115_114.out
    have hms90_3:=NB115_116.out
    have hms90_4:=NB115_117.out
    have hms90_5:=NB115_118.out
    refine skip_ (w1:=?_) (by rfl) rfl ?_ ?_
    rotate_left
    ·go_simp
     rfl
    refine hK.out _ _ ⟨((cell_far (p:=⟨gb115,_,none⟩) NB117_115.out _).trans (((cell_far (p:=⟨gb115,_,none⟩) NB117_115.out _).trans (((cell_far (p:=⟨gb115,_,none⟩) NB117_115.out _).trans (hHeld.1)))))),((cell_far (p:=⟨gb115,_,none⟩) NB117_115.out _).trans (((cell_far (p:=⟨gb115,_,none⟩) NB117_115.out _).trans (((cell_far (p:=⟨gb115,_,none⟩) NB117_115.out _).trans (hHeld.2.1)))))),((cell_far (p:=⟨gb115,_,none⟩) NB117_115.out _).trans (((cell_far (p:=⟨gb115,_,none⟩) NB117_115.out _).trans (((cell_far (p:=⟨gb115,_,none⟩) NB117_115.out _).trans (hHeld.2.2.1)))))),((cell_far (p:=⟨gb115,_,none⟩) NB118_115.out _).trans (((cell_far (p:=⟨gb115,_,none⟩) NB118_115.out _).trans (((cell_far (p:=⟨gb115,_,none⟩) NB118_115.out _).trans (hHeld.2.2.2.1)))))),((cell_far (p:=⟨gb115,_,none⟩) NB118_115.out _).trans (((cell_far (p:=⟨gb115,_,none⟩) NB118_115.out _).trans (((cell_far (p:=⟨gb115,_,none⟩) NB118_115.out _).trans (hHeld.2.2.2.2.1)))))),((cell_far (p:=⟨gb115,_,none⟩) NB118_115.out _).trans (((cell_far (p:=⟨gb115,_,none⟩) NB118_115.out _).trans (((cell_far (p:=⟨gb115,_,none⟩) NB118_115.out _).trans (hHeld.2.2.2.2.2))))))⟩ (fun hHeld=>?_)
    clear hK K
    refine one_ (i:=3) (N:=none) #[true,true,true,true] rfl rfl (by kernel_rfl) (by decide) (fun K hK=>?_)
    have hs91:w87.cell? ⟨gb116,0,none⟩=some (.bool false):=c0 BK116.out
    have hfs91:=blk_frozen BK116.out 0
    have hns91_0:=NB113_116.out
    have hns91_1:=NB114_116.out
    have hns91_2:=NB115_116.out
    have hns91_4:=NB117_116.out
    have hns91_5:=NB118_116.out
    have hms91_0:=NB116_113.out
    have hms91_1:=NB116_114.out
    have hms91_2:=NB116_115.out
    have hms91_4:=NB116_117.out
    have hms91_5:=NB116_118.out
    have hs92:w87.cell? ⟨gb116,1,none⟩=some (.int .u64 0):=c1 BK116.out
    have hfs92:=blk_frozen BK116.out 1
    have hns92_0:=NB113_116.out
    have hns92_1:=NB114_116.out
    have hns92_2:=NB115_116.out
    have hns92_4:=NB117_116.out
    have hns92_5:=NB118_116.out
    have hms92_0:=NB116_113.out
    have hms92_1:=NB116_114.out
    have hms92_2:=NB116_115.out
    have hms92_4:=NB116_117.out
    have hms92_5:=NB116_118.out
    have hs93:w87.cell? ⟨gb116,2,none⟩=some (.int .u64 0):=c2 BK116.out
    have hfs93:=blk_frozen BK116.out 2
    have hns93_0:=NB113_116.out
    have hns93_1:=NB114_116.out
    have hns93_2:=NB115_116.out
    have hns93_4:=NB117_116.out
    have hns93_5:=NB118_116.out
    have hms93_0:=NB116_113.out
    have hms93_1:=NB116_114.out
    have hms93_2:=NB116_115.out
    have hms93_4:=NB116_117.out
    have hms93_5:=NB116_118.out
    refine skip_ (w1:=?_) (by rfl) rfl ?_ ?_
    rotate_left
    ·go_simp
     rfl
    refine hK.out _ _ ⟨((cell_far (p:=⟨gb116,_,none⟩) NB117_116.out _).trans (((cell_far (p:=⟨gb116,_,none⟩) NB117_116.out _).trans (((cell_far (p:=⟨gb116,_,none⟩) NB117_116.out _).trans (hHeld.1)))))),((cell_far (p:=⟨gb116,_,none⟩) NB117_116.out _).trans (((cell_far (p:=⟨gb116,_,none⟩) NB117_116.out _).trans (((cell_far (p:=⟨gb116,_,none⟩) NB117_116.out _).trans (hHeld.2.1)))))),((cell_far (p:=⟨gb116,_,none⟩) NB117_116.out _).trans (((cell_far (p:=⟨gb116,_,none⟩) NB117_116.out _).trans (((cell_far (p:=⟨gb116,_,none⟩) NB117_116.out _).trans (hHeld.2.2.1)))))),((cell_far (p:=⟨gb116,_,none⟩) NB118_116.out _).trans (((cell_far (p:=⟨gb116,_,none⟩) NB118_116.out _).trans (((cell_far (p:=⟨gb116,_,none⟩) NB118_116.out _).trans (hHeld.2.2.2.1)))))),((cell_far (p:=⟨gb116,_,none⟩) NB118_116.out _).trans (((cell_far (p:=⟨gb116,_,none⟩) NB118_116.out _).trans (((cell_far (p:=⟨gb116,_,none⟩) NB118_116.out _).trans (hHeld.2.2.2.2.1)))))),((cell_far (p:=⟨gb116,_,none⟩) NB118_116.out _).trans (((cell_far (p:=⟨gb116,_,none⟩) NB118_116.out _).trans (((cell_far (p:=⟨gb116,_,none⟩) NB118_116.out _).trans (hHeld.2.2.2.2.2))))))⟩ (fun hHeld=>?_)
    clear hK K
    refine done_ (by kernel_rfl) ?_
    try go_wp2
    refine bodyPost_ret (results_cc rfl _ _ gb115 gb116 126 126 #[.bool false,.int .u64 x118001_1,.int .u64 x118002_1] #[.bool x119000_1,.int .u64 x119001_1,.int .u64 x119002_1] (0,0) (0,0) _ _ rfl (by refine bk ?_;refine blk_put (cs:=#[.bool false,.int .u64 x118001_1,.int .u64 0]) ?_ 2 _ rfl;refine bk ?_;refine blk_put (cs:=#[.bool false,.int .u64 0,.int .u64 0]) ?_ 1 _ rfl;refine bk ?_;refine blk_put (cs:=#[.bool false,.int .u64 0,.int .u64 0]) ?_ 0 _ rfl;refine bk ?_;exact BK115.out) Try.underlying126 rfl (by kernel_rfl) rfl (by refine bk ?_;refine blk_put (cs:=#[.bool x119000_1,.int .u64 x119001_1,.int .u64 0]) ?_ 2 _ rfl;refine bk ?_;refine blk_put (cs:=#[.bool x119000_1,.int .u64 0,.int .u64 0]) ?_ 1 _ rfl;refine bk ?_;refine blk_put (cs:=#[.bool false,.int .u64 0,.int .u64 0]) ?_ 0 _ rfl;refine bk ?_;exact BK116.out) Try.underlying126 rfl (by kernel_rfl)) rfl ?_
    exact ⟨by first|rfl|(simp [errW_none,errW_some]<;>rfl)|(simp [*,errW_none,errW_some]<;>rfl),by repeat (first|(with_reducible first|exact HB.out|apply below_alloc|apply pw_below_drewN|apply below_drew1|refine below_set ?_ GE113.out|refine below_set ?_ GE114.out|refine below_set ?_ GE115.out|refine below_set ?_ GE116.out|refine below_set ?_ GE117.out|refine below_set ?_ GE118.out)|exact HB.out)⟩

/-! ### surtitleref3_common: function 95 -/
def surtitleref3_common.l0:Nat → Int → Int → Option (Int)
 | 0,_,_=>none
 | k+1,x0,x1=>if x1=0 then (some x0) else (surtitleref3_common.l0 k x1 (Int.tmod x0 x1))
def surtitleref3_common.f (k:Nat) (a0:Int) (a1:Int):Option (Int):=surtitleref3_common.l0 k a0 a1
theorem surtitleref3_common.mono_l:∀ k,(∀ y0 y1,LeO (surtitleref3_common.l0 k y0 y1) (surtitleref3_common.l0 (k+1) y0 y1))
 | 0=>fun _ _ r h=>by simp [surtitleref3_common.l0] at h
 | k+1=>by
  have ih0:=surtitleref3_common.mono_l k
  ·intro y0 y1
   unfold surtitleref3_common.l0
   repeat' first
   | (with_reducible exact ih0 _ _)
   | (with_reducible exact LeO.refl _)
   | (with_reducible exact LeO.none _)
   | (with_reducible refine LeO.ite ?_ ?_)
   | (with_reducible refine LeO.bind ?_ (fun _=>?_))
   | exact ih0 _ _
   | exact LeO.none _
   | refine LeO.ite ?_ ?_
   | refine LeO.bind ?_ (fun _=>?_)
theorem surtitleref3_common.mono:∀ a0 a1 k,LeO (surtitleref3_common.f k a0 a1) (surtitleref3_common.f (k+1) a0 a1):=by
 intro a0 a1 k
 have ih0:=surtitleref3_common.mono_l k
 unfold surtitleref3_common.f
 repeat' first
   | (with_reducible exact ih0 _ _)
   | (with_reducible exact LeO.refl _)
   | (with_reducible exact LeO.none _)
   | (with_reducible refine LeO.ite ?_ ?_)
   | (with_reducible refine LeO.bind ?_ (fun _=>?_))
   | exact ih0 _ _
   | exact LeO.none _
   | refine LeO.ite ?_ ?_
   | refine LeO.bind ?_ (fun _=>?_)
theorem surtitleref3_common.calls (k:Nat) (a0:Int) (a1:Int) (r:Int) (w:World) (h:surtitleref3_common.f k a0 a1=some r) :
  Calls Try.prog 95 #[.int .u64 a0,.int .u64 a1] w fun e w'=>e = .returned (.int .u64 r)∧Drawn0 w w':=by
 have H:(surtitleref3_common.l0 k a0 a1)=some r:=h
 clear h
 have H':=Aside0.mk H
 clear H
 go_enter Try.func95,Try.ntmps95
 go_wp2
 repeat (go_quiet (fail);try go_wp2)
 go_loopg [0,1] k (fun kq v0 v1 w'=>∃ (x0_1:Int) (x1_1:Int),v0 = .int .u64 x0_1∧v1 = .int .u64 x1_1∧Aside0 (surtitleref3_common.l0 kq x0_1 x1_1=some r)∧Aside0 (kq≤k)∧Drawn0 w w')
 case atStart=>exact ⟨(a0),(a1),(by first|rfl|(simp;done)|(simp [*];done)),(by first|rfl|(simp;done)|(simp [*];done)),H',⟨Nat.le_refl _⟩,by repeat (first|exact Drawn0.refl _|apply Drawn0.step)⟩
 case round =>
  clear H'
  try clear p2
  obtain ⟨x0_1,x1_1,rfl,rfl,HA,HK1,⟨m1,rfl⟩⟩:=hrel
  cases gk with
  | zero=>exact absurd HA.out (by simp [surtitleref3_common.l0])
  | succ k1 =>
   have H:=HA.out
   clear HA
   simp only [surtitleref3_common.l0] at H
   by_cases c3:x1_1=0
   ·rw [if_pos c3] at H
    have c3b0:(x1_1 == 0)=true:=beq_iff_eq.mpr c3
    have c3b1:(x1_1 != 0)=false:=bne_eq_false_iff_eq.mpr c3
    clear c3
    obtain rfl:=Option.some.inj H
    go_wp2
    repeat (go_quiet (fail);try go_wp2)
    go_ret
    exact ⟨by first|rfl|(simp;done)|(simp [*];done),by repeat (first|exact Drawn0.refl _|apply Drawn0.step)⟩
   ·rw [if_neg c3] at H
    have c3b0:(x1_1 == 0)=false:=beq_eq_false_iff_ne.mpr c3
    have c3b1:(x1_1 != 0)=true:=bne_iff_ne.mpr c3
    have H':=Aside0.mk H
    clear H
    go_wp2
    repeat (go_quiet (fail);try go_wp2)
    go_roundg k1
    case measure=>have:=HK1.out;omega
    case rel=>exact ⟨(x1_1),(Int.tmod x0_1 x1_1),(by first|rfl|(simp;done)|(simp [*];done)),(by first|rfl|(simp;done)|(simp [*];done)),H',⟨by have:=HK1.out;omega⟩,by repeat (first|exact Drawn0.refl _|apply Drawn0.step)⟩

/-! ### surtitleref3_Right: function 61 -/
def surtitleref3_Right.f (k:Nat) (a0_0:Int) (a0_1:Int):Option (Bool):=if a0_1 ≥ 1 then (if a0_1≤2147483648 then (if a0_0 ≥ (-4611686018427387904) then (if a0_0≤4611686018427387904 then ((surtitleref3_size.f a0_0).bind fun t121=>((surtitleref3_common.f k t121 (IntKind.u64.wrap (a0_1))).bind fun t122=>(some (t122 == 1)))) else (some false)) else (some false)) else (some false)) else (some false)
theorem surtitleref3_Right.mono:∀ a0 a1 k,LeO (surtitleref3_Right.f k a0 a1) (surtitleref3_Right.f (k+1) a0 a1):=by
 intro a0 a1 k
 unfold surtitleref3_Right.f
 repeat' first
   | (with_reducible exact surtitleref3_common.mono _ _ _)
   | (with_reducible exact LeO.refl _)
   | (with_reducible exact LeO.none _)
   | (with_reducible refine LeO.ite ?_ ?_)
   | (with_reducible refine LeO.bind ?_ (fun _=>?_))
   | exact surtitleref3_common.mono _ _ _
   | exact LeO.none _
   | refine LeO.ite ?_ ?_
   | refine LeO.bind ?_ (fun _=>?_)
theorem surtitleref3_Right.calls (k:Nat) (a0_0:Int) (a0_1:Int) (r:Bool) (w:World) (h:surtitleref3_Right.f k a0_0 a0_1=some r) :
  Calls Try.prog 61 #[.agg #[.int .i64 a0_0,.int .i64 a0_1]] w fun e w'=>e = .returned (.bool r)∧Below w.heap.size w w':=by
 have hu31:=Try.underlying31
 have HB:=Aside0.mk (Below.refl w.heap.size w)
 have H:(if a0_1 ≥ 1 then (if a0_1≤2147483648 then (if a0_0 ≥ (-4611686018427387904) then (if a0_0≤4611686018427387904 then ((surtitleref3_size.f a0_0).bind fun t121=>((surtitleref3_common.f k t121 (IntKind.u64.wrap (a0_1))).bind fun t122=>(some (t122 == 1)))) else (some false)) else (some false)) else (some false)) else (some false))=some r:=h
 clear h
 by_cases c2:a0_1 ≥ 1
 ·rw [if_pos c2] at H
  have c2b0:decide (1≤a0_1)=true:=decide_eq_true c2
  clear c2
  by_cases c3:a0_1≤2147483648
  ·rw [if_pos c3] at H
   have c3b0:decide (a0_1≤2147483648)=true:=decide_eq_true c3
   clear c3
   by_cases c4:a0_0 ≥ (-4611686018427387904)
   ·rw [if_pos c4] at H
    have c4b0:decide ((-4611686018427387904)≤a0_0)=true:=decide_eq_true c4
    clear c4
    by_cases c5:a0_0≤4611686018427387904
    ·rw [if_pos c5] at H
     have c5b0:decide (a0_0≤4611686018427387904)=true:=decide_eq_true c5
     clear c5
     replace H:=Option.bind_eq_some_iff.mp H
     obtain ⟨t121,A60,H⟩:=H
     replace H:((surtitleref3_common.f k t121 (IntKind.u64.wrap (a0_1))).bind fun t122=>(some (t122 == 1)))=some r:=H
     have A6:=Aside0.mk A60
     clear A60
     replace H:=Option.bind_eq_some_iff.mp H
     obtain ⟨t122,A70,H⟩:=H
     replace H:(some (t122 == 1))=some r:=H
     have A7:=Aside0.mk A70
     clear A70
     obtain rfl:=Option.some.inj H
     go_enter Try.func61,Try.ntmps61
     go_wp2_with (first|((with_reducible refine gate_dst (N:=1) rfl ?_);refine box_event ?hg (N:=1) ?hd (cs:=#[.int .i64 a0_0,.int .i64 a0_1]) (t:=31) ?hr ?_;(case hd=>rfl);(case hg=>rfl);(case hr=>first|(go_simp;done)|(go_simp;rfl));intro gb120 hg w8 hbox hb;have BK120:=Aside0.mk (hbox);have GW120:=ag hg HB;have GE120:=ag hg HB;replace HB:=hs hb HB;clear hb hbox hg;obtain ⟨hcz9_0,hcz9_1,hfz9_0,hfz9_1⟩:=k2 BK120.out)|(go_at_call 96;(with_reducible refine (surtitleref3_size.calls a0_0 t121 _ A6.out).mono ?_);rintro e w' ⟨rfl,⟨nd,rfl⟩⟩;(try first|exact ⟨rfl,_,World.drewN_drewN _ _ _⟩|exact ⟨rfl,_,Eq.trans (World.drewN_drewN _ _ _) (congrArg (World.drewN _) (Nat.add_assoc _ _ _))⟩))|(go_at_call 95;(with_reducible refine (surtitleref3_common.calls k t121 (IntKind.u64.wrap (a0_1)) t122 _ A7.out).mono ?_);rintro e w' ⟨rfl,⟨nd,rfl⟩⟩;(try first|exact ⟨rfl,_,World.drewN_drewN _ _ _⟩|exact ⟨rfl,_,Eq.trans (World.drewN_drewN _ _ _) (congrArg (World.drewN _) (Nat.add_assoc _ _ _))⟩)))
     repeat (go_quiet (first|((with_reducible refine gate_dst (N:=1) rfl ?_);refine box_event ?hg (N:=1) ?hd (cs:=#[.int .i64 a0_0,.int .i64 a0_1]) (t:=31) ?hr ?_;(case hd=>rfl);(case hg=>rfl);(case hr=>first|(go_simp;done)|(go_simp;rfl));intro gb120 hg w8 hbox hb;have BK120:=Aside0.mk (hbox);have GW120:=ag hg HB;have GE120:=ag hg HB;replace HB:=hs hb HB;clear hb hbox hg;obtain ⟨hcz9_0,hcz9_1,hfz9_0,hfz9_1⟩:=k2 BK120.out)|(go_at_call 96;(with_reducible refine (surtitleref3_size.calls a0_0 t121 _ A6.out).mono ?_);rintro e w' ⟨rfl,⟨nd,rfl⟩⟩;(try first|exact ⟨rfl,_,World.drewN_drewN _ _ _⟩|exact ⟨rfl,_,Eq.trans (World.drewN_drewN _ _ _) (congrArg (World.drewN _) (Nat.add_assoc _ _ _))⟩))|(go_at_call 95;(with_reducible refine (surtitleref3_common.calls k t121 (IntKind.u64.wrap (a0_1)) t122 _ A7.out).mono ?_);rintro e w' ⟨rfl,⟨nd,rfl⟩⟩;(try first|exact ⟨rfl,_,World.drewN_drewN _ _ _⟩|exact ⟨rfl,_,Eq.trans (World.drewN_drewN _ _ _) (congrArg (World.drewN _) (Nat.add_assoc _ _ _))⟩)));try go_wp2_with (first|((with_reducible refine gate_dst (N:=1) rfl ?_);refine box_event ?hg (N:=1) ?hd (cs:=#[.int .i64 a0_0,.int .i64 a0_1]) (t:=31) ?hr ?_;(case hd=>rfl);(case hg=>rfl);(case hr=>first|(go_simp;done)|(go_simp;rfl));intro gb120 hg w8 hbox hb;have BK120:=Aside0.mk (hbox);have GW120:=ag hg HB;have GE120:=ag hg HB;replace HB:=hs hb HB;clear hb hbox hg;obtain ⟨hcz9_0,hcz9_1,hfz9_0,hfz9_1⟩:=k2 BK120.out)|(go_at_call 96;(with_reducible refine (surtitleref3_size.calls a0_0 t121 _ A6.out).mono ?_);rintro e w' ⟨rfl,⟨nd,rfl⟩⟩;(try first|exact ⟨rfl,_,World.drewN_drewN _ _ _⟩|exact ⟨rfl,_,Eq.trans (World.drewN_drewN _ _ _) (congrArg (World.drewN _) (Nat.add_assoc _ _ _))⟩))|(go_at_call 95;(with_reducible refine (surtitleref3_common.calls k t121 (IntKind.u64.wrap (a0_1)) t122 _ A7.out).mono ?_);rintro e w' ⟨rfl,⟨nd,rfl⟩⟩;(try first|exact ⟨rfl,_,World.drewN_drewN _ _ _⟩|exact ⟨rfl,_,Eq.trans (World.drewN_drewN _ _ _) (congrArg (World.drewN _) (Nat.add_assoc _ _ _))⟩))))
     go_ret
     exact ⟨by first|rfl|(simp [errW_none,errW_some]<;>rfl)|(simp [*,errW_none,errW_some]<;>rfl),by repeat (first|(with_reducible first|exact HB.out|apply below_alloc|apply pw_below_drewN|apply below_drew1|refine below_set ?_ GE120.out)|exact HB.out)⟩
    ·rw [if_neg c5] at H
     have c5b0:decide (a0_0≤4611686018427387904)=false:=decide_eq_false c5
     clear c5
     obtain rfl:=Option.some.inj H
     go_enter Try.func61,Try.ntmps61
     go_wp2_with (first|((with_reducible refine gate_dst (N:=1) rfl ?_);refine box_event ?hg (N:=1) ?hd (cs:=#[.int .i64 a0_0,.int .i64 a0_1]) (t:=31) ?hr ?_;(case hd=>rfl);(case hg=>rfl);(case hr=>first|(go_simp;done)|(go_simp;rfl));intro gb120 hg w10 hbox hb;have BK120:=Aside0.mk (hbox);have GW120:=ag hg HB;have GE120:=ag hg HB;replace HB:=hs hb HB;clear hb hbox hg;obtain ⟨hcz11_0,hcz11_1,hfz11_0,hfz11_1⟩:=k2 BK120.out))
     repeat (go_quiet (first|((with_reducible refine gate_dst (N:=1) rfl ?_);refine box_event ?hg (N:=1) ?hd (cs:=#[.int .i64 a0_0,.int .i64 a0_1]) (t:=31) ?hr ?_;(case hd=>rfl);(case hg=>rfl);(case hr=>first|(go_simp;done)|(go_simp;rfl));intro gb120 hg w10 hbox hb;have BK120:=Aside0.mk (hbox);have GW120:=ag hg HB;have GE120:=ag hg HB;replace HB:=hs hb HB;clear hb hbox hg;obtain ⟨hcz11_0,hcz11_1,hfz11_0,hfz11_1⟩:=k2 BK120.out));try go_wp2_with (first|((with_reducible refine gate_dst (N:=1) rfl ?_);refine box_event ?hg (N:=1) ?hd (cs:=#[.int .i64 a0_0,.int .i64 a0_1]) (t:=31) ?hr ?_;(case hd=>rfl);(case hg=>rfl);(case hr=>first|(go_simp;done)|(go_simp;rfl));intro gb120 hg w10 hbox hb;have BK120:=Aside0.mk (hbox);have GW120:=ag hg HB;have GE120:=ag hg HB;replace HB:=hs hb HB;clear hb hbox hg;obtain ⟨hcz11_0,hcz11_1,hfz11_0,hfz11_1⟩:=k2 BK120.out)))
     go_ret
     exact ⟨by first|rfl|(simp [errW_none,errW_some]<;>rfl)|(simp [*,errW_none,errW_some]<;>rfl),by repeat (first|(with_reducible first|exact HB.out|apply below_alloc|apply pw_below_drewN|apply below_drew1|refine below_set ?_ GE120.out)|exact HB.out)⟩
   ·rw [if_neg c4] at H
    have c4b0:decide ((-4611686018427387904)≤a0_0)=false:=decide_eq_false c4
    clear c4
    obtain rfl:=Option.some.inj H
    go_enter Try.func61,Try.ntmps61
    go_wp2_with (first|((with_reducible refine gate_dst (N:=1) rfl ?_);refine box_event ?hg (N:=1) ?hd (cs:=#[.int .i64 a0_0,.int .i64 a0_1]) (t:=31) ?hr ?_;(case hd=>rfl);(case hg=>rfl);(case hr=>first|(go_simp;done)|(go_simp;rfl));intro gb120 hg w12 hbox hb;have BK120:=Aside0.mk (hbox);have GW120:=ag hg HB;have GE120:=ag hg HB;replace HB:=hs hb HB;clear hb hbox hg;obtain ⟨hcz13_0,hcz13_1,hfz13_0,hfz13_1⟩:=k2 BK120.out))
    repeat (go_quiet (first|((with_reducible refine gate_dst (N:=1) rfl ?_);refine box_event ?hg (N:=1) ?hd (cs:=#[.int .i64 a0_0,.int .i64 a0_1]) (t:=31) ?hr ?_;(case hd=>rfl);(case hg=>rfl);(case hr=>first|(go_simp;done)|(go_simp;rfl));intro gb120 hg w12 hbox hb;have BK120:=Aside0.mk (hbox);have GW120:=ag hg HB;have GE120:=ag hg HB;replace HB:=hs hb HB;clear hb hbox hg;obtain ⟨hcz13_0,hcz13_1,hfz13_0,hfz13_1⟩:=k2 BK120.out));try go_wp2_with (first|((with_reducible refine gate_dst (N:=1) rfl ?_);refine box_event ?hg (N:=1) ?hd (cs:=#[.int .i64 a0_0,.int .i64 a0_1]) (t:=31) ?hr ?_;(case hd=>rfl);(case hg=>rfl);(case hr=>first|(go_simp;done)|(go_simp;rfl));intro gb120 hg w12 hbox hb;have BK120:=Aside0.mk (hbox);have GW120:=ag hg HB;have GE120:=ag hg HB;replace HB:=hs hb HB;clear hb hbox hg;obtain ⟨hcz13_0,hcz13_1,hfz13_0,hfz13_1⟩:=k2 BK120.out)))
    go_ret
    exact ⟨by first|rfl|(simp [errW_none,errW_some]<;>rfl)|(simp [*,errW_none,errW_some]<;>rfl),by repeat (first|(with_reducible first|exact HB.out|apply below_alloc|apply pw_below_drewN|apply below_drew1|refine below_set ?_ GE120.out)|exact HB.out)⟩
  ·rw [if_neg c3] at H
   have c3b0:decide (a0_1≤2147483648)=false:=decide_eq_false c3
   clear c3
   obtain rfl:=Option.some.inj H
   go_enter Try.func61,Try.ntmps61
   go_wp2_with (first|((with_reducible refine gate_dst (N:=1) rfl ?_);refine box_event ?hg (N:=1) ?hd (cs:=#[.int .i64 a0_0,.int .i64 a0_1]) (t:=31) ?hr ?_;(case hd=>rfl);(case hg=>rfl);(case hr=>first|(go_simp;done)|(go_simp;rfl));intro gb120 hg w14 hbox hb;have BK120:=Aside0.mk (hbox);have GW120:=ag hg HB;have GE120:=ag hg HB;replace HB:=hs hb HB;clear hb hbox hg;obtain ⟨hcz15_0,hcz15_1,hfz15_0,hfz15_1⟩:=k2 BK120.out))
   repeat (go_quiet (first|((with_reducible refine gate_dst (N:=1) rfl ?_);refine box_event ?hg (N:=1) ?hd (cs:=#[.int .i64 a0_0,.int .i64 a0_1]) (t:=31) ?hr ?_;(case hd=>rfl);(case hg=>rfl);(case hr=>first|(go_simp;done)|(go_simp;rfl));intro gb120 hg w14 hbox hb;have BK120:=Aside0.mk (hbox);have GW120:=ag hg HB;have GE120:=ag hg HB;replace HB:=hs hb HB;clear hb hbox hg;obtain ⟨hcz15_0,hcz15_1,hfz15_0,hfz15_1⟩:=k2 BK120.out));try go_wp2_with (first|((with_reducible refine gate_dst (N:=1) rfl ?_);refine box_event ?hg (N:=1) ?hd (cs:=#[.int .i64 a0_0,.int .i64 a0_1]) (t:=31) ?hr ?_;(case hd=>rfl);(case hg=>rfl);(case hr=>first|(go_simp;done)|(go_simp;rfl));intro gb120 hg w14 hbox hb;have BK120:=Aside0.mk (hbox);have GW120:=ag hg HB;have GE120:=ag hg HB;replace HB:=hs hb HB;clear hb hbox hg;obtain ⟨hcz15_0,hcz15_1,hfz15_0,hfz15_1⟩:=k2 BK120.out)))
   go_ret
   exact ⟨by first|rfl|(simp [errW_none,errW_some]<;>rfl)|(simp [*,errW_none,errW_some]<;>rfl),by repeat (first|(with_reducible first|exact HB.out|apply below_alloc|apply pw_below_drewN|apply below_drew1|refine below_set ?_ GE120.out)|exact HB.out)⟩
 ·rw [if_neg c2] at H
  have c2b0:decide (1≤a0_1)=false:=decide_eq_false c2
  clear c2
  obtain rfl:=Option.some.inj H
  go_enter Try.func61,Try.ntmps61
  go_wp2_with (first|((with_reducible refine gate_dst (N:=1) rfl ?_);refine box_event ?hg (N:=1) ?hd (cs:=#[.int .i64 a0_0,.int .i64 a0_1]) (t:=31) ?hr ?_;(case hd=>rfl);(case hg=>rfl);(case hr=>first|(go_simp;done)|(go_simp;rfl));intro gb120 hg w16 hbox hb;have BK120:=Aside0.mk (hbox);have GW120:=ag hg HB;have GE120:=ag hg HB;replace HB:=hs hb HB;clear hb hbox hg;obtain ⟨hcz17_0,hcz17_1,hfz17_0,hfz17_1⟩:=k2 BK120.out))
  repeat (go_quiet (first|((with_reducible refine gate_dst (N:=1) rfl ?_);refine box_event ?hg (N:=1) ?hd (cs:=#[.int .i64 a0_0,.int .i64 a0_1]) (t:=31) ?hr ?_;(case hd=>rfl);(case hg=>rfl);(case hr=>first|(go_simp;done)|(go_simp;rfl));intro gb120 hg w16 hbox hb;have BK120:=Aside0.mk (hbox);have GW120:=ag hg HB;have GE120:=ag hg HB;replace HB:=hs hb HB;clear hb hbox hg;obtain ⟨hcz17_0,hcz17_1,hfz17_0,hfz17_1⟩:=k2 BK120.out));try go_wp2_with (first|((with_reducible refine gate_dst (N:=1) rfl ?_);refine box_event ?hg (N:=1) ?hd (cs:=#[.int .i64 a0_0,.int .i64 a0_1]) (t:=31) ?hr ?_;(case hd=>rfl);(case hg=>rfl);(case hr=>first|(go_simp;done)|(go_simp;rfl));intro gb120 hg w16 hbox hb;have BK120:=Aside0.mk (hbox);have GW120:=ag hg HB;have GE120:=ag hg HB;replace HB:=hs hb HB;clear hb hbox hg;obtain ⟨hcz17_0,hcz17_1,hfz17_0,hfz17_1⟩:=k2 BK120.out)))
  go_ret
  exact ⟨by first|rfl|(simp [errW_none,errW_some]<;>rfl)|(simp [*,errW_none,errW_some]<;>rfl),by repeat (first|(with_reducible first|exact HB.out|apply below_alloc|apply pw_below_drewN|apply below_drew1|refine below_set ?_ GE120.out)|exact HB.out)⟩

end Go.Proofs.Ythlpaglldhgmfaa.PR
