-- made by wip/pp2.py out of the translation, over contracts of my own
import Derived.Test.YthlpaglldhgmfaaProg
import Derived.Below
import Derived.Deep.Draws
import Derived.Deep.AppendLies
import Derived.Maps.AppendAt
import Derived.OwnWalk
import Derived.Laws.BytesArg
import Derived.Laws.MakeOwn
import Derived.Laws.OwnMore
import Derived.Deep.OwnRows
import Derived.Tactics
import Derived.Lib.ConvBytes
import Derived.Laws.Slices
import Derived.WalkKit
import Derived.KernelRfl
import Derived.RowKit3
import Derived.Deep.LoopGhost
import Derived.Deep.QuietTactic
import Derived.BigQuiet
import Derived.WideLaws
import Derived.Deep.DeepCutAuto
import Derived.Deep.CutBlock
import Derived.Deep.RegionHeld3
import Derived.Laws.Rows
import Derived.Lib.AppendStr
import Derived.ArgAppend
import Derived.Laws.IdiomCopy
import Derived.OrdersHeld
import Derived.Laws.BitsLemmas
import Derived.RowKit
import Derived.Test.YthlpaglldhgmfaaPRx1
import Derived.Test.YthlpaglldhgmfaaN1
import Derived.Test.YthlpaglldhgmfaaXW
set_option maxHeartbeats 8000000
set_option maxRecDepth 100000
namespace Go.Proofs.Ythlpaglldhgmfaa.PL
open Go.Proofs.Ythlpaglldhgmfaa.PA Go.Proofs.Ythlpaglldhgmfaa.PR
open Go.RowKit Go.Proofs.YthlpaglldhgmfaaW.PrintWords Go.Proofs.YthlpaglldhgmfaaW.PrintLast Go.Proofs.YthlpaglldhgmfaaW.PrintMore
set_option linter.unusedVariables false
set_option linter.unusedSimpArgs false



def errW:Option Int → Value
 | none=>.nilIface
 | some c=>.iface 0 (.int .i64 c)
theorem errW_none:errW none = .nilIface:=rfl
theorem errW_some (c:Int):errW (some c) = .iface 0 (.int .i64 c):=rfl

-- the values' own types
/-! #### struct type 126 -/
structure S126 where
 f0:Bool
 f1:Int
 f2:Int
def z126:S126:=⟨false,(0:Int),(0:Int)⟩
def k126:Kd S126:=Kd.iso (Kd.pair Kd.bool (Kd.pair (Kd.int .u64) (Kd.int .u64))) (fun x:S126=>(x.f0,x.f1,x.f2))
def rd_T126 (xs:List S126) (i:Int):S126:=xs.getD i.toNat z126

/-! ### surtitleref3_above: function 115: told elsewhere -/

/-! ### surtitleref3_Less: function 110 -/
def surtitleref3_Less.f (a0_0:Bool) (a0_1:Int) (a0_2:Int) (a1_0:Bool) (a1_1:Int) (a1_2:Int):Option (Bool):=if (a0_0 != a1_0)=true then (some a0_0) else (if a0_0=true then ((surtitleref3_above.f a0_0 a0_1 a0_2 a1_0 a1_1 a1_2).bind fun t103=>(some t103)) else ((surtitleref3_above.f a1_0 a1_1 a1_2 a0_0 a0_1 a0_2).bind fun t104=>(some t104)))
theorem surtitleref3_Less.calls (a0_0:Bool) (a0_1:Int) (a0_2:Int) (a1_0:Bool) (a1_1:Int) (a1_2:Int) (r:Bool) (w:World) (h:surtitleref3_Less.f a0_0 a0_1 a0_2 a1_0 a1_1 a1_2=some r) :
  Calls Try.prog 110 #[.agg #[.bool a0_0,.int .u64 a0_1,.int .u64 a0_2],.agg #[.bool a1_0,.int .u64 a1_1,.int .u64 a1_2]] w fun e w'=>e = .returned (.bool r)∧Below w.heap.size w w':=by
 have hu126:=Try.underlying126
 have HB:=Aside0.mk (Below.refl w.heap.size w)
 have H:(if (a0_0 != a1_0)=true then (some a0_0) else (if a0_0=true then ((surtitleref3_above.f a0_0 a0_1 a0_2 a1_0 a1_1 a1_2).bind fun t103=>(some t103)) else ((surtitleref3_above.f a1_0 a1_1 a1_2 a0_0 a0_1 a0_2).bind fun t104=>(some t104))))=some r:=h
 clear h
 by_cases c3:(a0_0 != a1_0)=true
 ·rw [if_pos c3] at H
  have c3b0:(a0_0 != a1_0)=true:=c3
  (try (have c3b1:decide (a0_0=a1_0)=false:=by simpa using c3))
  (try (have c3b2:(a0_0 == a1_0)=false:=by simpa using c3))
  (try (have c3b3:¬ (a0_0=a1_0):=by simpa using c3))
  clear c3
  obtain rfl:=Option.some.inj H
  go_enter Try.func110,Try.ntmps110
  go_wp2_with (first|((with_reducible refine gate_dst (N:=2) rfl ?_);refine box_event ?hg (N:=2) ?hd (cs:=#[.bool a0_0,.int .u64 a0_1,.int .u64 a0_2]) (t:=126) ?hr ?_;(case hd=>rfl);(case hg=>rfl);(case hr=>first|(go_simp;done)|(go_simp;rfl));intro gb101 hg w4 hbox hb;have BK101:=Aside0.mk (hbox);have GW101:=ag hg HB;have GE101:=ag hg HB;replace HB:=hs hb HB;clear hb hbox hg)|((with_reducible refine gate_dst (N:=3) rfl ?_);refine box_event ?hg (N:=3) ?hd (cs:=#[.bool a1_0,.int .u64 a1_1,.int .u64 a1_2]) (t:=126) ?hr ?_;(case hd=>rfl);(case hg=>rfl);(case hr=>first|(go_simp;done)|(go_simp;rfl));intro gb102 hg w5 hbox hb;have BK102:=Aside0.mk (hbox);have GW102:=ag hg HB;have GE102:=ag hg HB;have NB101_102:=na hg BK101;have NB102_101:=nb hg BK101;replace BK101:=ab hb BK101;replace HB:=hs hb HB;clear hb hbox hg;have hnb6:=NB101_102.out;have hnc6:=NB102_101.out;obtain ⟨hcz7_0,hcz7_1,hcz7_2,hfz7_0,hfz7_1,hfz7_2⟩:=k3 BK101.out;obtain ⟨hcz8_0,hcz8_1,hcz8_2,hfz8_0,hfz8_1,hfz8_2⟩:=k3 BK102.out))
  go_ret
  exact ⟨by first|rfl|(simp [errW_none,errW_some]<;>rfl)|(simp [*,errW_none,errW_some]<;>rfl),by repeat (first|(with_reducible first|exact HB.out|apply below_alloc|apply pw_below_drewN|apply below_drew1|refine below_set ?_ GE101.out|refine below_set ?_ GE102.out)|exact HB.out)⟩
 ·rw [if_neg c3] at H
  have c3b0:(a0_0 != a1_0)=false:=by simpa using c3
  (try (have c3b1:decide (a0_0=a1_0)=true:=by simpa using c3))
  (try (have c3b2:(a0_0 == a1_0)=true:=by simpa using c3))
  clear c3
  by_cases c9:a0_0=true
  ·subst c9
   have H1:((surtitleref3_above.f true a0_1 a0_2 a1_0 a1_1 a1_2).bind fun t103=>(some t103))=some r:=by rw [if_pos rfl] at H;exact H
   clear H
   have H:=H1
   clear H1
   replace H:=Option.bind_eq_some_iff.mp H
   obtain ⟨t103,A100,H⟩:=H
   replace H:(some t103)=some r:=H
   have A10:=Aside0.mk A100
   clear A100
   obtain rfl:=Option.some.inj H
   go_enter Try.func110,Try.ntmps110
   go_wp2_with (first|((with_reducible refine gate_dst (N:=2) rfl ?_);refine box_event ?hg (N:=2) ?hd (cs:=#[.bool true,.int .u64 a0_1,.int .u64 a0_2]) (t:=126) ?hr ?_;(case hd=>rfl);(case hg=>rfl);(case hr=>first|(go_simp;done)|(go_simp;rfl));intro gb101 hg w11 hbox hb;have BK101:=Aside0.mk (hbox);have GW101:=ag hg HB;have GE101:=ag hg HB;replace HB:=hs hb HB;clear hb hbox hg)|((with_reducible refine gate_dst (N:=3) rfl ?_);refine box_event ?hg (N:=3) ?hd (cs:=#[.bool a1_0,.int .u64 a1_1,.int .u64 a1_2]) (t:=126) ?hr ?_;(case hd=>rfl);(case hg=>rfl);(case hr=>first|(go_simp;done)|(go_simp;rfl));intro gb102 hg w12 hbox hb;have BK102:=Aside0.mk (hbox);have GW102:=ag hg HB;have GE102:=ag hg HB;have NB101_102:=na hg BK101;have NB102_101:=nb hg BK101;replace BK101:=ab hb BK101;replace HB:=hs hb HB;clear hb hbox hg;have hnb13:=NB101_102.out;have hnc13:=NB102_101.out;obtain ⟨hcz14_0,hcz14_1,hcz14_2,hfz14_0,hfz14_1,hfz14_2⟩:=k3 BK101.out;obtain ⟨hcz15_0,hcz15_1,hcz15_2,hfz15_0,hfz15_1,hfz15_2⟩:=k3 BK102.out)|((with_reducible refine gate_callee (f:=115) rfl ?_);refine goesL_ (some 16) rfl rfl Try.func115 (by kernel_rfl) rfl #[.agg #[.bool true,.int .u64 a0_1,.int .u64 a0_2],.agg #[.bool a1_0,.int .u64 a1_1,.int .u64 a1_2]] rfl (by (try simp only [List.map_toArray,List.map_cons,List.map_nil]);first|done|rfl|(simp only [List.length_drop,List.length_take];rfl)) ?_;(with_reducible refine (surtitleref3_above.calls true a0_1 a0_2 a1_0 a1_1 a1_2 t103 _ A10.out).mono ?_);rintro e w16 ⟨rfl,hb⟩;refine ⟨_,rfl,?_⟩;replace BK101:=ab hb BK101;replace BK102:=ab hb BK102;replace HB:=hs hb HB;(try clear hb);(try clear hb2);(try clear hk);(try clear hi)))
   go_ret
   exact ⟨by first|rfl|(simp [errW_none,errW_some]<;>rfl)|(simp [*,errW_none,errW_some]<;>rfl),by repeat (first|(with_reducible first|exact HB.out|apply below_alloc|apply pw_below_drewN|apply below_drew1|refine below_set ?_ GE101.out|refine below_set ?_ GE102.out)|exact HB.out)⟩
  ·replace c9:=Bool.eq_false_iff.mpr c9
   subst c9
   have H1:((surtitleref3_above.f a1_0 a1_1 a1_2 false a0_1 a0_2).bind fun t104=>(some t104))=some r:=by rw [if_neg (show ¬ (false=true) by decide)] at H;exact H
   clear H
   have H:=H1
   clear H1
   replace H:=Option.bind_eq_some_iff.mp H
   obtain ⟨t104,A170,H⟩:=H
   replace H:(some t104)=some r:=H
   have A17:=Aside0.mk A170
   clear A170
   obtain rfl:=Option.some.inj H
   go_enter Try.func110,Try.ntmps110
   go_wp2_with (first|((with_reducible refine gate_dst (N:=2) rfl ?_);refine box_event ?hg (N:=2) ?hd (cs:=#[.bool false,.int .u64 a0_1,.int .u64 a0_2]) (t:=126) ?hr ?_;(case hd=>rfl);(case hg=>rfl);(case hr=>first|(go_simp;done)|(go_simp;rfl));intro gb101 hg w18 hbox hb;have BK101:=Aside0.mk (hbox);have GW101:=ag hg HB;have GE101:=ag hg HB;replace HB:=hs hb HB;clear hb hbox hg)|((with_reducible refine gate_dst (N:=3) rfl ?_);refine box_event ?hg (N:=3) ?hd (cs:=#[.bool a1_0,.int .u64 a1_1,.int .u64 a1_2]) (t:=126) ?hr ?_;(case hd=>rfl);(case hg=>rfl);(case hr=>first|(go_simp;done)|(go_simp;rfl));intro gb102 hg w19 hbox hb;have BK102:=Aside0.mk (hbox);have GW102:=ag hg HB;have GE102:=ag hg HB;have NB101_102:=na hg BK101;have NB102_101:=nb hg BK101;replace BK101:=ab hb BK101;replace HB:=hs hb HB;clear hb hbox hg;have hnb20:=NB101_102.out;have hnc20:=NB102_101.out;obtain ⟨hcz21_0,hcz21_1,hcz21_2,hfz21_0,hfz21_1,hfz21_2⟩:=k3 BK101.out;obtain ⟨hcz22_0,hcz22_1,hcz22_2,hfz22_0,hfz22_1,hfz22_2⟩:=k3 BK102.out)|((with_reducible refine gate_callee (f:=115) rfl ?_);refine goesL_ (some 19) rfl rfl Try.func115 (by kernel_rfl) rfl #[.agg #[.bool a1_0,.int .u64 a1_1,.int .u64 a1_2],.agg #[.bool false,.int .u64 a0_1,.int .u64 a0_2]] rfl (by (try simp only [List.map_toArray,List.map_cons,List.map_nil]);first|done|rfl|(simp only [List.length_drop,List.length_take];rfl)) ?_;(with_reducible refine (surtitleref3_above.calls a1_0 a1_1 a1_2 false a0_1 a0_2 t104 _ A17.out).mono ?_);rintro e w23 ⟨rfl,hb⟩;refine ⟨_,rfl,?_⟩;replace BK101:=ab hb BK101;replace BK102:=ab hb BK102;replace HB:=hs hb HB;(try clear hb);(try clear hb2);(try clear hk);(try clear hi)))
   go_ret
   exact ⟨by first|rfl|(simp [errW_none,errW_some]<;>rfl)|(simp [*,errW_none,errW_some]<;>rfl),by repeat (first|(with_reducible first|exact HB.out|apply below_alloc|apply pw_below_drewN|apply below_drew1|refine below_set ?_ GE101.out|refine below_set ?_ GE102.out)|exact HB.out)⟩

/-! ### surtitleref3_Times: function 94: told elsewhere -/

/-! ### surtitleref3_Cmp: function 89 -/
def surtitleref3_Cmp.f (a0_0:Int) (a0_1:Int) (a1_0:Int) (a1_1:Int):Option (Int):=(surtitleref3_Times.f a0_0 a1_1).bind fun bt107=>((surtitleref3_Times.f a1_0 a0_1).bind fun bt111=>((surtitleref3_Less.f bt107.1 bt107.2.1 bt107.2.2 bt111.1 bt111.2.1 bt111.2.2).bind fun t115=>(if t115=true then (some (-1)) else ((surtitleref3_Less.f bt111.1 bt111.2.1 bt111.2.2 bt107.1 bt107.2.1 bt107.2.2).bind fun t116=>(if t116=true then (some 1) else (some 0))))))
theorem surtitleref3_Cmp.calls (a0_0:Int) (a0_1:Int) (a1_0:Int) (a1_1:Int) (r:Int) (w:World) (h:surtitleref3_Cmp.f a0_0 a0_1 a1_0 a1_1=some r) :
  Calls Try.prog 89 #[.agg #[.int .i64 a0_0,.int .i64 a0_1],.agg #[.int .i64 a1_0,.int .i64 a1_1]] w fun e w'=>e = .returned (.int .i64 r)∧Below w.heap.size w w':=by
 have hu31:=Try.underlying31
 have hu126:=Try.underlying126
 have HB:=Aside0.mk (Below.refl w.heap.size w)
 have H:((surtitleref3_Times.f a0_0 a1_1).bind fun bt107=>((surtitleref3_Times.f a1_0 a0_1).bind fun bt111=>((surtitleref3_Less.f bt107.1 bt107.2.1 bt107.2.2 bt111.1 bt111.2.1 bt111.2.2).bind fun t115=>(if t115=true then (some (-1)) else ((surtitleref3_Less.f bt111.1 bt111.2.1 bt111.2.2 bt107.1 bt107.2.1 bt107.2.2).bind fun t116=>(if t116=true then (some 1) else (some 0)))))))=some r:=h
 clear h
 replace H:=Option.bind_eq_some_iff.mp H
 obtain ⟨⟨t107,t108,t109⟩,A30,H⟩:=H
 replace H:((surtitleref3_Times.f a1_0 a0_1).bind fun bt111=>((surtitleref3_Less.f t107 t108 t109 bt111.1 bt111.2.1 bt111.2.2).bind fun t115=>(if t115=true then (some (-1)) else ((surtitleref3_Less.f bt111.1 bt111.2.1 bt111.2.2 t107 t108 t109).bind fun t116=>(if t116=true then (some 1) else (some 0))))))=some r:=H
 have A3:=Aside0.mk A30
 clear A30
 replace H:=Option.bind_eq_some_iff.mp H
 obtain ⟨⟨t111,t112,t113⟩,A40,H⟩:=H
 replace H:((surtitleref3_Less.f t107 t108 t109 t111 t112 t113).bind fun t115=>(if t115=true then (some (-1)) else ((surtitleref3_Less.f t111 t112 t113 t107 t108 t109).bind fun t116=>(if t116=true then (some 1) else (some 0)))))=some r:=H
 have A4:=Aside0.mk A40
 clear A40
 replace H:=Option.bind_eq_some_iff.mp H
 obtain ⟨t115,A50,H⟩:=H
 replace H:(if t115=true then (some (-1)) else ((surtitleref3_Less.f t111 t112 t113 t107 t108 t109).bind fun t116=>(if t116=true then (some 1) else (some 0))))=some r:=H
 have A5:=Aside0.mk A50
 clear A50
 by_cases c6:t115=true
 ·subst c6
  have H1:(some (-1))=some r:=by rw [if_pos rfl] at H;exact H
  clear H
  have H:=H1
  clear H1
  obtain rfl:=Option.some.inj H
  go_enter Try.func89,Try.ntmps89
  go_wp2_with (first|((with_reducible refine gate_dst (N:=2) rfl ?_);refine box_event ?hg (N:=2) ?hd (cs:=#[.int .i64 a0_0,.int .i64 a0_1]) (t:=31) ?hr ?_;(case hd=>rfl);(case hg=>rfl);(case hr=>first|(go_simp;done)|(go_simp;rfl));intro gb105 hg w7 hbox hb;have BK105:=Aside0.mk (hbox);have GW105:=ag hg HB;have GE105:=ag hg HB;replace HB:=hs hb HB;clear hb hbox hg)|((with_reducible refine gate_dst (N:=3) rfl ?_);refine box_event ?hg (N:=3) ?hd (cs:=#[.int .i64 a1_0,.int .i64 a1_1]) (t:=31) ?hr ?_;(case hd=>rfl);(case hg=>rfl);(case hr=>first|(go_simp;done)|(go_simp;rfl));intro gb106 hg w8 hbox hb;have BK106:=Aside0.mk (hbox);have GW106:=ag hg HB;have GE106:=ag hg HB;have NB105_106:=na hg BK105;have NB106_105:=nb hg BK105;replace BK105:=ab hb BK105;replace HB:=hs hb HB;clear hb hbox hg;have hnb9:=NB105_106.out;have hnc9:=NB106_105.out;obtain ⟨hcz10_0,hcz10_1,hfz10_0,hfz10_1⟩:=k2 BK105.out;obtain ⟨hcz11_0,hcz11_1,hfz11_0,hfz11_1⟩:=k2 BK106.out)|((with_reducible refine gate_callee (f:=94) rfl ?_);refine goesL_ (some 11) rfl rfl Try.func94 (by kernel_rfl) rfl #[.int .i64 a0_0,.int .i64 a1_1] rfl (by (try simp only [List.map_toArray,List.map_cons,List.map_nil]);first|done|rfl|(simp only [List.length_drop,List.length_take];rfl)) ?_;(with_reducible refine (surtitleref3_Times.calls a0_0 a1_1 t107 t108 t109 _ A3.out).mono ?_);rintro e w12 ⟨rfl,hb⟩;refine ⟨_,rfl,?_⟩;replace BK105:=ab hb BK105;replace BK106:=ab hb BK106;replace HB:=hs hb HB;(try clear hb);(try clear hb2);(try clear hk);(try clear hi))|((with_reducible refine gate_dst (N:=5) rfl ?_);refine box_event ?hg (N:=5) ?hd (cs:=#[.bool false,.int .u64 0,.int .u64 0]) (t:=126) ?hr ?_;(case hd=>rfl);(case hg=>rfl);(case hr=>first|(go_simp;done)|(go_simp;rfl));intro gb110 hg w13 hbox hb;have BK110:=Aside0.mk (hbox);have GW110:=ag hg HB;have GE110:=ag hg HB;have NB105_110:=na hg BK105;have NB110_105:=nb hg BK105;have NB106_110:=na hg BK106;have NB110_106:=nb hg BK106;replace BK105:=ab hb BK105;replace BK106:=ab hb BK106;replace HB:=hs hb HB;clear hb hbox hg;have hnb14:=NB110_105.out;have hnc14:=NB105_110.out;have hnb15:=NB110_106.out;have hnc15:=NB106_110.out;obtain ⟨hcz16_0,hcz16_1,hcz16_2,hfz16_0,hfz16_1,hfz16_2⟩:=k3 BK110.out;obtain ⟨hcz17_0,hcz17_1,hfz17_0,hfz17_1⟩:=k2 BK106.out;obtain ⟨hcz18_0,hcz18_1,hfz18_0,hfz18_1⟩:=k2 BK105.out)|((with_reducible refine gate_callee (f:=94) rfl ?_);refine goesL_ (some 16) rfl rfl Try.func94 (by kernel_rfl) rfl #[.int .i64 a1_0,.int .i64 a0_1] rfl (by (try simp only [List.map_toArray,List.map_cons,List.map_nil]);first|done|rfl|(simp only [List.length_drop,List.length_take];rfl)) ?_;(with_reducible refine (surtitleref3_Times.calls a1_0 a0_1 t111 t112 t113 _ A4.out).mono ?_);rintro e w19 ⟨rfl,hb⟩;refine ⟨_,rfl,?_⟩;have n0_:=ab hb BK105;have n1_:=ab hb BK106;have n2_:=Aside0.mk (blk_below (g:=gb110) (o:=.cells #[.bool t107,.int .u64 t108,.int .u64 t109] 126 (0,0)) (by refine bk ?_;refine blk_put (cs:=#[.bool t107,.int .u64 t108,.int .u64 0]) ?_ 2 _ rfl;refine bk ?_;refine blk_put (cs:=#[.bool t107,.int .u64 0,.int .u64 0]) ?_ 1 _ rfl;refine bk ?_;refine blk_put (cs:=#[.bool false,.int .u64 0,.int .u64 0]) ?_ 0 _ rfl;refine bk ?_;exact BK110.out) hb);have n3_:=hs hb HB;clear BK105;clear BK106;clear BK110;clear HB;have BK105:=n0_;have BK106:=n1_;have BK110:=n2_;have HB:=n3_;clear n0_ n1_ n2_ n3_;(try clear hb);(try clear hb2);(try clear hk);(try clear hi))|((with_reducible refine gate_dst (N:=6) rfl ?_);refine box_event ?hg (N:=6) ?hd (cs:=#[.bool false,.int .u64 0,.int .u64 0]) (t:=126) ?hr ?_;(case hd=>rfl);(case hg=>rfl);(case hr=>first|(go_simp;done)|(go_simp;rfl));intro gb114 hg w20 hbox hb;have BK114:=Aside0.mk (hbox);have GW114:=ag hg HB;have GE114:=ag hg HB;have NB105_114:=na hg BK105;have NB114_105:=nb hg BK105;have NB106_114:=na hg BK106;have NB114_106:=nb hg BK106;have NB110_114:=na hg BK110;have NB114_110:=nb hg BK110;replace BK105:=ab hb BK105;replace BK106:=ab hb BK106;replace BK110:=ab hb BK110;replace HB:=hs hb HB;clear hb hbox hg;have hnb21:=NB114_105.out;have hnc21:=NB105_114.out;have hnb22:=NB114_106.out;have hnc22:=NB106_114.out;have hnb23:=NB114_110.out;have hnc23:=NB110_114.out;obtain ⟨hcz24_0,hcz24_1,hcz24_2,hfz24_0,hfz24_1,hfz24_2⟩:=k3 BK114.out;obtain ⟨hcz25_0,hcz25_1,hcz25_2,hfz25_0,hfz25_1,hfz25_2⟩:=k3 BK110.out)|((with_reducible refine gate_callee (f:=110) rfl ?_);refine goesL_ (some 19) rfl rfl Try.func110 (by kernel_rfl) rfl #[.agg #[.bool t107,.int .u64 t108,.int .u64 t109],.agg #[.bool t111,.int .u64 t112,.int .u64 t113]] rfl (by (try simp only [List.map_toArray,List.map_cons,List.map_nil]);first|done|rfl|(simp only [List.length_drop,List.length_take];rfl)) ?_;(with_reducible refine (surtitleref3_Less.calls t107 t108 t109 t111 t112 t113 true _ A5.out).mono ?_);rintro e w26 ⟨rfl,hb⟩;refine ⟨_,rfl,?_⟩;have n0_:=ab hb BK105;have n1_:=ab hb BK106;have n2_:=ab hb BK110;have n3_:=Aside0.mk (blk_below (g:=gb114) (o:=.cells #[.bool t111,.int .u64 t112,.int .u64 t113] 126 (0,0)) (by refine bk ?_;refine blk_put (cs:=#[.bool t111,.int .u64 t112,.int .u64 0]) ?_ 2 _ rfl;refine bk ?_;refine blk_put (cs:=#[.bool t111,.int .u64 0,.int .u64 0]) ?_ 1 _ rfl;refine bk ?_;refine blk_put (cs:=#[.bool false,.int .u64 0,.int .u64 0]) ?_ 0 _ rfl;refine bk ?_;exact BK114.out) hb);have n4_:=hs hb HB;clear BK105;clear BK106;clear BK110;clear BK114;clear HB;have BK105:=n0_;have BK106:=n1_;have BK110:=n2_;have BK114:=n3_;have HB:=n4_;clear n0_ n1_ n2_ n3_ n4_;(try clear hb);(try clear hb2);(try clear hk);(try clear hi)))
  go_ret
  exact ⟨by first|rfl|(simp [errW_none,errW_some]<;>rfl)|(simp [*,errW_none,errW_some]<;>rfl),by repeat (first|(with_reducible first|exact HB.out|apply below_alloc|apply pw_below_drewN|apply below_drew1|refine below_set ?_ GE105.out|refine below_set ?_ GE106.out|refine below_set ?_ GE110.out|refine below_set ?_ GE114.out)|exact HB.out)⟩
 ·replace c6:=Bool.eq_false_iff.mpr c6
  subst c6
  have H1:((surtitleref3_Less.f t111 t112 t113 t107 t108 t109).bind fun t116=>(if t116=true then (some 1) else (some 0)))=some r:=by rw [if_neg (show ¬ (false=true) by decide)] at H;exact H
  clear H
  have H:=H1
  clear H1
  replace H:=Option.bind_eq_some_iff.mp H
  obtain ⟨t116,A270,H⟩:=H
  replace H:(if t116=true then (some 1) else (some 0))=some r:=H
  have A27:=Aside0.mk A270
  clear A270
  by_cases c28:t116=true
  ·subst c28
   have H1:(some 1)=some r:=by rw [if_pos rfl] at H;exact H
   clear H
   have H:=H1
   clear H1
   obtain rfl:=Option.some.inj H
   go_enter Try.func89,Try.ntmps89
   go_wp2_with (first|((with_reducible refine gate_dst (N:=2) rfl ?_);refine box_event ?hg (N:=2) ?hd (cs:=#[.int .i64 a0_0,.int .i64 a0_1]) (t:=31) ?hr ?_;(case hd=>rfl);(case hg=>rfl);(case hr=>first|(go_simp;done)|(go_simp;rfl));intro gb105 hg w29 hbox hb;have BK105:=Aside0.mk (hbox);have GW105:=ag hg HB;have GE105:=ag hg HB;replace HB:=hs hb HB;clear hb hbox hg)|((with_reducible refine gate_dst (N:=3) rfl ?_);refine box_event ?hg (N:=3) ?hd (cs:=#[.int .i64 a1_0,.int .i64 a1_1]) (t:=31) ?hr ?_;(case hd=>rfl);(case hg=>rfl);(case hr=>first|(go_simp;done)|(go_simp;rfl));intro gb106 hg w30 hbox hb;have BK106:=Aside0.mk (hbox);have GW106:=ag hg HB;have GE106:=ag hg HB;have NB105_106:=na hg BK105;have NB106_105:=nb hg BK105;replace BK105:=ab hb BK105;replace HB:=hs hb HB;clear hb hbox hg;have hnb31:=NB105_106.out;have hnc31:=NB106_105.out;obtain ⟨hcz32_0,hcz32_1,hfz32_0,hfz32_1⟩:=k2 BK105.out;obtain ⟨hcz33_0,hcz33_1,hfz33_0,hfz33_1⟩:=k2 BK106.out)|((with_reducible refine gate_callee (f:=94) rfl ?_);refine goesL_ (some 11) rfl rfl Try.func94 (by kernel_rfl) rfl #[.int .i64 a0_0,.int .i64 a1_1] rfl (by (try simp only [List.map_toArray,List.map_cons,List.map_nil]);first|done|rfl|(simp only [List.length_drop,List.length_take];rfl)) ?_;(with_reducible refine (surtitleref3_Times.calls a0_0 a1_1 t107 t108 t109 _ A3.out).mono ?_);rintro e w34 ⟨rfl,hb⟩;refine ⟨_,rfl,?_⟩;replace BK105:=ab hb BK105;replace BK106:=ab hb BK106;replace HB:=hs hb HB;(try clear hb);(try clear hb2);(try clear hk);(try clear hi))|((with_reducible refine gate_dst (N:=5) rfl ?_);refine box_event ?hg (N:=5) ?hd (cs:=#[.bool false,.int .u64 0,.int .u64 0]) (t:=126) ?hr ?_;(case hd=>rfl);(case hg=>rfl);(case hr=>first|(go_simp;done)|(go_simp;rfl));intro gb110 hg w35 hbox hb;have BK110:=Aside0.mk (hbox);have GW110:=ag hg HB;have GE110:=ag hg HB;have NB105_110:=na hg BK105;have NB110_105:=nb hg BK105;have NB106_110:=na hg BK106;have NB110_106:=nb hg BK106;replace BK105:=ab hb BK105;replace BK106:=ab hb BK106;replace HB:=hs hb HB;clear hb hbox hg;have hnb36:=NB110_105.out;have hnc36:=NB105_110.out;have hnb37:=NB110_106.out;have hnc37:=NB106_110.out;obtain ⟨hcz38_0,hcz38_1,hcz38_2,hfz38_0,hfz38_1,hfz38_2⟩:=k3 BK110.out;obtain ⟨hcz39_0,hcz39_1,hfz39_0,hfz39_1⟩:=k2 BK106.out;obtain ⟨hcz40_0,hcz40_1,hfz40_0,hfz40_1⟩:=k2 BK105.out)|((with_reducible refine gate_callee (f:=94) rfl ?_);refine goesL_ (some 16) rfl rfl Try.func94 (by kernel_rfl) rfl #[.int .i64 a1_0,.int .i64 a0_1] rfl (by (try simp only [List.map_toArray,List.map_cons,List.map_nil]);first|done|rfl|(simp only [List.length_drop,List.length_take];rfl)) ?_;(with_reducible refine (surtitleref3_Times.calls a1_0 a0_1 t111 t112 t113 _ A4.out).mono ?_);rintro e w41 ⟨rfl,hb⟩;refine ⟨_,rfl,?_⟩;have n0_:=ab hb BK105;have n1_:=ab hb BK106;have n2_:=Aside0.mk (blk_below (g:=gb110) (o:=.cells #[.bool t107,.int .u64 t108,.int .u64 t109] 126 (0,0)) (by refine bk ?_;refine blk_put (cs:=#[.bool t107,.int .u64 t108,.int .u64 0]) ?_ 2 _ rfl;refine bk ?_;refine blk_put (cs:=#[.bool t107,.int .u64 0,.int .u64 0]) ?_ 1 _ rfl;refine bk ?_;refine blk_put (cs:=#[.bool false,.int .u64 0,.int .u64 0]) ?_ 0 _ rfl;refine bk ?_;exact BK110.out) hb);have n3_:=hs hb HB;clear BK105;clear BK106;clear BK110;clear HB;have BK105:=n0_;have BK106:=n1_;have BK110:=n2_;have HB:=n3_;clear n0_ n1_ n2_ n3_;(try clear hb);(try clear hb2);(try clear hk);(try clear hi))|((with_reducible refine gate_dst (N:=6) rfl ?_);refine box_event ?hg (N:=6) ?hd (cs:=#[.bool false,.int .u64 0,.int .u64 0]) (t:=126) ?hr ?_;(case hd=>rfl);(case hg=>rfl);(case hr=>first|(go_simp;done)|(go_simp;rfl));intro gb114 hg w42 hbox hb;have BK114:=Aside0.mk (hbox);have GW114:=ag hg HB;have GE114:=ag hg HB;have NB105_114:=na hg BK105;have NB114_105:=nb hg BK105;have NB106_114:=na hg BK106;have NB114_106:=nb hg BK106;have NB110_114:=na hg BK110;have NB114_110:=nb hg BK110;replace BK105:=ab hb BK105;replace BK106:=ab hb BK106;replace BK110:=ab hb BK110;replace HB:=hs hb HB;clear hb hbox hg;have hnb43:=NB114_105.out;have hnc43:=NB105_114.out;have hnb44:=NB114_106.out;have hnc44:=NB106_114.out;have hnb45:=NB114_110.out;have hnc45:=NB110_114.out;obtain ⟨hcz46_0,hcz46_1,hcz46_2,hfz46_0,hfz46_1,hfz46_2⟩:=k3 BK114.out;obtain ⟨hcz47_0,hcz47_1,hcz47_2,hfz47_0,hfz47_1,hfz47_2⟩:=k3 BK110.out)|((with_reducible refine gate_callee (f:=110) rfl ?_);refine goesL_ (some 19) rfl rfl Try.func110 (by kernel_rfl) rfl #[.agg #[.bool t107,.int .u64 t108,.int .u64 t109],.agg #[.bool t111,.int .u64 t112,.int .u64 t113]] rfl (by (try simp only [List.map_toArray,List.map_cons,List.map_nil]);first|done|rfl|(simp only [List.length_drop,List.length_take];rfl)) ?_;(with_reducible refine (surtitleref3_Less.calls t107 t108 t109 t111 t112 t113 false _ A5.out).mono ?_);rintro e w48 ⟨rfl,hb⟩;refine ⟨_,rfl,?_⟩;have n0_:=ab hb BK105;have n1_:=ab hb BK106;have n2_:=ab hb BK110;have n3_:=Aside0.mk (blk_below (g:=gb114) (o:=.cells #[.bool t111,.int .u64 t112,.int .u64 t113] 126 (0,0)) (by refine bk ?_;refine blk_put (cs:=#[.bool t111,.int .u64 t112,.int .u64 0]) ?_ 2 _ rfl;refine bk ?_;refine blk_put (cs:=#[.bool t111,.int .u64 0,.int .u64 0]) ?_ 1 _ rfl;refine bk ?_;refine blk_put (cs:=#[.bool false,.int .u64 0,.int .u64 0]) ?_ 0 _ rfl;refine bk ?_;exact BK114.out) hb);have n4_:=hs hb HB;clear BK105;clear BK106;clear BK110;clear BK114;clear HB;have BK105:=n0_;have BK106:=n1_;have BK110:=n2_;have BK114:=n3_;have HB:=n4_;clear n0_ n1_ n2_ n3_ n4_;(try clear hb);(try clear hb2);(try clear hk);(try clear hi);obtain ⟨hcz49_0,hcz49_1,hcz49_2,hfz49_0,hfz49_1,hfz49_2⟩:=k3 BK114.out;obtain ⟨hcz50_0,hcz50_1,hcz50_2,hfz50_0,hfz50_1,hfz50_2⟩:=k3 BK110.out)|((with_reducible refine gate_callee (f:=110) rfl ?_);refine goesL_ (some 22) rfl rfl Try.func110 (by kernel_rfl) rfl #[.agg #[.bool t111,.int .u64 t112,.int .u64 t113],.agg #[.bool t107,.int .u64 t108,.int .u64 t109]] rfl (by (try simp only [List.map_toArray,List.map_cons,List.map_nil]);first|done|rfl|(simp only [List.length_drop,List.length_take];rfl)) ?_;(with_reducible refine (surtitleref3_Less.calls t111 t112 t113 t107 t108 t109 true _ A27.out).mono ?_);rintro e w51 ⟨rfl,hb⟩;refine ⟨_,rfl,?_⟩;replace BK105:=ab hb BK105;replace BK106:=ab hb BK106;replace BK110:=ab hb BK110;replace BK114:=ab hb BK114;replace HB:=hs hb HB;(try clear hb);(try clear hb2);(try clear hk);(try clear hi)))
   go_ret
   exact ⟨by first|rfl|(simp [errW_none,errW_some]<;>rfl)|(simp [*,errW_none,errW_some]<;>rfl),by repeat (first|(with_reducible first|exact HB.out|apply below_alloc|apply pw_below_drewN|apply below_drew1|refine below_set ?_ GE105.out|refine below_set ?_ GE106.out|refine below_set ?_ GE110.out|refine below_set ?_ GE114.out)|exact HB.out)⟩
  ·replace c28:=Bool.eq_false_iff.mpr c28
   subst c28
   have H1:(some 0)=some r:=by rw [if_neg (show ¬ (false=true) by decide)] at H;exact H
   clear H
   have H:=H1
   clear H1
   obtain rfl:=Option.some.inj H
   go_enter Try.func89,Try.ntmps89
   go_wp2_with (first|((with_reducible refine gate_dst (N:=2) rfl ?_);refine box_event ?hg (N:=2) ?hd (cs:=#[.int .i64 a0_0,.int .i64 a0_1]) (t:=31) ?hr ?_;(case hd=>rfl);(case hg=>rfl);(case hr=>first|(go_simp;done)|(go_simp;rfl));intro gb105 hg w52 hbox hb;have BK105:=Aside0.mk (hbox);have GW105:=ag hg HB;have GE105:=ag hg HB;replace HB:=hs hb HB;clear hb hbox hg)|((with_reducible refine gate_dst (N:=3) rfl ?_);refine box_event ?hg (N:=3) ?hd (cs:=#[.int .i64 a1_0,.int .i64 a1_1]) (t:=31) ?hr ?_;(case hd=>rfl);(case hg=>rfl);(case hr=>first|(go_simp;done)|(go_simp;rfl));intro gb106 hg w53 hbox hb;have BK106:=Aside0.mk (hbox);have GW106:=ag hg HB;have GE106:=ag hg HB;have NB105_106:=na hg BK105;have NB106_105:=nb hg BK105;replace BK105:=ab hb BK105;replace HB:=hs hb HB;clear hb hbox hg;have hnb54:=NB105_106.out;have hnc54:=NB106_105.out;obtain ⟨hcz55_0,hcz55_1,hfz55_0,hfz55_1⟩:=k2 BK105.out;obtain ⟨hcz56_0,hcz56_1,hfz56_0,hfz56_1⟩:=k2 BK106.out)|((with_reducible refine gate_callee (f:=94) rfl ?_);refine goesL_ (some 11) rfl rfl Try.func94 (by kernel_rfl) rfl #[.int .i64 a0_0,.int .i64 a1_1] rfl (by (try simp only [List.map_toArray,List.map_cons,List.map_nil]);first|done|rfl|(simp only [List.length_drop,List.length_take];rfl)) ?_;(with_reducible refine (surtitleref3_Times.calls a0_0 a1_1 t107 t108 t109 _ A3.out).mono ?_);rintro e w57 ⟨rfl,hb⟩;refine ⟨_,rfl,?_⟩;replace BK105:=ab hb BK105;replace BK106:=ab hb BK106;replace HB:=hs hb HB;(try clear hb);(try clear hb2);(try clear hk);(try clear hi))|((with_reducible refine gate_dst (N:=5) rfl ?_);refine box_event ?hg (N:=5) ?hd (cs:=#[.bool false,.int .u64 0,.int .u64 0]) (t:=126) ?hr ?_;(case hd=>rfl);(case hg=>rfl);(case hr=>first|(go_simp;done)|(go_simp;rfl));intro gb110 hg w58 hbox hb;have BK110:=Aside0.mk (hbox);have GW110:=ag hg HB;have GE110:=ag hg HB;have NB105_110:=na hg BK105;have NB110_105:=nb hg BK105;have NB106_110:=na hg BK106;have NB110_106:=nb hg BK106;replace BK105:=ab hb BK105;replace BK106:=ab hb BK106;replace HB:=hs hb HB;clear hb hbox hg;have hnb59:=NB110_105.out;have hnc59:=NB105_110.out;have hnb60:=NB110_106.out;have hnc60:=NB106_110.out;obtain ⟨hcz61_0,hcz61_1,hcz61_2,hfz61_0,hfz61_1,hfz61_2⟩:=k3 BK110.out;obtain ⟨hcz62_0,hcz62_1,hfz62_0,hfz62_1⟩:=k2 BK106.out;obtain ⟨hcz63_0,hcz63_1,hfz63_0,hfz63_1⟩:=k2 BK105.out)|((with_reducible refine gate_callee (f:=94) rfl ?_);refine goesL_ (some 16) rfl rfl Try.func94 (by kernel_rfl) rfl #[.int .i64 a1_0,.int .i64 a0_1] rfl (by (try simp only [List.map_toArray,List.map_cons,List.map_nil]);first|done|rfl|(simp only [List.length_drop,List.length_take];rfl)) ?_;(with_reducible refine (surtitleref3_Times.calls a1_0 a0_1 t111 t112 t113 _ A4.out).mono ?_);rintro e w64 ⟨rfl,hb⟩;refine ⟨_,rfl,?_⟩;have n0_:=ab hb BK105;have n1_:=ab hb BK106;have n2_:=Aside0.mk (blk_below (g:=gb110) (o:=.cells #[.bool t107,.int .u64 t108,.int .u64 t109] 126 (0,0)) (by refine bk ?_;refine blk_put (cs:=#[.bool t107,.int .u64 t108,.int .u64 0]) ?_ 2 _ rfl;refine bk ?_;refine blk_put (cs:=#[.bool t107,.int .u64 0,.int .u64 0]) ?_ 1 _ rfl;refine bk ?_;refine blk_put (cs:=#[.bool false,.int .u64 0,.int .u64 0]) ?_ 0 _ rfl;refine bk ?_;exact BK110.out) hb);have n3_:=hs hb HB;clear BK105;clear BK106;clear BK110;clear HB;have BK105:=n0_;have BK106:=n1_;have BK110:=n2_;have HB:=n3_;clear n0_ n1_ n2_ n3_;(try clear hb);(try clear hb2);(try clear hk);(try clear hi))|((with_reducible refine gate_dst (N:=6) rfl ?_);refine box_event ?hg (N:=6) ?hd (cs:=#[.bool false,.int .u64 0,.int .u64 0]) (t:=126) ?hr ?_;(case hd=>rfl);(case hg=>rfl);(case hr=>first|(go_simp;done)|(go_simp;rfl));intro gb114 hg w65 hbox hb;have BK114:=Aside0.mk (hbox);have GW114:=ag hg HB;have GE114:=ag hg HB;have NB105_114:=na hg BK105;have NB114_105:=nb hg BK105;have NB106_114:=na hg BK106;have NB114_106:=nb hg BK106;have NB110_114:=na hg BK110;have NB114_110:=nb hg BK110;replace BK105:=ab hb BK105;replace BK106:=ab hb BK106;replace BK110:=ab hb BK110;replace HB:=hs hb HB;clear hb hbox hg;have hnb66:=NB114_105.out;have hnc66:=NB105_114.out;have hnb67:=NB114_106.out;have hnc67:=NB106_114.out;have hnb68:=NB114_110.out;have hnc68:=NB110_114.out;obtain ⟨hcz69_0,hcz69_1,hcz69_2,hfz69_0,hfz69_1,hfz69_2⟩:=k3 BK114.out;obtain ⟨hcz70_0,hcz70_1,hcz70_2,hfz70_0,hfz70_1,hfz70_2⟩:=k3 BK110.out)|((with_reducible refine gate_callee (f:=110) rfl ?_);refine goesL_ (some 19) rfl rfl Try.func110 (by kernel_rfl) rfl #[.agg #[.bool t107,.int .u64 t108,.int .u64 t109],.agg #[.bool t111,.int .u64 t112,.int .u64 t113]] rfl (by (try simp only [List.map_toArray,List.map_cons,List.map_nil]);first|done|rfl|(simp only [List.length_drop,List.length_take];rfl)) ?_;(with_reducible refine (surtitleref3_Less.calls t107 t108 t109 t111 t112 t113 false _ A5.out).mono ?_);rintro e w71 ⟨rfl,hb⟩;refine ⟨_,rfl,?_⟩;have n0_:=ab hb BK105;have n1_:=ab hb BK106;have n2_:=ab hb BK110;have n3_:=Aside0.mk (blk_below (g:=gb114) (o:=.cells #[.bool t111,.int .u64 t112,.int .u64 t113] 126 (0,0)) (by refine bk ?_;refine blk_put (cs:=#[.bool t111,.int .u64 t112,.int .u64 0]) ?_ 2 _ rfl;refine bk ?_;refine blk_put (cs:=#[.bool t111,.int .u64 0,.int .u64 0]) ?_ 1 _ rfl;refine bk ?_;refine blk_put (cs:=#[.bool false,.int .u64 0,.int .u64 0]) ?_ 0 _ rfl;refine bk ?_;exact BK114.out) hb);have n4_:=hs hb HB;clear BK105;clear BK106;clear BK110;clear BK114;clear HB;have BK105:=n0_;have BK106:=n1_;have BK110:=n2_;have BK114:=n3_;have HB:=n4_;clear n0_ n1_ n2_ n3_ n4_;(try clear hb);(try clear hb2);(try clear hk);(try clear hi);obtain ⟨hcz72_0,hcz72_1,hcz72_2,hfz72_0,hfz72_1,hfz72_2⟩:=k3 BK114.out;obtain ⟨hcz73_0,hcz73_1,hcz73_2,hfz73_0,hfz73_1,hfz73_2⟩:=k3 BK110.out)|((with_reducible refine gate_callee (f:=110) rfl ?_);refine goesL_ (some 22) rfl rfl Try.func110 (by kernel_rfl) rfl #[.agg #[.bool t111,.int .u64 t112,.int .u64 t113],.agg #[.bool t107,.int .u64 t108,.int .u64 t109]] rfl (by (try simp only [List.map_toArray,List.map_cons,List.map_nil]);first|done|rfl|(simp only [List.length_drop,List.length_take];rfl)) ?_;(with_reducible refine (surtitleref3_Less.calls t111 t112 t113 t107 t108 t109 false _ A27.out).mono ?_);rintro e w74 ⟨rfl,hb⟩;refine ⟨_,rfl,?_⟩;replace BK105:=ab hb BK105;replace BK106:=ab hb BK106;replace BK110:=ab hb BK110;replace BK114:=ab hb BK114;replace HB:=hs hb HB;(try clear hb);(try clear hb2);(try clear hk);(try clear hi)))
   go_ret
   exact ⟨by first|rfl|(simp [errW_none,errW_some]<;>rfl)|(simp [*,errW_none,errW_some]<;>rfl),by repeat (first|(with_reducible first|exact HB.out|apply below_alloc|apply pw_below_drewN|apply below_drew1|refine below_set ?_ GE105.out|refine below_set ?_ GE106.out|refine below_set ?_ GE110.out|refine below_set ?_ GE114.out)|exact HB.out)⟩

end Go.Proofs.Ythlpaglldhgmfaa.PL
