-- made by wip/pp2.py out of the translation, over contracts of my own
import Derived.Test.YtofndakpenpkbaaDoorProg
import Derived.Below
import Derived.Deep.Draws
import Derived.Deep.AppendLies
import Derived.Maps.AppendAt
import Derived.OwnWalk
import Derived.Laws.BytesArg
import Derived.Laws.MakeOwn
import Derived.Laws.OwnMore
import Derived.Deep.OwnRows
import Derived.Tactics
import Derived.Lib.ConvBytes
import Derived.Laws.Slices
import Derived.WalkKit
import Derived.KernelRfl
import Derived.RowKit3
import Derived.Deep.LoopGhost
import Derived.Deep.QuietTactic
import Derived.BigQuiet
import Derived.WideLaws
import Derived.Deep.DeepCutAuto
import Derived.Deep.CutBlock
import Derived.Deep.RegionHeld3
import Derived.Laws.Rows
import Derived.Lib.AppendStr
import Derived.ArgAppend
import Derived.Laws.IdiomCopy
import Derived.OrdersHeld
import Derived.Laws.BitsLemmas
import Derived.RowKit
import Derived.Test.YtofndakpenpkbaaDoorPSnx1
import Derived.Test.YtofndakpenpkbaaDoorPBx2
import Derived.Test.YtofndakpenpkbaaDoorStrE
import Derived.Test.YtofndakpenpkbaaDoorXW
namespace Go.Proofs.YtofndakpenpkbaaDoor.LRows
open Go.Proofs.YtofndakpenpkbaaDoor.PA Go.Proofs.YtofndakpenpkbaaDoor.PR Go.Proofs.YtofndakpenpkbaaDoor.PO Go.Proofs.YtofndakpenpkbaaDoor.PL Go.Proofs.YtofndakpenpkbaaDoor.PSn Go.Proofs.YtofndakpenpkbaaDoor.PB
open Go.RowKit Go.Proofs.YtofndakpenpkbaaDoorW.PrintWords Go.Proofs.YtofndakpenpkbaaDoorW.PrintLast Go.Proofs.YtofndakpenpkbaaDoorW.PrintMore
set_option linter.unusedVariables false
set_option linter.unusedSimpArgs false



def errW : Option Int → Value
  | none => .nilIface
  | some c => .iface 0 (.int .i64 c)
theorem errW_none : errW none = .nilIface := rfl
theorem errW_some (c : Int) : errW (some c) = .iface 0 (.int .i64 c) := rfl


end Go.Proofs.YtofndakpenpkbaaDoor.LRows

namespace Go.Proofs.YtofndakpenpkbaaDoor.LRows
open Go.Proofs.YtofndakpenpkbaaDoor.PA Go.Proofs.YtofndakpenpkbaaDoor.PR Go.Proofs.YtofndakpenpkbaaDoor.PO Go.Proofs.YtofndakpenpkbaaDoor.PL Go.Proofs.YtofndakpenpkbaaDoor.PSn Go.Proofs.YtofndakpenpkbaaDoor.PB
open Go.RowKit Go.Proofs.YtofndakpenpkbaaDoorW.PrintWords Go.Proofs.YtofndakpenpkbaaDoorW.PrintLast Go.Proofs.YtofndakpenpkbaaDoorW.PrintMore
set_option linter.unusedVariables false
set_option linter.unusedSimpArgs false

theorem eqA24 (d : Nat) (w : World) (x0 y0 : Int) (x1 y1 : Int) :
    (Op.equalIn (d + 2) 24 (.agg #[.int .i64 x0, .int .i64 x1]) (.agg #[.int .i64 y0, .int .i64 y1])).run Tryd.prog w = .ok (x0 == y0 && (x1 == y1)) w := by
  refine eqA_of Tryd.underlying24 (by kernel_rfl) ?_
  refine eqf_cons (by rfl) (by go_simp; rfl) (by go_simp; rfl) (by go_simp) ?_
  exact eqf_last (by rfl) (by go_simp; rfl) (by go_simp; rfl) (by go_simp)
end Go.Proofs.YtofndakpenpkbaaDoor.LRows

namespace Go.Proofs.YtofndakpenpkbaaDoor.LRows
open Go.Proofs.YtofndakpenpkbaaDoor.PA Go.Proofs.YtofndakpenpkbaaDoor.PR Go.Proofs.YtofndakpenpkbaaDoor.PO Go.Proofs.YtofndakpenpkbaaDoor.PL Go.Proofs.YtofndakpenpkbaaDoor.PSn Go.Proofs.YtofndakpenpkbaaDoor.PB
open Go.RowKit Go.Proofs.YtofndakpenpkbaaDoorW.PrintWords Go.Proofs.YtofndakpenpkbaaDoorW.PrintLast Go.Proofs.YtofndakpenpkbaaDoorW.PrintMore
set_option linter.unusedVariables false
set_option linter.unusedSimpArgs false

/-! ### surtitlelaw3_known: function 16: told elsewhere -/

/-! ### surtitleref3_Right: function 20: told elsewhere -/

/-! ### surtitlelaw3_told: function 23: told elsewhere -/

/-! ### ratio_Cmp: function 32: told elsewhere -/

/-! ### ratio_Sum: function 34: told elsewhere -/

/-! ### surtitleref3_Sum: function 35: told elsewhere -/

/-! ### ratio_Least: function 36: told elsewhere -/

/-! ### surtitleref3_Best: function 37: told elsewhere -/

/-! ### ratio_Most: function 38: told elsewhere -/

/-! ### surtitleref3_Cmp: function 39: told elsewhere -/

end Go.Proofs.YtofndakpenpkbaaDoor.LRows

namespace Go.Proofs.YtofndakpenpkbaaDoor.LRows
open Go.Proofs.YtofndakpenpkbaaDoor.PA Go.Proofs.YtofndakpenpkbaaDoor.PR Go.Proofs.YtofndakpenpkbaaDoor.PO Go.Proofs.YtofndakpenpkbaaDoor.PL Go.Proofs.YtofndakpenpkbaaDoor.PSn Go.Proofs.YtofndakpenpkbaaDoor.PB
open Go.RowKit Go.Proofs.YtofndakpenpkbaaDoorW.PrintWords Go.Proofs.YtofndakpenpkbaaDoorW.PrintLast Go.Proofs.YtofndakpenpkbaaDoorW.PrintMore
set_option linter.unusedVariables false
set_option linter.unusedSimpArgs false

attribute [local go_sem high] eqA24
/-! ### surtitlelaw3_RatioRows: function 8 -/
mutual
def surtitlelaw3_RatioRows.l0 : Nat → List (PSn.S24) → Int → Option (Bool)
  | 0, _, _ => none
  | k + 1, x0, x7 => if x7 < (x0.length : Int) then (if 0 ≤ x7 then ((surtitleref3_Right.f k ((PSn.rd_T24 x0 x7).f0) ((PSn.rd_T24 x0 x7).f1)).bind fun t112 => (if t112 = true then (surtitlelaw3_RatioRows.l0 k x0 (wrap64 (x7 + 1))) else (some true))) else (none)) else ((ratio_Least.f k x0).bind fun bt113 => ((surtitleref3_Best.f k x0 (-1)).bind fun bt117 => ((ratio_Most.f k x0).bind fun bt121 => ((surtitleref3_Best.f k x0 1).bind fun bt125 => (if (!(bt113.1 == bt117.1) || (!(bt113.2.1 == bt117.2.1))) = true then (surtitlelaw3_RatioRows.j1 k x0 true) else (if (bt113.2.2 != bt117.2.2) = true then (surtitlelaw3_RatioRows.j1 k x0 true) else (if (!(bt121.1 == bt125.1) || (!(bt121.2.1 == bt125.2.1))) = true then (surtitlelaw3_RatioRows.j1 k x0 true) else (surtitlelaw3_RatioRows.j1 k x0 (bt121.2.2 != bt125.2.2)))))))))
def surtitlelaw3_RatioRows.j1 : Nat → List (PSn.S24) → Bool → Option (Bool)
  | 0, _, _ => none
  | k + 1, x0, x87 => if x87 = true then (some false) else (surtitlelaw3_RatioRows.l1 k x0 1)
def surtitlelaw3_RatioRows.l1 : Nat → List (PSn.S24) → Int → Option (Bool)
  | 0, _, _ => none
  | k + 1, x0, x16 => if x16 < (x0.length : Int) then (if 0 ≤ (wrap64 (x16 - 1)) then (if (wrap64 (x16 - 1)) < (x0.length : Int) then (if 0 ≤ x16 then ((ratio_Cmp.f ((PSn.rd_T24 x0 (wrap64 (x16 - 1))).f0) ((PSn.rd_T24 x0 (wrap64 (x16 - 1))).f1) ((PSn.rd_T24 x0 x16).f0) ((PSn.rd_T24 x0 x16).f1)).bind fun t131 => ((surtitleref3_Cmp.f ((PSn.rd_T24 x0 (wrap64 (x16 - 1))).f0) ((PSn.rd_T24 x0 (wrap64 (x16 - 1))).f1) ((PSn.rd_T24 x0 x16).f0) ((PSn.rd_T24 x0 x16).f1)).bind fun t134 => (if t131 = t134 then (surtitlelaw3_RatioRows.l1 k x0 (wrap64 (x16 + 1))) else (some false)))) else (none)) else (none)) else (none)) else (some true)
end
def surtitlelaw3_RatioRows.f (k : Nat) (l0 : List (PSn.S24)) : Option (Bool) := (surtitlelaw3_known.f).bind fun t101 => (if t101 = true then (if (l0.length : Int) > 3000 then (some true) else ((ratio_Sum.f k l0).bind fun bt102 => ((surtitleref3_Sum.f k l0).bind fun bt106 => ((surtitlelaw3_told.f bt102.1 bt102.2.1 bt102.2.2 bt106.1 bt106.2.1 bt106.2.2).bind fun t110 => (if t110 = true then (surtitlelaw3_RatioRows.l0 k l0 0) else (some false)))))) else (some false))
def surtitlelaw3_RatioRows.T23 : Bool × List (List Nat × List Nat) := (true, [([], []), ([], []), ([1], [1]), ([0, 2], [0, 2]), ([3], [3]), ([], []), ([], []), ([5, 6], [5, 6]), ([7], [7]), ([4, 8], [4, 8]), ([], []), ([], []), ([11], [11]), ([10, 12], [10, 12]), ([13], [13]), ([], []), ([], []), ([15, 16], [15, 16]), ([17], [17]), ([14, 18, 9], [14, 18]), ([9, 19], [9, 19])])
def surtitlelaw3_RatioRows.B23 : List Nat := [0, 0, 2, 7, 15, 0, 0, 96, 224, 511, 0, 0, 2048, 7168, 15360, 0, 0, 98304, 229376, 524287, 1048575]
theorem surtitlelaw3_RatioRows.tab23 : rtab .any (opsOf Tryd.f8 23) = surtitlelaw3_RatioRows.T23 := by kernel_rfl
theorem surtitlelaw3_RatioRows.bits23 : waitsOk surtitlelaw3_RatioRows.T23.2 surtitlelaw3_RatioRows.B23 = true := by kernel_rfl
set_option maxHeartbeats 8000000 in
set_option maxRecDepth 100000 in
theorem surtitlelaw3_RatioRows.calls (k : Nat) (A0 : Option Addr) (c0 : Nat) (l0 : List (PSn.S24)) (r : Bool) (w : World) (hr0 : Kd.C PSn.k24 w A0 l0.length l0) (hc0 : l0.length ≤ c0) (h : surtitlelaw3_RatioRows.f k l0 = some r) :
    Calls Tryd.prog 8 #[.slice A0 l0.length c0] w fun e w' => e = .returned (.bool r) ∧ Below w.heap.size w w' := by
  have hu24 := Tryd.underlying24
  have HR0 := Aside0.mk hr0
  have HC0 := Aside0.mk hc0
  clear hr0 hc0
  have HB := Aside0.mk (Below.refl w.heap.size w)
  have H : ((surtitlelaw3_known.f).bind fun t101 => (if t101 = true then (if (l0.length : Int) > 3000 then (some true) else ((ratio_Sum.f k l0).bind fun bt102 => ((surtitleref3_Sum.f k l0).bind fun bt106 => ((surtitlelaw3_told.f bt102.1 bt102.2.1 bt102.2.2 bt106.1 bt106.2.1 bt106.2.2).bind fun t110 => (if t110 = true then (surtitlelaw3_RatioRows.l0 k l0 0) else (some false)))))) else (some false))) = some r := h
  clear h
  replace H := Option.bind_eq_some_iff.mp H
  obtain ⟨t101, A20, H⟩ := H
  replace H : (if t101 = true then (if (l0.length : Int) > 3000 then (some true) else ((ratio_Sum.f k l0).bind fun bt102 => ((surtitleref3_Sum.f k l0).bind fun bt106 => ((surtitlelaw3_told.f bt102.1 bt102.2.1 bt102.2.2 bt106.1 bt106.2.1 bt106.2.2).bind fun t110 => (if t110 = true then (surtitlelaw3_RatioRows.l0 k l0 0) else (some false)))))) else (some false)) = some r := H
  have A2 := Aside0.mk A20
  clear A20
  by_cases c3 : t101 = true
  · subst c3
    have H1 : (if (l0.length : Int) > 3000 then (some true) else ((ratio_Sum.f k l0).bind fun bt102 => ((surtitleref3_Sum.f k l0).bind fun bt106 => ((surtitlelaw3_told.f bt102.1 bt102.2.1 bt102.2.2 bt106.1 bt106.2.1 bt106.2.2).bind fun t110 => (if t110 = true then (surtitlelaw3_RatioRows.l0 k l0 0) else (some false)))))) = some r := by rw [if_pos rfl] at H; exact H
    clear H
    have H := H1
    clear H1
    by_cases c4 : (l0.length : Int) > 3000
    · rw [if_pos c4] at H
      have c4b0 : decide (3000 < (l0.length : Int)) = true := decide_eq_true c4
      have c4b1 : decide (3000 < l0.length) = true := decide_eq_true (by omega)
      clear c4
      obtain rfl := Option.some.inj H
      go_enter Tryd.func8, Tryd.ntmps8
      go_wp2_with (first | ((with_reducible refine gate_callee (f := 16) rfl ?_); refine goesL_ (some 17) rfl rfl Tryd.func16 (by kernel_rfl) rfl #[] rfl (by (try simp only [List.map_toArray, List.map_cons, List.map_nil]); first | done | rfl | (simp only [List.length_drop, List.length_take]; rfl)) ?_; (with_reducible refine (surtitlelaw3_known.calls  true _ A2.out).mono ?_); rintro e w5 ⟨rfl, hb⟩; refine ⟨_, rfl, ?_⟩; replace HB := hs hb HB; (try clear hb); (try clear hb2); (try clear hk); (try clear hi)))
      go_ret
      exact ⟨by first | rfl | (simp [errW_none, errW_some] <;> rfl) | (simp [*, errW_none, errW_some] <;> rfl), by repeat (first | (with_reducible first | exact HB.out | apply below_alloc | apply pw_below_drewN | apply below_drew1) | exact HB.out)⟩
    rw [if_neg c4] at H
    have c4b0 : decide (3000 < (l0.length : Int)) = false := decide_eq_false c4
    have c4b1 : decide (3000 < l0.length) = false := decide_eq_false (by omega)
    clear c4
    replace H := Option.bind_eq_some_iff.mp H
    obtain ⟨⟨t102, t103, t104⟩, A60, H⟩ := H
    replace H : ((surtitleref3_Sum.f k l0).bind fun bt106 => ((surtitlelaw3_told.f t102 t103 t104 bt106.1 bt106.2.1 bt106.2.2).bind fun t110 => (if t110 = true then (surtitlelaw3_RatioRows.l0 k l0 0) else (some false)))) = some r := H
    have A6 := Aside0.mk A60
    clear A60
    replace H := Option.bind_eq_some_iff.mp H
    obtain ⟨⟨t106, t107, t108⟩, A70, H⟩ := H
    replace H : ((surtitlelaw3_told.f t102 t103 t104 t106 t107 t108).bind fun t110 => (if t110 = true then (surtitlelaw3_RatioRows.l0 k l0 0) else (some false))) = some r := H
    have A7 := Aside0.mk A70
    clear A70
    replace H := Option.bind_eq_some_iff.mp H
    obtain ⟨t110, A80, H⟩ := H
    replace H : (if t110 = true then (surtitlelaw3_RatioRows.l0 k l0 0) else (some false)) = some r := H
    have A8 := Aside0.mk A80
    clear A80
    by_cases c9 : t110 = true
    · subst c9
      have H1 : (surtitlelaw3_RatioRows.l0 k l0 0) = some r := by rw [if_pos rfl] at H; exact H
      clear H
      have H := H1
      clear H1
      have H' := Aside0.mk H
      clear H
      go_enter Tryd.func8, Tryd.ntmps8
      go_wp2_with (first | ((with_reducible refine gate_callee (f := 16) rfl ?_); refine goesL_ (some 17) rfl rfl Tryd.func16 (by kernel_rfl) rfl #[] rfl (by (try simp only [List.map_toArray, List.map_cons, List.map_nil]); first | done | rfl | (simp only [List.length_drop, List.length_take]; rfl)) ?_; (with_reducible refine (surtitlelaw3_known.calls  true _ A2.out).mono ?_); rintro e w10 ⟨rfl, hb⟩; refine ⟨_, rfl, ?_⟩; replace HB := hs hb HB; (try clear hb); (try clear hb2); (try clear hk); (try clear hi)) | ((with_reducible refine gate_callee (f := 34) rfl ?_); refine goesL_ (some 24) rfl rfl Tryd.func34 (by kernel_rfl) rfl #[.slice A0 l0.length c0] rfl (by (try simp only [List.map_toArray, List.map_cons, List.map_nil]); first | done | rfl | (simp only [List.length_drop, List.length_take]; rfl)) ?_; (with_reducible refine (ratio_Sum.calls k _ _ l0 t102 t103 t104 _ ?side1 ?side2 A6.out).mono ?_); (case side1 => repeat (first | exact (Kd.C_below HR0.out HB.out) | (with_reducible refine Kd.C_alloc ?_ _) | (with_reducible refine Kd.C_drewN ?_ _) | (with_reducible refine Kd.C_drew ?_))); (case side2 => exact HC0.out); rintro e w11 ⟨rfl, hb⟩; refine ⟨_, rfl, ?_⟩; replace HB := hs hb HB; (try clear hb); (try clear hb2); (try clear hk); (try clear hi)) | ((with_reducible refine gate_dst (N := 3) rfl ?_); refine box_event ?hg (N := 3) ?hd (cs := #[.int .i64 0, .int .i64 0]) (t := 24) ?hr ?_; (case hd => rfl); (case hg => rfl); (case hr => first | (go_simp; done) | (go_simp; rfl)); intro gb105 hg w12 hbox hb; have BK105 := Aside0.mk (hbox); have GW105 := ag hg HB; have GE105 := ag hg HB; replace HB := hs hb HB; clear hb hbox hg; obtain ⟨hcz13_0, hcz13_1, hfz13_0, hfz13_1⟩ := k2 BK105.out) | ((with_reducible refine gate_callee (f := 35) rfl ?_); refine goesL_ (some 29) rfl rfl Tryd.func35 (by kernel_rfl) rfl #[.slice A0 l0.length c0] rfl (by (try simp only [List.map_toArray, List.map_cons, List.map_nil]); first | done | rfl | (simp only [List.length_drop, List.length_take]; rfl)) ?_; (with_reducible refine (surtitleref3_Sum.calls k _ _ l0 t106 t107 t108 _ ?side1 ?side2 A7.out).mono ?_); (case side1 => exact Kd.C_below HR0.out (bw HB.out)); (case side2 => exact HC0.out); rintro e w14 ⟨rfl, hb⟩; refine ⟨_, rfl, ?_⟩; have n0_ := Aside0.mk (blk_below (g := gb105) (o := .cells #[.int .i64 t102, .int .i64 t103] 24 (0, 0)) (by refine bk ?_; refine blk_put (cs := #[.int .i64 t102, .int .i64 0]) ?_ 1 _ rfl; refine bk ?_; refine blk_put (cs := #[.int .i64 0, .int .i64 0]) ?_ 0 _ rfl; refine bk ?_; exact BK105.out) hb); have n1_ := hs hb HB; clear BK105; clear HB; have BK105 := n0_; have HB := n1_; clear n0_ n1_; (try clear hb); (try clear hb2); (try clear hk); (try clear hi)) | ((with_reducible refine gate_dst (N := 5) rfl ?_); refine box_event ?hg (N := 5) ?hd (cs := #[.int .i64 0, .int .i64 0]) (t := 24) ?hr ?_; (case hd => rfl); (case hg => rfl); (case hr => first | (go_simp; done) | (go_simp; rfl)); intro gb109 hg w15 hbox hb; have BK109 := Aside0.mk (hbox); have GW109 := ag hg HB; have GE109 := ag hg HB; have NB105_109 := na hg BK105; have NB109_105 := nb hg BK105; replace BK105 := ab hb BK105; replace HB := hs hb HB; clear hb hbox hg; have hnb16 := NB109_105.out; have hnc16 := NB105_109.out; obtain ⟨hcz17_0, hcz17_1, hfz17_0, hfz17_1⟩ := k2 BK109.out; obtain ⟨hcz18_0, hcz18_1, hfz18_0, hfz18_1⟩ := k2 BK105.out) | ((with_reducible refine gate_callee (f := 23) rfl ?_); refine goesL_ (some 36) rfl rfl Tryd.func23 (by kernel_rfl) rfl #[.agg #[.int .i64 t102, .int .i64 t103], .int .i64 t104, .agg #[.int .i64 t106, .int .i64 t107], .int .i64 t108] rfl (by (try simp only [List.map_toArray, List.map_cons, List.map_nil]); first | done | rfl | (simp only [List.length_drop, List.length_take]; rfl)) ?_; (with_reducible refine (surtitlelaw3_told.calls t102 t103 t104 t106 t107 t108 true _ A8.out).mono ?_); rintro e w19 ⟨rfl, hb⟩; refine ⟨_, rfl, ?_⟩; have n0_ := ab hb BK105; have n1_ := Aside0.mk (blk_below (g := gb109) (o := .cells #[.int .i64 t106, .int .i64 t107] 24 (0, 0)) (by refine bk ?_; refine blk_put (cs := #[.int .i64 t106, .int .i64 0]) ?_ 1 _ rfl; refine bk ?_; refine blk_put (cs := #[.int .i64 0, .int .i64 0]) ?_ 0 _ rfl; refine bk ?_; exact BK109.out) hb); have n2_ := hs hb HB; clear BK105; clear BK109; clear HB; have BK105 := n0_; have BK109 := n1_; have HB := n2_; clear n0_ n1_ n2_; (try clear hb); (try clear hb2); (try clear hk); (try clear hi)))
      go_loopg [7] k (fun kq v7 w' => ∃ (x7_1 : Int), v7 = .int .i64 x7_1 ∧ Aside0 (surtitlelaw3_RatioRows.l0 kq l0 x7_1 = some r) ∧ Aside0 (kq ≤ k) ∧ Aside0 (w'.heap[gb105]? = some (.cells #[.int .i64 t102, .int .i64 t103] 24 (0, 0))) ∧ Aside0 (w'.heap[gb109]? = some (.cells #[.int .i64 t106, .int .i64 t107] 24 (0, 0))) ∧ Aside0 (Below w.heap.size w w'))
      case atStart => exact ⟨(0), (by first | rfl | (simp; done) | (simp [*]; done)), H', ⟨Nat.le_refl _⟩, ⟨by refine bk ?_; exact BK105.out⟩, ⟨by refine bk ?_; exact BK109.out⟩, ⟨by repeat (first | (with_reducible first | exact HB.out | apply below_alloc | apply pw_below_drewN | apply below_drew1 | refine below_set ?_ GE105.out | refine below_set ?_ GE109.out) | exact HB.out)⟩⟩
      case round =>
        clear H'
        try clear c3
        try clear c4
        try clear c4b0
        try clear c4b1
        try clear c9
        try clear hcz13_0
        try clear hcz13_1
        try clear hcz17_0
        try clear hcz17_1
        try clear hcz18_0
        try clear hcz18_1
        try clear hfz13_0
        try clear hfz13_1
        try clear hfz17_0
        try clear hfz17_1
        try clear hfz18_0
        try clear hfz18_1
        obtain ⟨x7_1, rfl, HA, HK1, BK105, BK109, HB⟩ := hrel
        obtain _ | k1 := gk
        · exact absurd HA.out (by simp [surtitlelaw3_RatioRows.l0])
        have H := HA.out
        clear HA
        simp only [surtitlelaw3_RatioRows.l0] at H
        by_cases c20 : x7_1 < (l0.length : Int)
        · rw [if_pos c20] at H
          have c20b0 : decide (x7_1 < (l0.length : Int)) = true := decide_eq_true c20
          clear c20
          by_cases c21 : 0 ≤ x7_1
          · rw [if_pos c21] at H
            have c21b0 : decide (0 ≤ x7_1) = true := decide_eq_true c21
            clear c21
            replace H := Option.bind_eq_some_iff.mp H
            obtain ⟨t112, A220, H⟩ := H
            replace H : (if t112 = true then (surtitlelaw3_RatioRows.l0 k1 l0 (wrap64 (x7_1 + 1))) else (some true)) = some r := H
            have A22 := Aside0.mk A220
            clear A220
            by_cases c23 : t112 = true
            · subst c23
              have H1 : (surtitlelaw3_RatioRows.l0 k1 l0 (wrap64 (x7_1 + 1))) = some r := by rw [if_pos rfl] at H; exact H
              clear H
              have H := H1
              clear H1
              have H' := Aside0.mk H
              clear H
              have p111 : 0 ≤ (x7_1 : Int) := of_decide_eq_true (by first | (with_reducible assumption) | assumption)
              have q111 : x7_1 < (l0.length : Int) := of_decide_eq_true (by first | (with_reducible assumption) | assumption)
              obtain ⟨ad111, e111, hx111_0, hx111_1⟩ := PSn.at_T24 HR0.out x7_1 p111 q111
              cases e111
              replace hx111_0 := (HB.out.cell (World.block_lt_of_cell? w _ hx111_0)).trans hx111_0
              replace hx111_1 := (HB.out.cell (World.block_lt_of_cell? w _ hx111_1)).trans hx111_1
              replace p111 := eq_true p111
              replace q111 := eq_true q111
              go_wp2_with (first | ((with_reducible refine gate_callee (f := 20) rfl ?_); refine goesL_ (some 48) rfl rfl Tryd.func20 (by kernel_rfl) rfl #[.agg #[.int .i64 ((PSn.rd_T24 l0 x7_1).f0), .int .i64 ((PSn.rd_T24 l0 x7_1).f1)]] rfl (by (try simp only [List.map_toArray, List.map_cons, List.map_nil]); first | done | rfl | (simp only [List.length_drop, List.length_take]; rfl)) ?_; (with_reducible refine (surtitleref3_Right.calls k1 ((PSn.rd_T24 l0 x7_1).f0) ((PSn.rd_T24 l0 x7_1).f1) true _ A22.out).mono ?_); rintro e w24 ⟨rfl, hb⟩; refine ⟨_, rfl, ?_⟩; replace BK105 := ab hb BK105; replace BK109 := ab hb BK109; replace HB := hs hb HB; (try clear hb); (try clear hb2); (try clear hk); (try clear hi)))
              go_roundg k1
              case measure => have := HK1.out; omega
              case rel => exact ⟨(wrap64 (x7_1 + 1)), (by first | rfl | (simp; done) | (simp [*]; done)), H', ⟨by have := HK1.out; omega⟩, ⟨by refine bk ?_; exact BK105.out⟩, ⟨by refine bk ?_; exact BK109.out⟩, ⟨by repeat (first | (with_reducible first | exact HB.out | apply below_alloc | apply pw_below_drewN | apply below_drew1 | refine below_set ?_ GE105.out | refine below_set ?_ GE109.out) | exact HB.out)⟩⟩
            replace c23 := Bool.eq_false_iff.mpr c23
            subst c23
            have H1 : (some true) = some r := by rw [if_neg (show ¬ (false = true) by decide)] at H; exact H
            clear H
            have H := H1
            clear H1
            obtain rfl := Option.some.inj H
            have p111 : 0 ≤ (x7_1 : Int) := of_decide_eq_true (by first | (with_reducible assumption) | assumption)
            have q111 : x7_1 < (l0.length : Int) := of_decide_eq_true (by first | (with_reducible assumption) | assumption)
            obtain ⟨ad111, e111, hx111_0, hx111_1⟩ := PSn.at_T24 HR0.out x7_1 p111 q111
            cases e111
            replace hx111_0 := (HB.out.cell (World.block_lt_of_cell? w _ hx111_0)).trans hx111_0
            replace hx111_1 := (HB.out.cell (World.block_lt_of_cell? w _ hx111_1)).trans hx111_1
            replace p111 := eq_true p111
            replace q111 := eq_true q111
            go_wp2_with (first | ((with_reducible refine gate_callee (f := 20) rfl ?_); refine goesL_ (some 48) rfl rfl Tryd.func20 (by kernel_rfl) rfl #[.agg #[.int .i64 ((PSn.rd_T24 l0 x7_1).f0), .int .i64 ((PSn.rd_T24 l0 x7_1).f1)]] rfl (by (try simp only [List.map_toArray, List.map_cons, List.map_nil]); first | done | rfl | (simp only [List.length_drop, List.length_take]; rfl)) ?_; (with_reducible refine (surtitleref3_Right.calls k1 ((PSn.rd_T24 l0 x7_1).f0) ((PSn.rd_T24 l0 x7_1).f1) false _ A22.out).mono ?_); rintro e w25 ⟨rfl, hb⟩; refine ⟨_, rfl, ?_⟩; replace BK105 := ab hb BK105; replace BK109 := ab hb BK109; replace HB := hs hb HB; (try clear hb); (try clear hb2); (try clear hk); (try clear hi)))
            go_ret
            exact ⟨by first | rfl | (simp [errW_none, errW_some] <;> rfl) | (simp [*, errW_none, errW_some] <;> rfl), by repeat (first | (with_reducible first | exact HB.out | apply below_alloc | apply pw_below_drewN | apply below_drew1 | refine below_set ?_ GE105.out | refine below_set ?_ GE109.out) | exact HB.out)⟩
          rw [if_neg c21] at H
          exact absurd H (by simp)
        rw [if_neg c20] at H
        have c20b0 : decide (x7_1 < (l0.length : Int)) = false := decide_eq_false c20
        clear c20
        replace H := Option.bind_eq_some_iff.mp H
        obtain ⟨⟨t113, t114, t115⟩, A260, H⟩ := H
        replace H : ((surtitleref3_Best.f k1 l0 (-1)).bind fun bt117 => ((ratio_Most.f k1 l0).bind fun bt121 => ((surtitleref3_Best.f k1 l0 1).bind fun bt125 => (if (!(t113 == bt117.1) || (!(t114 == bt117.2.1))) = true then (surtitlelaw3_RatioRows.j1 k1 l0 true) else (if (t115 != bt117.2.2) = true then (surtitlelaw3_RatioRows.j1 k1 l0 true) else (if (!(bt121.1 == bt125.1) || (!(bt121.2.1 == bt125.2.1))) = true then (surtitlelaw3_RatioRows.j1 k1 l0 true) else (surtitlelaw3_RatioRows.j1 k1 l0 (bt121.2.2 != bt125.2.2)))))))) = some r := H
        have A26 := Aside0.mk A260
        clear A260
        replace H := Option.bind_eq_some_iff.mp H
        obtain ⟨⟨t117, t118, t119⟩, A270, H⟩ := H
        replace H : ((ratio_Most.f k1 l0).bind fun bt121 => ((surtitleref3_Best.f k1 l0 1).bind fun bt125 => (if (!(t113 == t117) || (!(t114 == t118))) = true then (surtitlelaw3_RatioRows.j1 k1 l0 true) else (if (t115 != t119) = true then (surtitlelaw3_RatioRows.j1 k1 l0 true) else (if (!(bt121.1 == bt125.1) || (!(bt121.2.1 == bt125.2.1))) = true then (surtitlelaw3_RatioRows.j1 k1 l0 true) else (surtitlelaw3_RatioRows.j1 k1 l0 (bt121.2.2 != bt125.2.2))))))) = some r := H
        have A27 := Aside0.mk A270
        clear A270
        replace H := Option.bind_eq_some_iff.mp H
        obtain ⟨⟨t121, t122, t123⟩, A280, H⟩ := H
        replace H : ((surtitleref3_Best.f k1 l0 1).bind fun bt125 => (if (!(t113 == t117) || (!(t114 == t118))) = true then (surtitlelaw3_RatioRows.j1 k1 l0 true) else (if (t115 != t119) = true then (surtitlelaw3_RatioRows.j1 k1 l0 true) else (if (!(t121 == bt125.1) || (!(t122 == bt125.2.1))) = true then (surtitlelaw3_RatioRows.j1 k1 l0 true) else (surtitlelaw3_RatioRows.j1 k1 l0 (t123 != bt125.2.2)))))) = some r := H
        have A28 := Aside0.mk A280
        clear A280
        replace H := Option.bind_eq_some_iff.mp H
        obtain ⟨⟨t125, t126, t127⟩, A290, H⟩ := H
        replace H : (if (!(t113 == t117) || (!(t114 == t118))) = true then (surtitlelaw3_RatioRows.j1 k1 l0 true) else (if (t115 != t119) = true then (surtitlelaw3_RatioRows.j1 k1 l0 true) else (if (!(t121 == t125) || (!(t122 == t126))) = true then (surtitlelaw3_RatioRows.j1 k1 l0 true) else (surtitlelaw3_RatioRows.j1 k1 l0 (t123 != t127))))) = some r := H
        have A29 := Aside0.mk A290
        clear A290
        have HC30 := Aside0.mk H
        clear H
        go_upto_region 18 with (first | ((with_reducible refine gate_callee (f := 36) rfl ?_); refine goesL_ (some 52) rfl rfl Tryd.func36 (by kernel_rfl) rfl #[.slice A0 l0.length c0] rfl (by (try simp only [List.map_toArray, List.map_cons, List.map_nil]); first | done | rfl | (simp only [List.length_drop, List.length_take]; rfl)) ?_; (with_reducible refine (ratio_Least.calls k1 _ _ l0 t113 t114 t115 _ ?side1 ?side2 A26.out).mono ?_); (case side1 => repeat (first | exact (Kd.C_below HR0.out HB.out) | (with_reducible refine Kd.C_alloc ?_ _) | (with_reducible refine Kd.C_drewN ?_ _) | (with_reducible refine Kd.C_drew ?_))); (case side2 => exact HC0.out); rintro e w31 ⟨rfl, hb⟩; refine ⟨_, rfl, ?_⟩; replace BK105 := ab hb BK105; replace BK109 := ab hb BK109; replace HB := hs hb HB; (try clear hb); (try clear hb2); (try clear hk); (try clear hi)) | ((with_reducible refine gate_dst (N := 8) rfl ?_); refine box_event ?hg (N := 8) ?hd (cs := #[.int .i64 0, .int .i64 0]) (t := 24) ?hr ?_; (case hd => rfl); (case hg => rfl); (case hr => first | (go_simp; done) | (go_simp; rfl)); intro gb116 hg w32 hbox hb; have BK116 := Aside0.mk (hbox); have GW116 := ag hg HB; have GE116 := ag hg HB; have NB105_116 := na hg BK105; have NB116_105 := nb hg BK105; have NB109_116 := na hg BK109; have NB116_109 := nb hg BK109; replace BK105 := ab hb BK105; replace BK109 := ab hb BK109; replace HB := hs hb HB; clear hb hbox hg; have hnb33 := NB116_105.out; have hnc33 := NB105_116.out; have hnb34 := NB116_109.out; have hnc34 := NB109_116.out; obtain ⟨hcz35_0, hcz35_1, hfz35_0, hfz35_1⟩ := k2 BK116.out) | ((with_reducible refine gate_callee (f := 37) rfl ?_); refine goesL_ (some 57) rfl rfl Tryd.func37 (by kernel_rfl) rfl #[.slice A0 l0.length c0, .int .i64 (-1)] rfl (by (try simp only [List.map_toArray, List.map_cons, List.map_nil]); first | done | rfl | (simp only [List.length_drop, List.length_take]; rfl)) ?_; (with_reducible refine (surtitleref3_Best.calls k1 _ _ l0 (-1) t117 t118 t119 _ ?side1 ?side2 A27.out).mono ?_); (case side1 => exact Kd.C_below HR0.out (bw HB.out)); (case side2 => exact HC0.out); rintro e w36 ⟨rfl, hb⟩; refine ⟨_, rfl, ?_⟩; have n0_ := ab hb BK105; have n1_ := ab hb BK109; have n2_ := Aside0.mk (blk_below (g := gb116) (o := .cells #[.int .i64 t113, .int .i64 t114] 24 (0, 0)) (by refine bk ?_; refine blk_put (cs := #[.int .i64 t113, .int .i64 0]) ?_ 1 _ rfl; refine bk ?_; refine blk_put (cs := #[.int .i64 0, .int .i64 0]) ?_ 0 _ rfl; refine bk ?_; exact BK116.out) hb); have n3_ := hs hb HB; clear BK105; clear BK109; clear BK116; clear HB; have BK105 := n0_; have BK109 := n1_; have BK116 := n2_; have HB := n3_; clear n0_ n1_ n2_ n3_; (try clear hb); (try clear hb2); (try clear hk); (try clear hi)) | ((with_reducible refine gate_dst (N := 10) rfl ?_); refine box_event ?hg (N := 10) ?hd (cs := #[.int .i64 0, .int .i64 0]) (t := 24) ?hr ?_; (case hd => rfl); (case hg => rfl); (case hr => first | (go_simp; done) | (go_simp; rfl)); intro gb120 hg w37 hbox hb; have BK120 := Aside0.mk (hbox); have GW120 := ag hg HB; have GE120 := ag hg HB; have NB105_120 := na hg BK105; have NB120_105 := nb hg BK105; have NB109_120 := na hg BK109; have NB120_109 := nb hg BK109; have NB116_120 := na hg BK116; have NB120_116 := nb hg BK116; replace BK105 := ab hb BK105; replace BK109 := ab hb BK109; replace BK116 := ab hb BK116; replace HB := hs hb HB; clear hb hbox hg; have hnb38 := NB120_105.out; have hnc38 := NB105_120.out; have hnb39 := NB120_109.out; have hnc39 := NB109_120.out; have hnb40 := NB120_116.out; have hnc40 := NB116_120.out; obtain ⟨hcz41_0, hcz41_1, hfz41_0, hfz41_1⟩ := k2 BK120.out) | ((with_reducible refine gate_callee (f := 38) rfl ?_); refine goesL_ (some 62) rfl rfl Tryd.func38 (by kernel_rfl) rfl #[.slice A0 l0.length c0] rfl (by (try simp only [List.map_toArray, List.map_cons, List.map_nil]); first | done | rfl | (simp only [List.length_drop, List.length_take]; rfl)) ?_; (with_reducible refine (ratio_Most.calls k1 _ _ l0 t121 t122 t123 _ ?side1 ?side2 A28.out).mono ?_); (case side1 => exact Kd.C_below HR0.out (bw HB.out)); (case side2 => exact HC0.out); rintro e w42 ⟨rfl, hb⟩; refine ⟨_, rfl, ?_⟩; have n0_ := ab hb BK105; have n1_ := ab hb BK109; have n2_ := ab hb BK116; have n3_ := Aside0.mk (blk_below (g := gb120) (o := .cells #[.int .i64 t117, .int .i64 t118] 24 (0, 0)) (by refine bk ?_; refine blk_put (cs := #[.int .i64 t117, .int .i64 0]) ?_ 1 _ rfl; refine bk ?_; refine blk_put (cs := #[.int .i64 0, .int .i64 0]) ?_ 0 _ rfl; refine bk ?_; exact BK120.out) hb); have n4_ := hs hb HB; clear BK105; clear BK109; clear BK116; clear BK120; clear HB; have BK105 := n0_; have BK109 := n1_; have BK116 := n2_; have BK120 := n3_; have HB := n4_; clear n0_ n1_ n2_ n3_ n4_; (try clear hb); (try clear hb2); (try clear hk); (try clear hi)) | ((with_reducible refine gate_dst (N := 12) rfl ?_); refine box_event ?hg (N := 12) ?hd (cs := #[.int .i64 0, .int .i64 0]) (t := 24) ?hr ?_; (case hd => rfl); (case hg => rfl); (case hr => first | (go_simp; done) | (go_simp; rfl)); intro gb124 hg w43 hbox hb; have BK124 := Aside0.mk (hbox); have GW124 := ag hg HB; have GE124 := ag hg HB; have NB105_124 := na hg BK105; have NB124_105 := nb hg BK105; have NB109_124 := na hg BK109; have NB124_109 := nb hg BK109; have NB116_124 := na hg BK116; have NB124_116 := nb hg BK116; have NB120_124 := na hg BK120; have NB124_120 := nb hg BK120; replace BK105 := ab hb BK105; replace BK109 := ab hb BK109; replace BK116 := ab hb BK116; replace BK120 := ab hb BK120; replace HB := hs hb HB; clear hb hbox hg; have hnb44 := NB124_105.out; have hnc44 := NB105_124.out; have hnb45 := NB124_109.out; have hnc45 := NB109_124.out; have hnb46 := NB124_116.out; have hnc46 := NB116_124.out; have hnb47 := NB124_120.out; have hnc47 := NB120_124.out; obtain ⟨hcz48_0, hcz48_1, hfz48_0, hfz48_1⟩ := k2 BK124.out) | ((with_reducible refine gate_callee (f := 37) rfl ?_); refine goesL_ (some 67) rfl rfl Tryd.func37 (by kernel_rfl) rfl #[.slice A0 l0.length c0, .int .i64 1] rfl (by (try simp only [List.map_toArray, List.map_cons, List.map_nil]); first | done | rfl | (simp only [List.length_drop, List.length_take]; rfl)) ?_; (with_reducible refine (surtitleref3_Best.calls k1 _ _ l0 1 t125 t126 t127 _ ?side1 ?side2 A29.out).mono ?_); (case side1 => exact Kd.C_below HR0.out (bw HB.out)); (case side2 => exact HC0.out); rintro e w49 ⟨rfl, hb⟩; refine ⟨_, rfl, ?_⟩; have n0_ := ab hb BK105; have n1_ := ab hb BK109; have n2_ := ab hb BK116; have n3_ := ab hb BK120; have n4_ := Aside0.mk (blk_below (g := gb124) (o := .cells #[.int .i64 t121, .int .i64 t122] 24 (0, 0)) (by refine bk ?_; refine blk_put (cs := #[.int .i64 t121, .int .i64 0]) ?_ 1 _ rfl; refine bk ?_; refine blk_put (cs := #[.int .i64 0, .int .i64 0]) ?_ 0 _ rfl; refine bk ?_; exact BK124.out) hb); have n5_ := hs hb HB; clear BK105; clear BK109; clear BK116; clear BK120; clear BK124; clear HB; have BK105 := n0_; have BK109 := n1_; have BK116 := n2_; have BK120 := n3_; have BK124 := n4_; have HB := n5_; clear n0_ n1_ n2_ n3_ n4_ n5_; (try clear hb); (try clear hb2); (try clear hk); (try clear hi)) | ((with_reducible refine gate_dst (N := 14) rfl ?_); refine box_event ?hg (N := 14) ?hd (cs := #[.int .i64 0, .int .i64 0]) (t := 24) ?hr ?_; (case hd => rfl); (case hg => rfl); (case hr => first | (go_simp; done) | (go_simp; rfl)); intro gb128 hg w50 hbox hb; have BK128 := Aside0.mk (hbox); have GW128 := ag hg HB; have GE128 := ag hg HB; have NB105_128 := na hg BK105; have NB128_105 := nb hg BK105; have NB109_128 := na hg BK109; have NB128_109 := nb hg BK109; have NB116_128 := na hg BK116; have NB128_116 := nb hg BK116; have NB120_128 := na hg BK120; have NB128_120 := nb hg BK120; have NB124_128 := na hg BK124; have NB128_124 := nb hg BK124; replace BK105 := ab hb BK105; replace BK109 := ab hb BK109; replace BK116 := ab hb BK116; replace BK120 := ab hb BK120; replace BK124 := ab hb BK124; replace HB := hs hb HB; clear hb hbox hg; have hnb51 := NB128_105.out; have hnc51 := NB105_128.out; have hnb52 := NB128_109.out; have hnc52 := NB109_128.out; have hnb53 := NB128_116.out; have hnc53 := NB116_128.out; have hnb54 := NB128_120.out; have hnc54 := NB120_128.out; have hnb55 := NB128_124.out; have hnc55 := NB124_128.out; obtain ⟨hcz56_0, hcz56_1, hfz56_0, hfz56_1⟩ := k2 BK128.out))
        (try simp only [Act.put, List.setIfInBounds_toArray, List.set_cons_zero, List.set_cons_succ])
        go_cut [87] (fun v87 wc => ∃ (kq : Nat) (x87_29 : Bool), v87 = .bool x87_29 ∧ Aside0 (surtitlelaw3_RatioRows.j1 kq l0 x87_29 = some r) ∧ Aside0 (kq ≤ k1) ∧ Aside0 (wc.heap[gb105]? = some (.cells #[.int .i64 t102, .int .i64 t103] 24 (0, 0))) ∧ Aside0 (wc.heap[gb109]? = some (.cells #[.int .i64 t106, .int .i64 t107] 24 (0, 0))) ∧ Aside0 (wc.heap[gb116]? = some (.cells #[.int .i64 t113, .int .i64 t114] 24 (0, 0))) ∧ Aside0 (wc.heap[gb120]? = some (.cells #[.int .i64 t117, .int .i64 t118] 24 (0, 0))) ∧ Aside0 (wc.heap[gb124]? = some (.cells #[.int .i64 t121, .int .i64 t122] 24 (0, 0))) ∧ Aside0 (wc.heap[gb128]? = some (.cells #[.int .i64 t125, .int .i64 t126] 24 (0, 0))) ∧ Aside0 (Below w.heap.size w wc))
        case first =>
          have H := HC30.out
          clear HC30
          by_cases c57 : (!(t113 == t117) || (!(t114 == t118))) = true
          · rw [if_pos c57] at H
            have c57b0 : (!(t113 == t117) || (!(t114 == t118))) = true := c57
            clear c57
            (first | rw [c57b0] | (simp only [i64_w, i32_w]; rw [c57b0]) | skip)
            have H' := Aside0.mk H
            clear H
            have hnb58 := NB116_105.out
            have hnc58 := NB105_116.out
            have hnb59 := NB116_109.out
            have hnc59 := NB109_116.out
            have hnb60 := NB116_120.out
            have hnc60 := NB120_116.out
            have hnb61 := NB116_124.out
            have hnc61 := NB124_116.out
            have hnb62 := NB116_128.out
            have hnc62 := NB128_116.out
            obtain ⟨hcz63_0, hcz63_1, hfz63_0, hfz63_1⟩ := k2 BK116.out
            have hnb64 := NB120_105.out
            have hnc64 := NB105_120.out
            have hnb65 := NB120_109.out
            have hnc65 := NB109_120.out
            have hnb66 := NB120_124.out
            have hnc66 := NB124_120.out
            have hnb67 := NB120_128.out
            have hnc67 := NB128_120.out
            obtain ⟨hcz68_0, hcz68_1, hfz68_0, hfz68_1⟩ := k2 BK120.out
            go_wp2
            go_meet
            case rel => exact ⟨_, (true), (by first | rfl | (simp; done) | (simp [*]; done)), H', ⟨by have := HK1.out; first | omega | exact Nat.le_refl _⟩, ⟨by refine bk ?_; exact BK105.out⟩, ⟨by refine bk ?_; exact BK109.out⟩, ⟨by refine bk ?_; exact BK116.out⟩, ⟨by refine bk ?_; exact BK120.out⟩, ⟨by refine bk ?_; exact BK124.out⟩, ⟨by refine bk ?_; refine blk_put (cs := #[.int .i64 t125, .int .i64 0]) ?_ 1 _ rfl; refine bk ?_; refine blk_put (cs := #[.int .i64 0, .int .i64 0]) ?_ 0 _ rfl; refine bk ?_; exact BK128.out⟩, ⟨by repeat (first | (with_reducible first | exact HB.out | apply below_alloc | apply pw_below_drewN | apply below_drew1 | refine below_set ?_ GE105.out | refine below_set ?_ GE109.out | refine below_set ?_ GE116.out | refine below_set ?_ GE120.out | refine below_set ?_ GE124.out | refine below_set ?_ GE128.out) | exact HB.out)⟩⟩
          rw [if_neg c57] at H
          have c57b0 : (!(t113 == t117) || (!(t114 == t118))) = false := by simpa using c57
          clear c57
          (first | rw [c57b0] | (simp only [i64_w, i32_w]; rw [c57b0]) | skip)
          by_cases c69 : (t115 != t119) = true
          · rw [if_pos c69] at H
            have c69b0 : (t115 != t119) = true := c69
            (try (have c69b1 : decide (t115 = t119) = false := by simpa using c69))
            (try (have c69b2 : (t115 == t119) = false := by simpa using c69))
            (try (have c69b3 : ¬ (t115 = t119) := by simpa using c69))
            clear c69
            have H' := Aside0.mk H
            clear H
            have hnb70 := NB116_105.out
            have hnc70 := NB105_116.out
            have hnb71 := NB116_109.out
            have hnc71 := NB109_116.out
            have hnb72 := NB116_120.out
            have hnc72 := NB120_116.out
            have hnb73 := NB116_124.out
            have hnc73 := NB124_116.out
            have hnb74 := NB116_128.out
            have hnc74 := NB128_116.out
            obtain ⟨hcz75_0, hcz75_1, hfz75_0, hfz75_1⟩ := k2 BK116.out
            have hnb76 := NB120_105.out
            have hnc76 := NB105_120.out
            have hnb77 := NB120_109.out
            have hnc77 := NB109_120.out
            have hnb78 := NB120_124.out
            have hnc78 := NB124_120.out
            have hnb79 := NB120_128.out
            have hnc79 := NB128_120.out
            obtain ⟨hcz80_0, hcz80_1, hfz80_0, hfz80_1⟩ := k2 BK120.out
            go_wp2
            go_meet
            case rel => exact ⟨_, (true), (by first | rfl | (simp; done) | (simp [*]; done)), H', ⟨by have := HK1.out; first | omega | exact Nat.le_refl _⟩, ⟨by refine bk ?_; exact BK105.out⟩, ⟨by refine bk ?_; exact BK109.out⟩, ⟨by refine bk ?_; exact BK116.out⟩, ⟨by refine bk ?_; exact BK120.out⟩, ⟨by refine bk ?_; exact BK124.out⟩, ⟨by refine bk ?_; refine blk_put (cs := #[.int .i64 t125, .int .i64 0]) ?_ 1 _ rfl; refine bk ?_; refine blk_put (cs := #[.int .i64 0, .int .i64 0]) ?_ 0 _ rfl; refine bk ?_; exact BK128.out⟩, ⟨by repeat (first | (with_reducible first | exact HB.out | apply below_alloc | apply pw_below_drewN | apply below_drew1 | refine below_set ?_ GE105.out | refine below_set ?_ GE109.out | refine below_set ?_ GE116.out | refine below_set ?_ GE120.out | refine below_set ?_ GE124.out | refine below_set ?_ GE128.out) | exact HB.out)⟩⟩
          rw [if_neg c69] at H
          have c69b0 : (t115 != t119) = false := by simpa using c69
          (try (have c69b1 : decide (t115 = t119) = true := by simpa using c69))
          (try (have c69b2 : (t115 == t119) = true := by simpa using c69))
          clear c69
          by_cases c81 : (!(t121 == t125) || (!(t122 == t126))) = true
          · rw [if_pos c81] at H
            have c81b0 : (!(t121 == t125) || (!(t122 == t126))) = true := c81
            clear c81
            have H' := Aside0.mk H
            clear H
            have hnb82 := NB116_105.out
            have hnc82 := NB105_116.out
            have hnb83 := NB116_109.out
            have hnc83 := NB109_116.out
            have hnb84 := NB116_120.out
            have hnc84 := NB120_116.out
            have hnb85 := NB116_124.out
            have hnc85 := NB124_116.out
            have hnb86 := NB116_128.out
            have hnc86 := NB128_116.out
            obtain ⟨hcz87_0, hcz87_1, hfz87_0, hfz87_1⟩ := k2 BK116.out
            have hnb88 := NB120_105.out
            have hnc88 := NB105_120.out
            have hnb89 := NB120_109.out
            have hnc89 := NB109_120.out
            have hnb90 := NB120_124.out
            have hnc90 := NB124_120.out
            have hnb91 := NB120_128.out
            have hnc91 := NB128_120.out
            obtain ⟨hcz92_0, hcz92_1, hfz92_0, hfz92_1⟩ := k2 BK120.out
            have hnb93 := NB124_105.out
            have hnc93 := NB105_124.out
            have hnb94 := NB124_109.out
            have hnc94 := NB109_124.out
            have hnb95 := NB124_128.out
            have hnc95 := NB128_124.out
            obtain ⟨hcz96_0, hcz96_1, hfz96_0, hfz96_1⟩ := k2 BK124.out
            have hnb97 := NB128_105.out
            have hnc97 := NB105_128.out
            have hnb98 := NB128_109.out
            have hnc98 := NB109_128.out
            obtain ⟨hcz99_0, hcz99_1, hfz99_0, hfz99_1⟩ := k2 BK128.out
            go_wp2
            go_meet
            case rel => exact ⟨_, (true), (by first | rfl | (simp; done) | (simp [*]; done)), H', ⟨by have := HK1.out; first | omega | exact Nat.le_refl _⟩, ⟨by refine bk ?_; exact BK105.out⟩, ⟨by refine bk ?_; exact BK109.out⟩, ⟨by refine bk ?_; exact BK116.out⟩, ⟨by refine bk ?_; exact BK120.out⟩, ⟨by refine bk ?_; exact BK124.out⟩, ⟨by refine bk ?_; refine blk_put (cs := #[.int .i64 t125, .int .i64 0]) ?_ 1 _ rfl; refine bk ?_; refine blk_put (cs := #[.int .i64 0, .int .i64 0]) ?_ 0 _ rfl; refine bk ?_; exact BK128.out⟩, ⟨by repeat (first | (with_reducible first | exact HB.out | apply below_alloc | apply pw_below_drewN | apply below_drew1 | refine below_set ?_ GE105.out | refine below_set ?_ GE109.out | refine below_set ?_ GE116.out | refine below_set ?_ GE120.out | refine below_set ?_ GE124.out | refine below_set ?_ GE128.out) | exact HB.out)⟩⟩
          rw [if_neg c81] at H
          have c81b0 : (!(t121 == t125) || (!(t122 == t126))) = false := by simpa using c81
          clear c81
          have H' := Aside0.mk H
          clear H
          have hnb100 := NB116_105.out
          have hnc100 := NB105_116.out
          have hnb101 := NB116_109.out
          have hnc101 := NB109_116.out
          have hnb102 := NB116_120.out
          have hnc102 := NB120_116.out
          have hnb103 := NB116_124.out
          have hnc103 := NB124_116.out
          have hnb104 := NB116_128.out
          have hnc104 := NB128_116.out
          obtain ⟨hcz105_0, hcz105_1, hfz105_0, hfz105_1⟩ := k2 BK116.out
          have hnb106 := NB120_105.out
          have hnc106 := NB105_120.out
          have hnb107 := NB120_109.out
          have hnc107 := NB109_120.out
          have hnb108 := NB120_124.out
          have hnc108 := NB124_120.out
          have hnb109 := NB120_128.out
          have hnc109 := NB128_120.out
          obtain ⟨hcz110_0, hcz110_1, hfz110_0, hfz110_1⟩ := k2 BK120.out
          have hnb111 := NB124_105.out
          have hnc111 := NB105_124.out
          have hnb112 := NB124_109.out
          have hnc112 := NB109_124.out
          have hnb113 := NB124_128.out
          have hnc113 := NB128_124.out
          obtain ⟨hcz114_0, hcz114_1, hfz114_0, hfz114_1⟩ := k2 BK124.out
          have hnb115 := NB128_105.out
          have hnc115 := NB105_128.out
          have hnb116 := NB128_109.out
          have hnc116 := NB109_128.out
          obtain ⟨hcz117_0, hcz117_1, hfz117_0, hfz117_1⟩ := k2 BK128.out
          go_wp2
          go_meet
          case rel => exact ⟨_, ((t123 != t127)), (by first | rfl | (simp; done) | (simp [*]; done)), H', ⟨by have := HK1.out; first | omega | exact Nat.le_refl _⟩, ⟨by refine bk ?_; exact BK105.out⟩, ⟨by refine bk ?_; exact BK109.out⟩, ⟨by refine bk ?_; exact BK116.out⟩, ⟨by refine bk ?_; exact BK120.out⟩, ⟨by refine bk ?_; exact BK124.out⟩, ⟨by refine bk ?_; refine blk_put (cs := #[.int .i64 t125, .int .i64 0]) ?_ 1 _ rfl; refine bk ?_; refine blk_put (cs := #[.int .i64 0, .int .i64 0]) ?_ 0 _ rfl; refine bk ?_; exact BK128.out⟩, ⟨by repeat (first | (with_reducible first | exact HB.out | apply below_alloc | apply pw_below_drewN | apply below_drew1 | refine below_set ?_ GE105.out | refine below_set ?_ GE109.out | refine below_set ?_ GE116.out | refine below_set ?_ GE120.out | refine below_set ?_ GE124.out | refine below_set ?_ GE128.out) | exact HB.out)⟩⟩
        clear HC30
        try clear c20
        try clear c20b0
        try clear hcz35_0
        try clear hcz35_1
        try clear hcz41_0
        try clear hcz41_1
        try clear hcz48_0
        try clear hcz48_1
        try clear hcz56_0
        try clear hcz56_1
        try clear hfz35_0
        try clear hfz35_1
        try clear hfz41_0
        try clear hfz41_1
        try clear hfz48_0
        try clear hfz48_1
        try clear hfz56_0
        try clear hfz56_1
        obtain ⟨kq, x87_29, rfl, HA, HJ29, BK105, BK109, BK116, BK120, BK124, BK128, HB⟩ := hcut
        obtain _ | kj29 := kq
        · exact absurd HA.out (by simp [surtitlelaw3_RatioRows.j1])
        have H := HA.out
        clear HA
        simp only [surtitlelaw3_RatioRows.j1] at H
        by_cases c118 : x87_29 = true
        · subst c118
          have H1 : (some false) = some r := by rw [if_pos rfl] at H; exact H
          clear H
          have H := H1
          clear H1
          obtain rfl := Option.some.inj H
          go_wp2
          go_ret
          exact ⟨by first | rfl | (simp [errW_none, errW_some] <;> rfl) | (simp [*, errW_none, errW_some] <;> rfl), by repeat (first | (with_reducible first | exact HB.out | apply below_alloc | apply pw_below_drewN | apply below_drew1 | refine below_set ?_ GE105.out | refine below_set ?_ GE109.out | refine below_set ?_ GE116.out | refine below_set ?_ GE120.out | refine below_set ?_ GE124.out | refine below_set ?_ GE128.out) | exact HB.out)⟩
        replace c118 := Bool.eq_false_iff.mpr c118
        subst c118
        have H1 : (surtitlelaw3_RatioRows.l1 kj29 l0 1) = some r := by rw [if_neg (show ¬ (false = true) by decide)] at H; exact H
        clear H
        have H := H1
        clear H1
        have H' := Aside0.mk H
        clear H
        go_wp2
        go_loopg [16] kj29 (fun kq v16 w' => ∃ (x16_3 : Int), v16 = .int .i64 x16_3 ∧ Aside0 (surtitlelaw3_RatioRows.l1 kq l0 x16_3 = some r) ∧ Aside0 (kq ≤ kj29) ∧ Aside0 (w'.heap[gb105]? = some (.cells #[.int .i64 t102, .int .i64 t103] 24 (0, 0))) ∧ Aside0 (w'.heap[gb109]? = some (.cells #[.int .i64 t106, .int .i64 t107] 24 (0, 0))) ∧ Aside0 (w'.heap[gb116]? = some (.cells #[.int .i64 t113, .int .i64 t114] 24 (0, 0))) ∧ Aside0 (w'.heap[gb120]? = some (.cells #[.int .i64 t117, .int .i64 t118] 24 (0, 0))) ∧ Aside0 (w'.heap[gb124]? = some (.cells #[.int .i64 t121, .int .i64 t122] 24 (0, 0))) ∧ Aside0 (w'.heap[gb128]? = some (.cells #[.int .i64 t125, .int .i64 t126] 24 (0, 0))) ∧ Aside0 (Below w.heap.size w w'))
        case atStart => exact ⟨(1), (by first | rfl | (simp; done) | (simp [*]; done)), H', ⟨Nat.le_refl _⟩, ⟨by refine bk ?_; exact BK105.out⟩, ⟨by refine bk ?_; exact BK109.out⟩, ⟨by refine bk ?_; exact BK116.out⟩, ⟨by refine bk ?_; exact BK120.out⟩, ⟨by refine bk ?_; exact BK124.out⟩, ⟨by refine bk ?_; exact BK128.out⟩, ⟨by repeat (first | (with_reducible first | exact HB.out | apply below_alloc | apply pw_below_drewN | apply below_drew1 | refine below_set ?_ GE105.out | refine below_set ?_ GE109.out | refine below_set ?_ GE116.out | refine below_set ?_ GE120.out | refine below_set ?_ GE124.out | refine below_set ?_ GE128.out) | exact HB.out)⟩⟩
        case round =>
          clear H'
          try clear c118
          obtain ⟨x16_3, rfl, HA, HK3, BK105, BK109, BK116, BK120, BK124, BK128, HB⟩ := hrel
          obtain _ | k3 := gk
          · exact absurd HA.out (by simp [surtitlelaw3_RatioRows.l1])
          have H := HA.out
          clear HA
          simp only [surtitlelaw3_RatioRows.l1] at H
          by_cases c119 : x16_3 < (l0.length : Int)
          · rw [if_pos c119] at H
            have c119b0 : decide (x16_3 < (l0.length : Int)) = true := decide_eq_true c119
            clear c119
            obtain ⟨ji120, hji120⟩ : ∃ j_ : Int, (wrap64 (x16_3 - 1)) = j_ := ⟨_, rfl⟩
            replace H : (if 0 ≤ (ji120) then (if (ji120) < (l0.length : Int) then (if 0 ≤ x16_3 then ((ratio_Cmp.f ((PSn.rd_T24 l0 (ji120)).f0) ((PSn.rd_T24 l0 (ji120)).f1) ((PSn.rd_T24 l0 x16_3).f0) ((PSn.rd_T24 l0 x16_3).f1)).bind fun t131 => ((surtitleref3_Cmp.f ((PSn.rd_T24 l0 (ji120)).f0) ((PSn.rd_T24 l0 (ji120)).f1) ((PSn.rd_T24 l0 x16_3).f0) ((PSn.rd_T24 l0 x16_3).f1)).bind fun t134 => (if t131 = t134 then (surtitlelaw3_RatioRows.l1 k3 l0 (wrap64 (x16_3 + 1))) else (some false)))) else (none)) else (none)) else (none)) = some r := by first | (rw [hji120] at H; exact H) | (simp only [hji120] at H ⊢; exact H)
            have hji120w : (IntKind.i64.wrap (x16_3 - 1)) = ji120 := (i64_w _).trans hji120
            by_cases c121 : 0 ≤ (ji120)
            · rw [if_pos c121] at H
              have c121b0 : decide (0 ≤ (ji120)) = true := decide_eq_true c121
              clear c121
              by_cases c122 : (ji120) < (l0.length : Int)
              · rw [if_pos c122] at H
                have c122b0 : decide ((ji120) < (l0.length : Int)) = true := decide_eq_true c122
                clear c122
                by_cases c123 : 0 ≤ x16_3
                · rw [if_pos c123] at H
                  have c123b0 : decide (0 ≤ x16_3) = true := decide_eq_true c123
                  clear c123
                  replace H := Option.bind_eq_some_iff.mp H
                  obtain ⟨t131, A1240, H⟩ := H
                  replace H : ((surtitleref3_Cmp.f ((PSn.rd_T24 l0 (ji120)).f0) ((PSn.rd_T24 l0 (ji120)).f1) ((PSn.rd_T24 l0 x16_3).f0) ((PSn.rd_T24 l0 x16_3).f1)).bind fun t134 => (if t131 = t134 then (surtitlelaw3_RatioRows.l1 k3 l0 (wrap64 (x16_3 + 1))) else (some false))) = some r := H
                  have A124 := Aside0.mk A1240
                  clear A1240
                  replace H := Option.bind_eq_some_iff.mp H
                  obtain ⟨t134, A1250, H⟩ := H
                  replace H : (if t131 = t134 then (surtitlelaw3_RatioRows.l1 k3 l0 (wrap64 (x16_3 + 1))) else (some false)) = some r := H
                  have A125 := Aside0.mk A1250
                  clear A1250
                  by_cases c126 : t131 = t134
                  · rw [if_pos c126] at H
                    have c126b0 : (t131 == t134) = true := beq_iff_eq.mpr c126
                    have c126b1 : (t131 != t134) = false := bne_eq_false_iff_eq.mpr c126
                    clear c126
                    have H' := Aside0.mk H
                    clear H
                    try go_wp2
                    have n0_ := Aside0.mk (blk_drew BK105.out)
                    have n1_ := Aside0.mk (blk_drew BK109.out)
                    have n2_ := Aside0.mk (blk_drew BK116.out)
                    have n3_ := Aside0.mk (blk_drew BK120.out)
                    have n4_ := Aside0.mk (blk_drew BK124.out)
                    have n5_ := Aside0.mk (blk_drew BK128.out)
                    have n6_ := Aside0.mk (below_drew1 HB.out)
                    clear BK105
                    clear BK109
                    clear BK116
                    clear BK120
                    clear BK124
                    clear BK128
                    clear HB
                    have BK105 := n0_
                    have BK109 := n1_
                    have BK116 := n2_
                    have BK120 := n3_
                    have BK124 := n4_
                    have BK128 := n5_
                    have HB := n6_
                    clear n0_ n1_ n2_ n3_ n4_ n5_ n6_
                    have p129 : 0 ≤ ((ji120) : Int) := of_decide_eq_true (by first | (with_reducible assumption) | assumption)
                    have q129 : (ji120) < (l0.length : Int) := of_decide_eq_true (by first | (with_reducible assumption) | assumption)
                    obtain ⟨ad129, e129, hx129_0, hx129_1⟩ := PSn.at_T24 HR0.out (ji120) p129 q129
                    have hw129_1 := hx129_1
                    have hw129_0 := hx129_0
                    cases e129
                    replace hx129_0 := (HB.out.cell (World.block_lt_of_cell? w _ hx129_0)).trans hx129_0
                    replace hx129_1 := (HB.out.cell (World.block_lt_of_cell? w _ hx129_1)).trans hx129_1
                    replace p129 := eq_true p129
                    replace q129 := eq_true q129
                    have p130 : 0 ≤ (x16_3 : Int) := of_decide_eq_true (by first | (with_reducible assumption) | assumption)
                    have q130 : x16_3 < (l0.length : Int) := of_decide_eq_true (by first | (with_reducible assumption) | assumption)
                    obtain ⟨ad130, e130, hx130_0, hx130_1⟩ := PSn.at_T24 HR0.out x16_3 p130 q130
                    have hw130_1 := hx130_1
                    have hw130_0 := hx130_0
                    obtain rfl : ad129 = ad130 := (by injection e130)
                    replace hx130_0 := (HB.out.cell (World.block_lt_of_cell? w _ hx130_0)).trans hx130_0
                    replace hx130_1 := (HB.out.cell (World.block_lt_of_cell? w _ hx130_1)).trans hx130_1
                    replace p130 := eq_true p130
                    replace q130 := eq_true q130
                    have p132 : 0 ≤ ((ji120) : Int) := of_decide_eq_true (by first | (with_reducible assumption) | assumption)
                    have q132 : (ji120) < (l0.length : Int) := of_decide_eq_true (by first | (with_reducible assumption) | assumption)
                    obtain ⟨ad132, e132, hx132_0, hx132_1⟩ := PSn.at_T24 HR0.out (ji120) p132 q132
                    have hw132_1 := hx132_1
                    have hw132_0 := hx132_0
                    obtain rfl : ad129 = ad132 := (by injection e132)
                    replace hx132_0 := (HB.out.cell (World.block_lt_of_cell? w _ hx132_0)).trans hx132_0
                    replace hx132_1 := (HB.out.cell (World.block_lt_of_cell? w _ hx132_1)).trans hx132_1
                    replace p132 := eq_true p132
                    replace q132 := eq_true q132
                    have p133 : 0 ≤ (x16_3 : Int) := of_decide_eq_true (by first | (with_reducible assumption) | assumption)
                    have q133 : x16_3 < (l0.length : Int) := of_decide_eq_true (by first | (with_reducible assumption) | assumption)
                    obtain ⟨ad133, e133, hx133_0, hx133_1⟩ := PSn.at_T24 HR0.out x16_3 p133 q133
                    have hw133_1 := hx133_1
                    have hw133_0 := hx133_0
                    obtain rfl : ad129 = ad133 := (by injection e133)
                    replace hx133_0 := (HB.out.cell (World.block_lt_of_cell? w _ hx133_0)).trans hx133_0
                    replace hx133_1 := (HB.out.cell (World.block_lt_of_cell? w _ hx133_1)).trans hx133_1
                    replace p133 := eq_true p133
                    replace q133 := eq_true q133
                    refine start_ (n := 21) (S := fun w' => w'.cell? (ad129.add (((ji120)).toNat * 2)) = some (.int .i64 ((PSn.rd_T24 l0 (ji120)).f0)) ∧ w'.cell? ⟨(ad129.add (((ji120)).toNat * 2)).block, (ad129.add (((ji120)).toNat * 2)).off + 1, none⟩ = some (.int .i64 ((PSn.rd_T24 l0 (ji120)).f1)) ∧ w'.cell? (ad129.add ((x16_3).toNat * 2)) = some (.int .i64 ((PSn.rd_T24 l0 x16_3).f0)) ∧ w'.cell? ⟨(ad129.add ((x16_3).toNat * 2)).block, (ad129.add ((x16_3).toNat * 2)).off + 1, none⟩ = some (.int .i64 ((PSn.rd_T24 l0 x16_3).f1)) ∧ w'.cell? (ad129.add (((ji120)).toNat * 2)) = some (.int .i64 ((PSn.rd_T24 l0 (ji120)).f0)) ∧ w'.cell? ⟨(ad129.add (((ji120)).toNat * 2)).block, (ad129.add (((ji120)).toNat * 2)).off + 1, none⟩ = some (.int .i64 ((PSn.rd_T24 l0 (ji120)).f1)) ∧ w'.cell? (ad129.add ((x16_3).toNat * 2)) = some (.int .i64 ((PSn.rd_T24 l0 x16_3).f0)) ∧ w'.cell? ⟨(ad129.add ((x16_3).toNat * 2)).block, (ad129.add ((x16_3).toNat * 2)).off + 1, none⟩ = some (.int .i64 ((PSn.rd_T24 l0 x16_3).f1))) (ds := []) #[false, false, false, false, false, false, false, false, false, false, false, false, false, false, false, false, false, false, false, false, false] (by kernel_rfl) rfl rfl ⟨((HB.out.cell (World.block_lt_of_cell? w _ hw129_0)).trans hw129_0), ((HB.out.cell (World.block_lt_of_cell? w _ hw129_1)).trans hw129_1), ((HB.out.cell (World.block_lt_of_cell? w _ hw130_0)).trans hw130_0), ((HB.out.cell (World.block_lt_of_cell? w _ hw130_1)).trans hw130_1), ((HB.out.cell (World.block_lt_of_cell? w _ hw132_0)).trans hw132_0), ((HB.out.cell (World.block_lt_of_cell? w _ hw132_1)).trans hw132_1), ((HB.out.cell (World.block_lt_of_cell? w _ hw133_0)).trans hw133_0), ((HB.out.cell (World.block_lt_of_cell? w _ hw133_1)).trans hw133_1)⟩ (fun hHeld => ?_); refine with_tabW surtitlelaw3_RatioRows.tab23 surtitlelaw3_RatioRows.bits23 (fun HT_ HW_ => ?_)
                    generalize wr.drew = w127 at BK105 BK109 BK116 BK120 BK124 BK128 HB hx129_0 hx129_1 hx130_0 hx130_1 hx132_0 hx132_1 hx133_0 hx133_1 hHeld ⊢
                    refine pure_ (i := 0) (N := some 94) (v := ?_) (a' := ?_) #[true, false, false, false, false, false, false, false, false, false, false, false, false, false, false, false, false, false, false, false, false] rfl rfl (any_of HT_.out (by kernel_rfl)) (fun _ _ _ h => h) (Or.inl ⟨by rfl, ?_⟩) ?_ ?_
                    rotate_left
                    · intro w'
                      go_simp
                      with_reducible rfl
                    rotate_left
                    · simp only [Act.put, List.setIfInBounds_toArray, List.set_cons_zero, List.set_cons_succ, i64_w, i32_w]
                      rfl
                    refine pure_ (i := 1) (N := some 95) (v := ?_) (a' := ?_) #[true, true, false, false, false, false, false, false, false, false, false, false, false, false, false, false, false, false, false, false, false] rfl rfl (any_of HT_.out (by kernel_rfl)) (fun _ _ _ h => h) (Or.inl ⟨by rfl, ?_⟩) ?_ ?_
                    rotate_left
                    · intro w'
                      go_simp
                      with_reducible rfl
                    rotate_left
                    · simp only [Act.put, List.setIfInBounds_toArray, List.set_cons_zero, List.set_cons_succ, i64_w, i32_w]
                      rfl
                    refine pure_ (i := 2) (N := some 96) (v := ?_) (a' := ?_) #[true, true, true, false, false, false, false, false, false, false, false, false, false, false, false, false, false, false, false, false, false] rfl rfl (any_of HT_.out (by kernel_rfl)) (fun _ _ _ h => h) (Or.inl ⟨by rfl, ?_⟩) ?_ ?_
                    rotate_left
                    · intro w'
                      go_simp
                      with_reducible rfl
                    rotate_left
                    · simp only [Act.put, List.setIfInBounds_toArray, List.set_cons_zero, List.set_cons_succ, i64_w, i32_w]
                      rfl
                    refine pure_ (i := 3) (N := some 97) (v := ?_) (a' := ?_) #[true, true, true, true, false, false, false, false, false, false, false, false, false, false, false, false, false, false, false, false, false] rfl rfl (any_of HT_.out (by kernel_rfl)) (fun _ _ _ h => h) (Or.inl ⟨by rfl, ?_⟩) ?_ ?_
                    rotate_left
                    · intro w'
                      go_simp
                      with_reducible rfl
                    rotate_left
                    · simp only [Act.put, List.setIfInBounds_toArray, List.set_cons_zero, List.set_cons_succ, i64_w, i32_w]
                      rfl
                    refine pure_ (i := 5) (N := some 99) (v := ?_) (a' := ?_) #[true, true, true, true, false, true, false, false, false, false, false, false, false, false, false, false, false, false, false, false, false] rfl rfl (any_of HT_.out (by kernel_rfl)) (fun _ _ _ h => h) (Or.inl ⟨by rfl, ?_⟩) ?_ ?_
                    rotate_left
                    · intro w'
                      go_simp
                      with_reducible rfl
                    rotate_left
                    · simp only [Act.put, List.setIfInBounds_toArray, List.set_cons_zero, List.set_cons_succ, i64_w, i32_w]
                      rfl
                    refine pure_ (i := 6) (N := some 100) (v := ?_) (a' := ?_) #[true, true, true, true, false, true, true, false, false, false, false, false, false, false, false, false, false, false, false, false, false] rfl rfl (any_of HT_.out (by kernel_rfl)) (fun _ _ _ h => h) (Or.inl ⟨by rfl, ?_⟩) ?_ ?_
                    rotate_left
                    · intro w'
                      go_simp
                      with_reducible rfl
                    rotate_left
                    · simp only [Act.put, List.setIfInBounds_toArray, List.set_cons_zero, List.set_cons_succ, i64_w, i32_w]
                      rfl
                    refine pure_ (i := 7) (N := some 101) (v := ?_) (a' := ?_) #[true, true, true, true, false, true, true, true, false, false, false, false, false, false, false, false, false, false, false, false, false] rfl rfl (any_of HT_.out (by kernel_rfl)) (fun _ _ _ h => h) (Or.inl ⟨by rfl, ?_⟩) ?_ ?_
                    rotate_left
                    · intro w'
                      go_simp
                      with_reducible rfl
                    rotate_left
                    · simp only [Act.put, List.setIfInBounds_toArray, List.set_cons_zero, List.set_cons_succ, i64_w, i32_w]
                      rfl
                    refine pure_ (i := 10) (N := some 104) (v := ?_) (a' := ?_) #[true, true, true, true, false, true, true, true, false, false, true, false, false, false, false, false, false, false, false, false, false] rfl rfl (any_of HT_.out (by kernel_rfl)) (fun _ _ _ h => h) (Or.inl ⟨by rfl, ?_⟩) ?_ ?_
                    rotate_left
                    · intro w'
                      go_simp
                      with_reducible rfl
                    rotate_left
                    · simp only [Act.put, List.setIfInBounds_toArray, List.set_cons_zero, List.set_cons_succ, i64_w, i32_w]
                      rfl
                    refine pure_ (i := 11) (N := some 105) (v := ?_) (a' := ?_) #[true, true, true, true, false, true, true, true, false, false, true, true, false, false, false, false, false, false, false, false, false] rfl rfl (any_of HT_.out (by kernel_rfl)) (fun _ _ _ h => h) (Or.inl ⟨by rfl, ?_⟩) ?_ ?_
                    rotate_left
                    · intro w'
                      go_simp
                      with_reducible rfl
                    rotate_left
                    · simp only [Act.put, List.setIfInBounds_toArray, List.set_cons_zero, List.set_cons_succ, i64_w, i32_w]
                      rfl
                    refine pure_ (i := 12) (N := some 106) (v := ?_) (a' := ?_) #[true, true, true, true, false, true, true, true, false, false, true, true, true, false, false, false, false, false, false, false, false] rfl rfl (any_of HT_.out (by kernel_rfl)) (fun _ _ _ h => h) (Or.inl ⟨by rfl, ?_⟩) ?_ ?_
                    rotate_left
                    · intro w'
                      go_simp
                      with_reducible rfl
                    rotate_left
                    · simp only [Act.put, List.setIfInBounds_toArray, List.set_cons_zero, List.set_cons_succ, i64_w, i32_w]
                      rfl
                    refine pure_ (i := 13) (N := some 107) (v := ?_) (a' := ?_) #[true, true, true, true, false, true, true, true, false, false, true, true, true, true, false, false, false, false, false, false, false] rfl rfl (any_of HT_.out (by kernel_rfl)) (fun _ _ _ h => h) (Or.inl ⟨by rfl, ?_⟩) ?_ ?_
                    rotate_left
                    · intro w'
                      go_simp
                      with_reducible rfl
                    rotate_left
                    · simp only [Act.put, List.setIfInBounds_toArray, List.set_cons_zero, List.set_cons_succ, i64_w, i32_w]
                      rfl
                    refine pure_ (i := 15) (N := some 109) (v := ?_) (a' := ?_) #[true, true, true, true, false, true, true, true, false, false, true, true, true, true, false, true, false, false, false, false, false] rfl rfl (any_of HT_.out (by kernel_rfl)) (fun _ _ _ h => h) (Or.inl ⟨by rfl, ?_⟩) ?_ ?_
                    rotate_left
                    · intro w'
                      go_simp
                      with_reducible rfl
                    rotate_left
                    · simp only [Act.put, List.setIfInBounds_toArray, List.set_cons_zero, List.set_cons_succ, i64_w, i32_w]
                      rfl
                    refine pure_ (i := 16) (N := some 110) (v := ?_) (a' := ?_) #[true, true, true, true, false, true, true, true, false, false, true, true, true, true, false, true, true, false, false, false, false] rfl rfl (any_of HT_.out (by kernel_rfl)) (fun _ _ _ h => h) (Or.inl ⟨by rfl, ?_⟩) ?_ ?_
                    rotate_left
                    · intro w'
                      go_simp
                      with_reducible rfl
                    rotate_left
                    · simp only [Act.put, List.setIfInBounds_toArray, List.set_cons_zero, List.set_cons_succ, i64_w, i32_w]
                      rfl
                    refine pure_ (i := 17) (N := some 111) (v := ?_) (a' := ?_) #[true, true, true, true, false, true, true, true, false, false, true, true, true, true, false, true, true, true, false, false, false] rfl rfl (any_of HT_.out (by kernel_rfl)) (fun _ _ _ h => h) (Or.inl ⟨by rfl, ?_⟩) ?_ ?_
                    rotate_left
                    · intro w'
                      go_simp
                      with_reducible rfl
                    rotate_left
                    · simp only [Act.put, List.setIfInBounds_toArray, List.set_cons_zero, List.set_cons_succ, i64_w, i32_w]
                      rfl
                    refine take_ (i := 4) (N := some 98) (v := ?_) (a' := ?_) #[true, true, true, true, true, true, true, true, false, false, true, true, true, true, false, true, true, true, false, false, false] rfl rfl (take_ofW HT_.out HW_.out (by kernel_rfl)) (fun _ _ _ h => h) (Or.inl ⟨by rfl, ?_⟩) hHeld ?_ ?_
                    rotate_left
                    · rintro w' ⟨s0, s1, s2, s3, s4, s5, s6, s7⟩
                      go_simp
                      with_reducible rfl
                    rotate_left
                    · simp only [Act.put, List.setIfInBounds_toArray, List.set_cons_zero, List.set_cons_succ, i64_w, i32_w]
                      rfl
                    refine take_ (i := 8) (N := some 102) (v := ?_) (a' := ?_) #[true, true, true, true, true, true, true, true, true, false, true, true, true, true, false, true, true, true, false, false, false] rfl rfl (take_ofW HT_.out HW_.out (by kernel_rfl)) (fun _ _ _ h => h) (Or.inl ⟨by rfl, ?_⟩) hHeld ?_ ?_
                    rotate_left
                    · rintro w' ⟨s0, s1, s2, s3, s4, s5, s6, s7⟩
                      go_simp
                      with_reducible rfl
                    rotate_left
                    · simp only [Act.put, List.setIfInBounds_toArray, List.set_cons_zero, List.set_cons_succ, i64_w, i32_w]
                      rfl
                    refine take_ (i := 14) (N := some 108) (v := ?_) (a' := ?_) #[true, true, true, true, true, true, true, true, true, false, true, true, true, true, true, true, true, true, false, false, false] rfl rfl (take_ofW HT_.out HW_.out (by kernel_rfl)) (fun _ _ _ h => h) (Or.inl ⟨by rfl, ?_⟩) hHeld ?_ ?_
                    rotate_left
                    · rintro w' ⟨s0, s1, s2, s3, s4, s5, s6, s7⟩
                      go_simp
                      with_reducible rfl
                    rotate_left
                    · simp only [Act.put, List.setIfInBounds_toArray, List.set_cons_zero, List.set_cons_succ, i64_w, i32_w]
                      rfl
                    refine take_ (i := 18) (N := some 112) (v := ?_) (a' := ?_) #[true, true, true, true, true, true, true, true, true, false, true, true, true, true, true, true, true, true, true, false, false] rfl rfl (take_ofW HT_.out HW_.out (by kernel_rfl)) (fun _ _ _ h => h) (Or.inl ⟨by rfl, ?_⟩) hHeld ?_ ?_
                    rotate_left
                    · rintro w' ⟨s0, s1, s2, s3, s4, s5, s6, s7⟩
                      go_simp
                      with_reducible rfl
                    rotate_left
                    · simp only [Act.put, List.setIfInBounds_toArray, List.set_cons_zero, List.set_cons_succ, i64_w, i32_w]
                      rfl
                    refine one_ (i := 9) (N := some 103) #[true, true, true, true, true, true, true, true, true, true, true, true, true, true, true, true, true, true, true, false, false] rfl rfl (one_of HT_.out (by kernel_rfl)) (by decide) (fun K hK => ?_)
                    refine goes_ Tryd.func32 (by kernel_rfl) rfl #[.agg #[.int .i64 ((PSn.rd_T24 l0 (ji120)).f0), .int .i64 ((PSn.rd_T24 l0 (ji120)).f1)], .agg #[.int .i64 ((PSn.rd_T24 l0 x16_3).f0), .int .i64 ((PSn.rd_T24 l0 x16_3).f1)]] (by rfl) rfl rfl (by (try simp only [List.map_toArray, List.map_cons, List.map_nil]); first | done | (simp only [hji120]; rfl) | rfl | (simp only [List.length_drop, List.length_take]; rfl)) ?_
                    with_reducible refine (ratio_Cmp.calls ((PSn.rd_T24 l0 (ji120)).f0) ((PSn.rd_T24 l0 (ji120)).f1) ((PSn.rd_T24 l0 x16_3).f0) ((PSn.rd_T24 l0 x16_3).f1) t131 _ A124.out).mono ?_
                    rintro e w128 ⟨rfl, hb⟩
                    refine ⟨_, rfl, ?_⟩
                    have n0_ := ab hb BK105
                    have n1_ := ab hb BK109
                    have n2_ := ab hb BK116
                    have n3_ := ab hb BK120
                    have n4_ := ab hb BK124
                    have n5_ := ab hb BK128
                    have n6_ := hs hb HB
                    clear BK105
                    clear BK109
                    clear BK116
                    clear BK120
                    clear BK124
                    clear BK128
                    clear HB
                    have BK105 := n0_
                    have BK109 := n1_
                    have BK116 := n2_
                    have BK120 := n3_
                    have BK124 := n4_
                    have BK128 := n5_
                    have HB := n6_
                    clear n0_ n1_ n2_ n3_ n4_ n5_ n6_
                    (try clear hb)
                    (try clear hb2)
                    (try clear hk)
                    (try clear hi)
                    refine hK.out _ _ ⟨((HB.out.cell (World.block_lt_of_cell? w _ hw129_0)).trans hw129_0), ((HB.out.cell (World.block_lt_of_cell? w _ hw129_1)).trans hw129_1), ((HB.out.cell (World.block_lt_of_cell? w _ hw130_0)).trans hw130_0), ((HB.out.cell (World.block_lt_of_cell? w _ hw130_1)).trans hw130_1), ((HB.out.cell (World.block_lt_of_cell? w _ hw132_0)).trans hw132_0), ((HB.out.cell (World.block_lt_of_cell? w _ hw132_1)).trans hw132_1), ((HB.out.cell (World.block_lt_of_cell? w _ hw133_0)).trans hw133_0), ((HB.out.cell (World.block_lt_of_cell? w _ hw133_1)).trans hw133_1)⟩ (fun hHeld => ?_)
                    clear hK K
                    refine norm_ (a' := ?_) ?_ ?_
                    rotate_left
                    · show Act.put _ (some 103) _ = _
                      simp only [Act.put, List.setIfInBounds_toArray, List.set_cons_zero, List.set_cons_succ, i64_w, i32_w]
                      rfl
                    refine one_ (i := 19) (N := some 113) #[true, true, true, true, true, true, true, true, true, true, true, true, true, true, true, true, true, true, true, true, false] rfl rfl (one_of HT_.out (by kernel_rfl)) (by decide) (fun K hK => ?_)
                    refine goes_ Tryd.func39 (by kernel_rfl) rfl #[.agg #[.int .i64 ((PSn.rd_T24 l0 (ji120)).f0), .int .i64 ((PSn.rd_T24 l0 (ji120)).f1)], .agg #[.int .i64 ((PSn.rd_T24 l0 x16_3).f0), .int .i64 ((PSn.rd_T24 l0 x16_3).f1)]] (by rfl) rfl rfl (by (try simp only [List.map_toArray, List.map_cons, List.map_nil]); first | done | (simp only [hji120]; rfl) | rfl | (simp only [List.length_drop, List.length_take]; rfl)) ?_
                    with_reducible refine (surtitleref3_Cmp.calls ((PSn.rd_T24 l0 (ji120)).f0) ((PSn.rd_T24 l0 (ji120)).f1) ((PSn.rd_T24 l0 x16_3).f0) ((PSn.rd_T24 l0 x16_3).f1) t134 _ A125.out).mono ?_
                    rintro e w129 ⟨rfl, hb⟩
                    refine ⟨_, rfl, ?_⟩
                    have n0_ := ab hb BK105
                    have n1_ := ab hb BK109
                    have n2_ := ab hb BK116
                    have n3_ := ab hb BK120
                    have n4_ := ab hb BK124
                    have n5_ := ab hb BK128
                    have n6_ := hs hb HB
                    clear BK105
                    clear BK109
                    clear BK116
                    clear BK120
                    clear BK124
                    clear BK128
                    clear HB
                    have BK105 := n0_
                    have BK109 := n1_
                    have BK116 := n2_
                    have BK120 := n3_
                    have BK124 := n4_
                    have BK128 := n5_
                    have HB := n6_
                    clear n0_ n1_ n2_ n3_ n4_ n5_ n6_
                    (try clear hb)
                    (try clear hb2)
                    (try clear hk)
                    (try clear hi)
                    refine hK.out _ _ ⟨((HB.out.cell (World.block_lt_of_cell? w _ hw129_0)).trans hw129_0), ((HB.out.cell (World.block_lt_of_cell? w _ hw129_1)).trans hw129_1), ((HB.out.cell (World.block_lt_of_cell? w _ hw130_0)).trans hw130_0), ((HB.out.cell (World.block_lt_of_cell? w _ hw130_1)).trans hw130_1), ((HB.out.cell (World.block_lt_of_cell? w _ hw132_0)).trans hw132_0), ((HB.out.cell (World.block_lt_of_cell? w _ hw132_1)).trans hw132_1), ((HB.out.cell (World.block_lt_of_cell? w _ hw133_0)).trans hw133_0), ((HB.out.cell (World.block_lt_of_cell? w _ hw133_1)).trans hw133_1)⟩ (fun hHeld => ?_)
                    clear hK K
                    refine norm_ (a' := ?_) ?_ ?_
                    rotate_left
                    · show Act.put _ (some 113) _ = _
                      simp only [Act.put, List.setIfInBounds_toArray, List.set_cons_zero, List.set_cons_succ, i64_w, i32_w]
                      rfl
                    refine pure_ (i := 20) (N := some 114) (v := ?_) (a' := ?_) #[true, true, true, true, true, true, true, true, true, true, true, true, true, true, true, true, true, true, true, true, true] rfl rfl (any_of HT_.out (by kernel_rfl)) (fun _ _ _ h => h) (Or.inl ⟨by rfl, ?_⟩) ?_ ?_
                    rotate_left
                    · intro w'
                      go_simp
                      with_reducible rfl
                    rotate_left
                    · simp only [Act.put, List.setIfInBounds_toArray, List.set_cons_zero, List.set_cons_succ, i64_w, i32_w]
                      rfl
                    refine done_ (done_of HT_.out (by kernel_rfl)) ?_
                    try go_wp2
                    go_roundg k3
                    case measure => have := HK1.out; have := HJ29.out; have := HK3.out; omega
                    case rel => exact ⟨(wrap64 (x16_3 + 1)), (by first | rfl | (simp; done) | (simp [*]; done)), H', ⟨by have := HK1.out; have := HJ29.out; have := HK3.out; omega⟩, ⟨by refine bk ?_; exact BK105.out⟩, ⟨by refine bk ?_; exact BK109.out⟩, ⟨by refine bk ?_; exact BK116.out⟩, ⟨by refine bk ?_; exact BK120.out⟩, ⟨by refine bk ?_; exact BK124.out⟩, ⟨by refine bk ?_; exact BK128.out⟩, ⟨by repeat (first | (with_reducible first | exact HB.out | apply below_alloc | apply pw_below_drewN | apply below_drew1 | refine below_set ?_ GE105.out | refine below_set ?_ GE109.out | refine below_set ?_ GE116.out | refine below_set ?_ GE120.out | refine below_set ?_ GE124.out | refine below_set ?_ GE128.out) | exact HB.out)⟩⟩
                  rw [if_neg c126] at H
                  have c126b0 : (t131 == t134) = false := beq_eq_false_iff_ne.mpr c126
                  have c126b1 : (t131 != t134) = true := bne_iff_ne.mpr c126
                  obtain rfl := Option.some.inj H
                  try go_wp2
                  have n0_ := Aside0.mk (blk_drew BK105.out)
                  have n1_ := Aside0.mk (blk_drew BK109.out)
                  have n2_ := Aside0.mk (blk_drew BK116.out)
                  have n3_ := Aside0.mk (blk_drew BK120.out)
                  have n4_ := Aside0.mk (blk_drew BK124.out)
                  have n5_ := Aside0.mk (blk_drew BK128.out)
                  have n6_ := Aside0.mk (below_drew1 HB.out)
                  clear BK105
                  clear BK109
                  clear BK116
                  clear BK120
                  clear BK124
                  clear BK128
                  clear HB
                  have BK105 := n0_
                  have BK109 := n1_
                  have BK116 := n2_
                  have BK120 := n3_
                  have BK124 := n4_
                  have BK128 := n5_
                  have HB := n6_
                  clear n0_ n1_ n2_ n3_ n4_ n5_ n6_
                  have p129 : 0 ≤ ((ji120) : Int) := of_decide_eq_true (by first | (with_reducible assumption) | assumption)
                  have q129 : (ji120) < (l0.length : Int) := of_decide_eq_true (by first | (with_reducible assumption) | assumption)
                  obtain ⟨ad129, e129, hx129_0, hx129_1⟩ := PSn.at_T24 HR0.out (ji120) p129 q129
                  have hw129_1 := hx129_1
                  have hw129_0 := hx129_0
                  cases e129
                  replace hx129_0 := (HB.out.cell (World.block_lt_of_cell? w _ hx129_0)).trans hx129_0
                  replace hx129_1 := (HB.out.cell (World.block_lt_of_cell? w _ hx129_1)).trans hx129_1
                  replace p129 := eq_true p129
                  replace q129 := eq_true q129
                  have p130 : 0 ≤ (x16_3 : Int) := of_decide_eq_true (by first | (with_reducible assumption) | assumption)
                  have q130 : x16_3 < (l0.length : Int) := of_decide_eq_true (by first | (with_reducible assumption) | assumption)
                  obtain ⟨ad130, e130, hx130_0, hx130_1⟩ := PSn.at_T24 HR0.out x16_3 p130 q130
                  have hw130_1 := hx130_1
                  have hw130_0 := hx130_0
                  obtain rfl : ad129 = ad130 := (by injection e130)
                  replace hx130_0 := (HB.out.cell (World.block_lt_of_cell? w _ hx130_0)).trans hx130_0
                  replace hx130_1 := (HB.out.cell (World.block_lt_of_cell? w _ hx130_1)).trans hx130_1
                  replace p130 := eq_true p130
                  replace q130 := eq_true q130
                  have p132 : 0 ≤ ((ji120) : Int) := of_decide_eq_true (by first | (with_reducible assumption) | assumption)
                  have q132 : (ji120) < (l0.length : Int) := of_decide_eq_true (by first | (with_reducible assumption) | assumption)
                  obtain ⟨ad132, e132, hx132_0, hx132_1⟩ := PSn.at_T24 HR0.out (ji120) p132 q132
                  have hw132_1 := hx132_1
                  have hw132_0 := hx132_0
                  obtain rfl : ad129 = ad132 := (by injection e132)
                  replace hx132_0 := (HB.out.cell (World.block_lt_of_cell? w _ hx132_0)).trans hx132_0
                  replace hx132_1 := (HB.out.cell (World.block_lt_of_cell? w _ hx132_1)).trans hx132_1
                  replace p132 := eq_true p132
                  replace q132 := eq_true q132
                  have p133 : 0 ≤ (x16_3 : Int) := of_decide_eq_true (by first | (with_reducible assumption) | assumption)
                  have q133 : x16_3 < (l0.length : Int) := of_decide_eq_true (by first | (with_reducible assumption) | assumption)
                  obtain ⟨ad133, e133, hx133_0, hx133_1⟩ := PSn.at_T24 HR0.out x16_3 p133 q133
                  have hw133_1 := hx133_1
                  have hw133_0 := hx133_0
                  obtain rfl : ad129 = ad133 := (by injection e133)
                  replace hx133_0 := (HB.out.cell (World.block_lt_of_cell? w _ hx133_0)).trans hx133_0
                  replace hx133_1 := (HB.out.cell (World.block_lt_of_cell? w _ hx133_1)).trans hx133_1
                  replace p133 := eq_true p133
                  replace q133 := eq_true q133
                  refine start_ (n := 21) (S := fun w' => w'.cell? (ad129.add (((ji120)).toNat * 2)) = some (.int .i64 ((PSn.rd_T24 l0 (ji120)).f0)) ∧ w'.cell? ⟨(ad129.add (((ji120)).toNat * 2)).block, (ad129.add (((ji120)).toNat * 2)).off + 1, none⟩ = some (.int .i64 ((PSn.rd_T24 l0 (ji120)).f1)) ∧ w'.cell? (ad129.add ((x16_3).toNat * 2)) = some (.int .i64 ((PSn.rd_T24 l0 x16_3).f0)) ∧ w'.cell? ⟨(ad129.add ((x16_3).toNat * 2)).block, (ad129.add ((x16_3).toNat * 2)).off + 1, none⟩ = some (.int .i64 ((PSn.rd_T24 l0 x16_3).f1)) ∧ w'.cell? (ad129.add (((ji120)).toNat * 2)) = some (.int .i64 ((PSn.rd_T24 l0 (ji120)).f0)) ∧ w'.cell? ⟨(ad129.add (((ji120)).toNat * 2)).block, (ad129.add (((ji120)).toNat * 2)).off + 1, none⟩ = some (.int .i64 ((PSn.rd_T24 l0 (ji120)).f1)) ∧ w'.cell? (ad129.add ((x16_3).toNat * 2)) = some (.int .i64 ((PSn.rd_T24 l0 x16_3).f0)) ∧ w'.cell? ⟨(ad129.add ((x16_3).toNat * 2)).block, (ad129.add ((x16_3).toNat * 2)).off + 1, none⟩ = some (.int .i64 ((PSn.rd_T24 l0 x16_3).f1))) (ds := []) #[false, false, false, false, false, false, false, false, false, false, false, false, false, false, false, false, false, false, false, false, false] (by kernel_rfl) rfl rfl ⟨((HB.out.cell (World.block_lt_of_cell? w _ hw129_0)).trans hw129_0), ((HB.out.cell (World.block_lt_of_cell? w _ hw129_1)).trans hw129_1), ((HB.out.cell (World.block_lt_of_cell? w _ hw130_0)).trans hw130_0), ((HB.out.cell (World.block_lt_of_cell? w _ hw130_1)).trans hw130_1), ((HB.out.cell (World.block_lt_of_cell? w _ hw132_0)).trans hw132_0), ((HB.out.cell (World.block_lt_of_cell? w _ hw132_1)).trans hw132_1), ((HB.out.cell (World.block_lt_of_cell? w _ hw133_0)).trans hw133_0), ((HB.out.cell (World.block_lt_of_cell? w _ hw133_1)).trans hw133_1)⟩ (fun hHeld => ?_); refine with_tabW surtitlelaw3_RatioRows.tab23 surtitlelaw3_RatioRows.bits23 (fun HT_ HW_ => ?_)
                  generalize wr.drew = w130 at BK105 BK109 BK116 BK120 BK124 BK128 HB hx129_0 hx129_1 hx130_0 hx130_1 hx132_0 hx132_1 hx133_0 hx133_1 hHeld ⊢
                  refine pure_ (i := 0) (N := some 94) (v := ?_) (a' := ?_) #[true, false, false, false, false, false, false, false, false, false, false, false, false, false, false, false, false, false, false, false, false] rfl rfl (any_of HT_.out (by kernel_rfl)) (fun _ _ _ h => h) (Or.inl ⟨by rfl, ?_⟩) ?_ ?_
                  rotate_left
                  · intro w'
                    go_simp
                    with_reducible rfl
                  rotate_left
                  · simp only [Act.put, List.setIfInBounds_toArray, List.set_cons_zero, List.set_cons_succ, i64_w, i32_w]
                    rfl
                  refine pure_ (i := 1) (N := some 95) (v := ?_) (a' := ?_) #[true, true, false, false, false, false, false, false, false, false, false, false, false, false, false, false, false, false, false, false, false] rfl rfl (any_of HT_.out (by kernel_rfl)) (fun _ _ _ h => h) (Or.inl ⟨by rfl, ?_⟩) ?_ ?_
                  rotate_left
                  · intro w'
                    go_simp
                    with_reducible rfl
                  rotate_left
                  · simp only [Act.put, List.setIfInBounds_toArray, List.set_cons_zero, List.set_cons_succ, i64_w, i32_w]
                    rfl
                  refine pure_ (i := 2) (N := some 96) (v := ?_) (a' := ?_) #[true, true, true, false, false, false, false, false, false, false, false, false, false, false, false, false, false, false, false, false, false] rfl rfl (any_of HT_.out (by kernel_rfl)) (fun _ _ _ h => h) (Or.inl ⟨by rfl, ?_⟩) ?_ ?_
                  rotate_left
                  · intro w'
                    go_simp
                    with_reducible rfl
                  rotate_left
                  · simp only [Act.put, List.setIfInBounds_toArray, List.set_cons_zero, List.set_cons_succ, i64_w, i32_w]
                    rfl
                  refine pure_ (i := 3) (N := some 97) (v := ?_) (a' := ?_) #[true, true, true, true, false, false, false, false, false, false, false, false, false, false, false, false, false, false, false, false, false] rfl rfl (any_of HT_.out (by kernel_rfl)) (fun _ _ _ h => h) (Or.inl ⟨by rfl, ?_⟩) ?_ ?_
                  rotate_left
                  · intro w'
                    go_simp
                    with_reducible rfl
                  rotate_left
                  · simp only [Act.put, List.setIfInBounds_toArray, List.set_cons_zero, List.set_cons_succ, i64_w, i32_w]
                    rfl
                  refine pure_ (i := 5) (N := some 99) (v := ?_) (a' := ?_) #[true, true, true, true, false, true, false, false, false, false, false, false, false, false, false, false, false, false, false, false, false] rfl rfl (any_of HT_.out (by kernel_rfl)) (fun _ _ _ h => h) (Or.inl ⟨by rfl, ?_⟩) ?_ ?_
                  rotate_left
                  · intro w'
                    go_simp
                    with_reducible rfl
                  rotate_left
                  · simp only [Act.put, List.setIfInBounds_toArray, List.set_cons_zero, List.set_cons_succ, i64_w, i32_w]
                    rfl
                  refine pure_ (i := 6) (N := some 100) (v := ?_) (a' := ?_) #[true, true, true, true, false, true, true, false, false, false, false, false, false, false, false, false, false, false, false, false, false] rfl rfl (any_of HT_.out (by kernel_rfl)) (fun _ _ _ h => h) (Or.inl ⟨by rfl, ?_⟩) ?_ ?_
                  rotate_left
                  · intro w'
                    go_simp
                    with_reducible rfl
                  rotate_left
                  · simp only [Act.put, List.setIfInBounds_toArray, List.set_cons_zero, List.set_cons_succ, i64_w, i32_w]
                    rfl
                  refine pure_ (i := 7) (N := some 101) (v := ?_) (a' := ?_) #[true, true, true, true, false, true, true, true, false, false, false, false, false, false, false, false, false, false, false, false, false] rfl rfl (any_of HT_.out (by kernel_rfl)) (fun _ _ _ h => h) (Or.inl ⟨by rfl, ?_⟩) ?_ ?_
                  rotate_left
                  · intro w'
                    go_simp
                    with_reducible rfl
                  rotate_left
                  · simp only [Act.put, List.setIfInBounds_toArray, List.set_cons_zero, List.set_cons_succ, i64_w, i32_w]
                    rfl
                  refine pure_ (i := 10) (N := some 104) (v := ?_) (a' := ?_) #[true, true, true, true, false, true, true, true, false, false, true, false, false, false, false, false, false, false, false, false, false] rfl rfl (any_of HT_.out (by kernel_rfl)) (fun _ _ _ h => h) (Or.inl ⟨by rfl, ?_⟩) ?_ ?_
                  rotate_left
                  · intro w'
                    go_simp
                    with_reducible rfl
                  rotate_left
                  · simp only [Act.put, List.setIfInBounds_toArray, List.set_cons_zero, List.set_cons_succ, i64_w, i32_w]
                    rfl
                  refine pure_ (i := 11) (N := some 105) (v := ?_) (a' := ?_) #[true, true, true, true, false, true, true, true, false, false, true, true, false, false, false, false, false, false, false, false, false] rfl rfl (any_of HT_.out (by kernel_rfl)) (fun _ _ _ h => h) (Or.inl ⟨by rfl, ?_⟩) ?_ ?_
                  rotate_left
                  · intro w'
                    go_simp
                    with_reducible rfl
                  rotate_left
                  · simp only [Act.put, List.setIfInBounds_toArray, List.set_cons_zero, List.set_cons_succ, i64_w, i32_w]
                    rfl
                  refine pure_ (i := 12) (N := some 106) (v := ?_) (a' := ?_) #[true, true, true, true, false, true, true, true, false, false, true, true, true, false, false, false, false, false, false, false, false] rfl rfl (any_of HT_.out (by kernel_rfl)) (fun _ _ _ h => h) (Or.inl ⟨by rfl, ?_⟩) ?_ ?_
                  rotate_left
                  · intro w'
                    go_simp
                    with_reducible rfl
                  rotate_left
                  · simp only [Act.put, List.setIfInBounds_toArray, List.set_cons_zero, List.set_cons_succ, i64_w, i32_w]
                    rfl
                  refine pure_ (i := 13) (N := some 107) (v := ?_) (a' := ?_) #[true, true, true, true, false, true, true, true, false, false, true, true, true, true, false, false, false, false, false, false, false] rfl rfl (any_of HT_.out (by kernel_rfl)) (fun _ _ _ h => h) (Or.inl ⟨by rfl, ?_⟩) ?_ ?_
                  rotate_left
                  · intro w'
                    go_simp
                    with_reducible rfl
                  rotate_left
                  · simp only [Act.put, List.setIfInBounds_toArray, List.set_cons_zero, List.set_cons_succ, i64_w, i32_w]
                    rfl
                  refine pure_ (i := 15) (N := some 109) (v := ?_) (a' := ?_) #[true, true, true, true, false, true, true, true, false, false, true, true, true, true, false, true, false, false, false, false, false] rfl rfl (any_of HT_.out (by kernel_rfl)) (fun _ _ _ h => h) (Or.inl ⟨by rfl, ?_⟩) ?_ ?_
                  rotate_left
                  · intro w'
                    go_simp
                    with_reducible rfl
                  rotate_left
                  · simp only [Act.put, List.setIfInBounds_toArray, List.set_cons_zero, List.set_cons_succ, i64_w, i32_w]
                    rfl
                  refine pure_ (i := 16) (N := some 110) (v := ?_) (a' := ?_) #[true, true, true, true, false, true, true, true, false, false, true, true, true, true, false, true, true, false, false, false, false] rfl rfl (any_of HT_.out (by kernel_rfl)) (fun _ _ _ h => h) (Or.inl ⟨by rfl, ?_⟩) ?_ ?_
                  rotate_left
                  · intro w'
                    go_simp
                    with_reducible rfl
                  rotate_left
                  · simp only [Act.put, List.setIfInBounds_toArray, List.set_cons_zero, List.set_cons_succ, i64_w, i32_w]
                    rfl
                  refine pure_ (i := 17) (N := some 111) (v := ?_) (a' := ?_) #[true, true, true, true, false, true, true, true, false, false, true, true, true, true, false, true, true, true, false, false, false] rfl rfl (any_of HT_.out (by kernel_rfl)) (fun _ _ _ h => h) (Or.inl ⟨by rfl, ?_⟩) ?_ ?_
                  rotate_left
                  · intro w'
                    go_simp
                    with_reducible rfl
                  rotate_left
                  · simp only [Act.put, List.setIfInBounds_toArray, List.set_cons_zero, List.set_cons_succ, i64_w, i32_w]
                    rfl
                  refine take_ (i := 4) (N := some 98) (v := ?_) (a' := ?_) #[true, true, true, true, true, true, true, true, false, false, true, true, true, true, false, true, true, true, false, false, false] rfl rfl (take_ofW HT_.out HW_.out (by kernel_rfl)) (fun _ _ _ h => h) (Or.inl ⟨by rfl, ?_⟩) hHeld ?_ ?_
                  rotate_left
                  · rintro w' ⟨s0, s1, s2, s3, s4, s5, s6, s7⟩
                    go_simp
                    with_reducible rfl
                  rotate_left
                  · simp only [Act.put, List.setIfInBounds_toArray, List.set_cons_zero, List.set_cons_succ, i64_w, i32_w]
                    rfl
                  refine take_ (i := 8) (N := some 102) (v := ?_) (a' := ?_) #[true, true, true, true, true, true, true, true, true, false, true, true, true, true, false, true, true, true, false, false, false] rfl rfl (take_ofW HT_.out HW_.out (by kernel_rfl)) (fun _ _ _ h => h) (Or.inl ⟨by rfl, ?_⟩) hHeld ?_ ?_
                  rotate_left
                  · rintro w' ⟨s0, s1, s2, s3, s4, s5, s6, s7⟩
                    go_simp
                    with_reducible rfl
                  rotate_left
                  · simp only [Act.put, List.setIfInBounds_toArray, List.set_cons_zero, List.set_cons_succ, i64_w, i32_w]
                    rfl
                  refine take_ (i := 14) (N := some 108) (v := ?_) (a' := ?_) #[true, true, true, true, true, true, true, true, true, false, true, true, true, true, true, true, true, true, false, false, false] rfl rfl (take_ofW HT_.out HW_.out (by kernel_rfl)) (fun _ _ _ h => h) (Or.inl ⟨by rfl, ?_⟩) hHeld ?_ ?_
                  rotate_left
                  · rintro w' ⟨s0, s1, s2, s3, s4, s5, s6, s7⟩
                    go_simp
                    with_reducible rfl
                  rotate_left
                  · simp only [Act.put, List.setIfInBounds_toArray, List.set_cons_zero, List.set_cons_succ, i64_w, i32_w]
                    rfl
                  refine take_ (i := 18) (N := some 112) (v := ?_) (a' := ?_) #[true, true, true, true, true, true, true, true, true, false, true, true, true, true, true, true, true, true, true, false, false] rfl rfl (take_ofW HT_.out HW_.out (by kernel_rfl)) (fun _ _ _ h => h) (Or.inl ⟨by rfl, ?_⟩) hHeld ?_ ?_
                  rotate_left
                  · rintro w' ⟨s0, s1, s2, s3, s4, s5, s6, s7⟩
                    go_simp
                    with_reducible rfl
                  rotate_left
                  · simp only [Act.put, List.setIfInBounds_toArray, List.set_cons_zero, List.set_cons_succ, i64_w, i32_w]
                    rfl
                  refine one_ (i := 9) (N := some 103) #[true, true, true, true, true, true, true, true, true, true, true, true, true, true, true, true, true, true, true, false, false] rfl rfl (one_of HT_.out (by kernel_rfl)) (by decide) (fun K hK => ?_)
                  refine goes_ Tryd.func32 (by kernel_rfl) rfl #[.agg #[.int .i64 ((PSn.rd_T24 l0 (ji120)).f0), .int .i64 ((PSn.rd_T24 l0 (ji120)).f1)], .agg #[.int .i64 ((PSn.rd_T24 l0 x16_3).f0), .int .i64 ((PSn.rd_T24 l0 x16_3).f1)]] (by rfl) rfl rfl (by (try simp only [List.map_toArray, List.map_cons, List.map_nil]); first | done | (simp only [hji120]; rfl) | rfl | (simp only [List.length_drop, List.length_take]; rfl)) ?_
                  with_reducible refine (ratio_Cmp.calls ((PSn.rd_T24 l0 (ji120)).f0) ((PSn.rd_T24 l0 (ji120)).f1) ((PSn.rd_T24 l0 x16_3).f0) ((PSn.rd_T24 l0 x16_3).f1) t131 _ A124.out).mono ?_
                  rintro e w131 ⟨rfl, hb⟩
                  refine ⟨_, rfl, ?_⟩
                  have n0_ := ab hb BK105
                  have n1_ := ab hb BK109
                  have n2_ := ab hb BK116
                  have n3_ := ab hb BK120
                  have n4_ := ab hb BK124
                  have n5_ := ab hb BK128
                  have n6_ := hs hb HB
                  clear BK105
                  clear BK109
                  clear BK116
                  clear BK120
                  clear BK124
                  clear BK128
                  clear HB
                  have BK105 := n0_
                  have BK109 := n1_
                  have BK116 := n2_
                  have BK120 := n3_
                  have BK124 := n4_
                  have BK128 := n5_
                  have HB := n6_
                  clear n0_ n1_ n2_ n3_ n4_ n5_ n6_
                  (try clear hb)
                  (try clear hb2)
                  (try clear hk)
                  (try clear hi)
                  refine hK.out _ _ ⟨((HB.out.cell (World.block_lt_of_cell? w _ hw129_0)).trans hw129_0), ((HB.out.cell (World.block_lt_of_cell? w _ hw129_1)).trans hw129_1), ((HB.out.cell (World.block_lt_of_cell? w _ hw130_0)).trans hw130_0), ((HB.out.cell (World.block_lt_of_cell? w _ hw130_1)).trans hw130_1), ((HB.out.cell (World.block_lt_of_cell? w _ hw132_0)).trans hw132_0), ((HB.out.cell (World.block_lt_of_cell? w _ hw132_1)).trans hw132_1), ((HB.out.cell (World.block_lt_of_cell? w _ hw133_0)).trans hw133_0), ((HB.out.cell (World.block_lt_of_cell? w _ hw133_1)).trans hw133_1)⟩ (fun hHeld => ?_)
                  clear hK K
                  refine norm_ (a' := ?_) ?_ ?_
                  rotate_left
                  · show Act.put _ (some 103) _ = _
                    simp only [Act.put, List.setIfInBounds_toArray, List.set_cons_zero, List.set_cons_succ, i64_w, i32_w]
                    rfl
                  refine one_ (i := 19) (N := some 113) #[true, true, true, true, true, true, true, true, true, true, true, true, true, true, true, true, true, true, true, true, false] rfl rfl (one_of HT_.out (by kernel_rfl)) (by decide) (fun K hK => ?_)
                  refine goes_ Tryd.func39 (by kernel_rfl) rfl #[.agg #[.int .i64 ((PSn.rd_T24 l0 (ji120)).f0), .int .i64 ((PSn.rd_T24 l0 (ji120)).f1)], .agg #[.int .i64 ((PSn.rd_T24 l0 x16_3).f0), .int .i64 ((PSn.rd_T24 l0 x16_3).f1)]] (by rfl) rfl rfl (by (try simp only [List.map_toArray, List.map_cons, List.map_nil]); first | done | (simp only [hji120]; rfl) | rfl | (simp only [List.length_drop, List.length_take]; rfl)) ?_
                  with_reducible refine (surtitleref3_Cmp.calls ((PSn.rd_T24 l0 (ji120)).f0) ((PSn.rd_T24 l0 (ji120)).f1) ((PSn.rd_T24 l0 x16_3).f0) ((PSn.rd_T24 l0 x16_3).f1) t134 _ A125.out).mono ?_
                  rintro e w132 ⟨rfl, hb⟩
                  refine ⟨_, rfl, ?_⟩
                  have n0_ := ab hb BK105
                  have n1_ := ab hb BK109
                  have n2_ := ab hb BK116
                  have n3_ := ab hb BK120
                  have n4_ := ab hb BK124
                  have n5_ := ab hb BK128
                  have n6_ := hs hb HB
                  clear BK105
                  clear BK109
                  clear BK116
                  clear BK120
                  clear BK124
                  clear BK128
                  clear HB
                  have BK105 := n0_
                  have BK109 := n1_
                  have BK116 := n2_
                  have BK120 := n3_
                  have BK124 := n4_
                  have BK128 := n5_
                  have HB := n6_
                  clear n0_ n1_ n2_ n3_ n4_ n5_ n6_
                  (try clear hb)
                  (try clear hb2)
                  (try clear hk)
                  (try clear hi)
                  refine hK.out _ _ ⟨((HB.out.cell (World.block_lt_of_cell? w _ hw129_0)).trans hw129_0), ((HB.out.cell (World.block_lt_of_cell? w _ hw129_1)).trans hw129_1), ((HB.out.cell (World.block_lt_of_cell? w _ hw130_0)).trans hw130_0), ((HB.out.cell (World.block_lt_of_cell? w _ hw130_1)).trans hw130_1), ((HB.out.cell (World.block_lt_of_cell? w _ hw132_0)).trans hw132_0), ((HB.out.cell (World.block_lt_of_cell? w _ hw132_1)).trans hw132_1), ((HB.out.cell (World.block_lt_of_cell? w _ hw133_0)).trans hw133_0), ((HB.out.cell (World.block_lt_of_cell? w _ hw133_1)).trans hw133_1)⟩ (fun hHeld => ?_)
                  clear hK K
                  refine norm_ (a' := ?_) ?_ ?_
                  rotate_left
                  · show Act.put _ (some 113) _ = _
                    simp only [Act.put, List.setIfInBounds_toArray, List.set_cons_zero, List.set_cons_succ, i64_w, i32_w]
                    rfl
                  refine pure_ (i := 20) (N := some 114) (v := ?_) (a' := ?_) #[true, true, true, true, true, true, true, true, true, true, true, true, true, true, true, true, true, true, true, true, true] rfl rfl (any_of HT_.out (by kernel_rfl)) (fun _ _ _ h => h) (Or.inl ⟨by rfl, ?_⟩) ?_ ?_
                  rotate_left
                  · intro w'
                    go_simp
                    with_reducible rfl
                  rotate_left
                  · simp only [Act.put, List.setIfInBounds_toArray, List.set_cons_zero, List.set_cons_succ, i64_w, i32_w]
                    rfl
                  refine done_ (done_of HT_.out (by kernel_rfl)) ?_
                  try go_wp2
                  go_ret
                  exact ⟨by first | rfl | (simp [errW_none, errW_some] <;> rfl) | (simp only [← hji120]; first | rfl | (simp [errW_none, errW_some] <;> rfl)) | (simp [*, errW_none, errW_some] <;> rfl), by repeat (first | (with_reducible first | exact HB.out | apply below_alloc | apply pw_below_drewN | apply below_drew1 | refine below_set ?_ GE105.out | refine below_set ?_ GE109.out | refine below_set ?_ GE116.out | refine below_set ?_ GE120.out | refine below_set ?_ GE124.out | refine below_set ?_ GE128.out) | exact HB.out)⟩
                rw [if_neg c123] at H
                exact absurd H (by simp)
              rw [if_neg c122] at H
              exact absurd H (by simp)
            rw [if_neg c121] at H
            exact absurd H (by simp)
          rw [if_neg c119] at H
          have c119b0 : decide (x16_3 < (l0.length : Int)) = false := decide_eq_false c119
          clear c119
          obtain rfl := Option.some.inj H
          go_wp2
          go_ret
          exact ⟨by first | rfl | (simp [errW_none, errW_some] <;> rfl) | (simp [*, errW_none, errW_some] <;> rfl), by repeat (first | (with_reducible first | exact HB.out | apply below_alloc | apply pw_below_drewN | apply below_drew1 | refine below_set ?_ GE105.out | refine below_set ?_ GE109.out | refine below_set ?_ GE116.out | refine below_set ?_ GE120.out | refine below_set ?_ GE124.out | refine below_set ?_ GE128.out) | exact HB.out)⟩
    replace c9 := Bool.eq_false_iff.mpr c9
    subst c9
    have H1 : (some false) = some r := by rw [if_neg (show ¬ (false = true) by decide)] at H; exact H
    clear H
    have H := H1
    clear H1
    obtain rfl := Option.some.inj H
    go_enter Tryd.func8, Tryd.ntmps8
    go_wp2_with (first | ((with_reducible refine gate_callee (f := 16) rfl ?_); refine goesL_ (some 17) rfl rfl Tryd.func16 (by kernel_rfl) rfl #[] rfl (by (try simp only [List.map_toArray, List.map_cons, List.map_nil]); first | done | rfl | (simp only [List.length_drop, List.length_take]; rfl)) ?_; (with_reducible refine (surtitlelaw3_known.calls  true _ A2.out).mono ?_); rintro e w133 ⟨rfl, hb⟩; refine ⟨_, rfl, ?_⟩; replace HB := hs hb HB; (try clear hb); (try clear hb2); (try clear hk); (try clear hi)) | ((with_reducible refine gate_callee (f := 34) rfl ?_); refine goesL_ (some 24) rfl rfl Tryd.func34 (by kernel_rfl) rfl #[.slice A0 l0.length c0] rfl (by (try simp only [List.map_toArray, List.map_cons, List.map_nil]); first | done | rfl | (simp only [List.length_drop, List.length_take]; rfl)) ?_; (with_reducible refine (ratio_Sum.calls k _ _ l0 t102 t103 t104 _ ?side1 ?side2 A6.out).mono ?_); (case side1 => repeat (first | exact (Kd.C_below HR0.out HB.out) | (with_reducible refine Kd.C_alloc ?_ _) | (with_reducible refine Kd.C_drewN ?_ _) | (with_reducible refine Kd.C_drew ?_))); (case side2 => exact HC0.out); rintro e w134 ⟨rfl, hb⟩; refine ⟨_, rfl, ?_⟩; replace HB := hs hb HB; (try clear hb); (try clear hb2); (try clear hk); (try clear hi)) | ((with_reducible refine gate_dst (N := 3) rfl ?_); refine box_event ?hg (N := 3) ?hd (cs := #[.int .i64 0, .int .i64 0]) (t := 24) ?hr ?_; (case hd => rfl); (case hg => rfl); (case hr => first | (go_simp; done) | (go_simp; rfl)); intro gb105 hg w135 hbox hb; have BK105 := Aside0.mk (hbox); have GW105 := ag hg HB; have GE105 := ag hg HB; replace HB := hs hb HB; clear hb hbox hg; obtain ⟨hcz136_0, hcz136_1, hfz136_0, hfz136_1⟩ := k2 BK105.out) | ((with_reducible refine gate_callee (f := 35) rfl ?_); refine goesL_ (some 29) rfl rfl Tryd.func35 (by kernel_rfl) rfl #[.slice A0 l0.length c0] rfl (by (try simp only [List.map_toArray, List.map_cons, List.map_nil]); first | done | rfl | (simp only [List.length_drop, List.length_take]; rfl)) ?_; (with_reducible refine (surtitleref3_Sum.calls k _ _ l0 t106 t107 t108 _ ?side1 ?side2 A7.out).mono ?_); (case side1 => exact Kd.C_below HR0.out (bw HB.out)); (case side2 => exact HC0.out); rintro e w137 ⟨rfl, hb⟩; refine ⟨_, rfl, ?_⟩; have n0_ := Aside0.mk (blk_below (g := gb105) (o := .cells #[.int .i64 t102, .int .i64 t103] 24 (0, 0)) (by refine bk ?_; refine blk_put (cs := #[.int .i64 t102, .int .i64 0]) ?_ 1 _ rfl; refine bk ?_; refine blk_put (cs := #[.int .i64 0, .int .i64 0]) ?_ 0 _ rfl; refine bk ?_; exact BK105.out) hb); have n1_ := hs hb HB; clear BK105; clear HB; have BK105 := n0_; have HB := n1_; clear n0_ n1_; (try clear hb); (try clear hb2); (try clear hk); (try clear hi)) | ((with_reducible refine gate_dst (N := 5) rfl ?_); refine box_event ?hg (N := 5) ?hd (cs := #[.int .i64 0, .int .i64 0]) (t := 24) ?hr ?_; (case hd => rfl); (case hg => rfl); (case hr => first | (go_simp; done) | (go_simp; rfl)); intro gb109 hg w138 hbox hb; have BK109 := Aside0.mk (hbox); have GW109 := ag hg HB; have GE109 := ag hg HB; have NB105_109 := na hg BK105; have NB109_105 := nb hg BK105; replace BK105 := ab hb BK105; replace HB := hs hb HB; clear hb hbox hg; have hnb139 := NB109_105.out; have hnc139 := NB105_109.out; obtain ⟨hcz140_0, hcz140_1, hfz140_0, hfz140_1⟩ := k2 BK109.out; obtain ⟨hcz141_0, hcz141_1, hfz141_0, hfz141_1⟩ := k2 BK105.out) | ((with_reducible refine gate_callee (f := 23) rfl ?_); refine goesL_ (some 36) rfl rfl Tryd.func23 (by kernel_rfl) rfl #[.agg #[.int .i64 t102, .int .i64 t103], .int .i64 t104, .agg #[.int .i64 t106, .int .i64 t107], .int .i64 t108] rfl (by (try simp only [List.map_toArray, List.map_cons, List.map_nil]); first | done | rfl | (simp only [List.length_drop, List.length_take]; rfl)) ?_; (with_reducible refine (surtitlelaw3_told.calls t102 t103 t104 t106 t107 t108 false _ A8.out).mono ?_); rintro e w142 ⟨rfl, hb⟩; refine ⟨_, rfl, ?_⟩; have n0_ := ab hb BK105; have n1_ := Aside0.mk (blk_below (g := gb109) (o := .cells #[.int .i64 t106, .int .i64 t107] 24 (0, 0)) (by refine bk ?_; refine blk_put (cs := #[.int .i64 t106, .int .i64 0]) ?_ 1 _ rfl; refine bk ?_; refine blk_put (cs := #[.int .i64 0, .int .i64 0]) ?_ 0 _ rfl; refine bk ?_; exact BK109.out) hb); have n2_ := hs hb HB; clear BK105; clear BK109; clear HB; have BK105 := n0_; have BK109 := n1_; have HB := n2_; clear n0_ n1_ n2_; (try clear hb); (try clear hb2); (try clear hk); (try clear hi)))
    go_ret
    exact ⟨by first | rfl | (simp [errW_none, errW_some] <;> rfl) | (simp [*, errW_none, errW_some] <;> rfl), by repeat (first | (with_reducible first | exact HB.out | apply below_alloc | apply pw_below_drewN | apply below_drew1 | refine below_set ?_ GE105.out | refine below_set ?_ GE109.out) | exact HB.out)⟩
  replace c3 := Bool.eq_false_iff.mpr c3
  subst c3
  have H1 : (some false) = some r := by rw [if_neg (show ¬ (false = true) by decide)] at H; exact H
  clear H
  have H := H1
  clear H1
  obtain rfl := Option.some.inj H
  go_enter Tryd.func8, Tryd.ntmps8
  go_wp2_with (first | ((with_reducible refine gate_callee (f := 16) rfl ?_); refine goesL_ (some 17) rfl rfl Tryd.func16 (by kernel_rfl) rfl #[] rfl (by (try simp only [List.map_toArray, List.map_cons, List.map_nil]); first | done | rfl | (simp only [List.length_drop, List.length_take]; rfl)) ?_; (with_reducible refine (surtitlelaw3_known.calls  false _ A2.out).mono ?_); rintro e w143 ⟨rfl, hb⟩; refine ⟨_, rfl, ?_⟩; replace HB := hs hb HB; (try clear hb); (try clear hb2); (try clear hk); (try clear hi)))
  go_ret
  exact ⟨by first | rfl | (simp [errW_none, errW_some] <;> rfl) | (simp [*, errW_none, errW_some] <;> rfl), by repeat (first | (with_reducible first | exact HB.out | apply below_alloc | apply pw_below_drewN | apply below_drew1) | exact HB.out)⟩

end Go.Proofs.YtofndakpenpkbaaDoor.LRows
