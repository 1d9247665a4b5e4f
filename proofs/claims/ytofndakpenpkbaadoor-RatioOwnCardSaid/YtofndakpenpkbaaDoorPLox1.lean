-- made by wip/pp2.py out of the translation, over contracts of my own
import Derived.Test.YtofndakpenpkbaaDoorProg
import Derived.Below
import Derived.Deep.Draws
import Derived.Deep.AppendLies
import Derived.Maps.AppendAt
import Derived.OwnWalk
import Derived.Laws.BytesArg
import Derived.Laws.MakeOwn
import Derived.Laws.OwnMore
import Derived.Deep.OwnRows
import Derived.Tactics
import Derived.Lib.ConvBytes
import Derived.Laws.Slices
import Derived.WalkKit
import Derived.KernelRfl
import Derived.RowKit3
import Derived.Deep.LoopGhost
import Derived.Deep.QuietTactic
import Derived.BigQuiet
import Derived.WideLaws
import Derived.Deep.DeepCutAuto
import Derived.Deep.CutBlock
import Derived.Deep.RegionHeld3
import Derived.Laws.Rows
import Derived.Lib.AppendStr
import Derived.ArgAppend
import Derived.Laws.IdiomCopy
import Derived.OrdersHeld
import Derived.Laws.BitsLemmas
import Derived.RowKit
import Derived.Test.YtofndakpenpkbaaDoorRatP
import Derived.Test.YtofndakpenpkbaaDoorCmpO
import Derived.Test.YtofndakpenpkbaaDoorPSnx1
import Derived.Test.YtofndakpenpkbaaDoorXW
namespace Go.Proofs.YtofndakpenpkbaaDoor.PLo
open Go.Proofs.YtofndakpenpkbaaDoor.PA
open Go.RowKit Go.Proofs.YtofndakpenpkbaaDoorW.PrintWords Go.Proofs.YtofndakpenpkbaaDoorW.PrintLast Go.Proofs.YtofndakpenpkbaaDoorW.PrintMore
set_option linter.unusedVariables false
set_option linter.unusedSimpArgs false



def errW : Option Int → Value
  | none => .nilIface
  | some c => .iface 0 (.int .i64 c)
theorem errW_none : errW none = .nilIface := rfl
theorem errW_some (c : Int) : errW (some c) = .iface 0 (.int .i64 c) := rfl

theorem info24 : (Tryd.prog.info? 24).map (fun i => (i.zero, i.size, i.bytes)) = some (some (.agg #[(.int .i64 0), (.int .i64 0)]), 2, 16) := by kernel_rfl

end Go.Proofs.YtofndakpenpkbaaDoor.PLo

namespace Go.Proofs.YtofndakpenpkbaaDoor.PLo
open Go.Proofs.YtofndakpenpkbaaDoor.PA
open Go.RowKit Go.Proofs.YtofndakpenpkbaaDoorW.PrintWords Go.Proofs.YtofndakpenpkbaaDoorW.PrintLast Go.Proofs.YtofndakpenpkbaaDoorW.PrintMore
set_option linter.unusedVariables false
set_option linter.unusedSimpArgs false

/-! ### ratio_Cmp: function 32: told elsewhere -/

/-! ### ratio_best: function 65 -/
def ratio_best.l0 : Nat → Int → List (PSn.S24) → Int → Int → Int → Int → Option (Int × Int × Bool)
  | 0, _, _, _, _, _, _ => none
  | k + 1, x0, x17, x18, x19, x104000, x104001 => if x19 < x18 then (if 0 ≤ x19 then (if x19 < (x17.length : Int) then ((ratio_CmpO.f ((PSn.rd_T24 x17 x19).f0) ((PSn.rd_T24 x17 x19).f1) x104000 x104001).bind fun t110 => (if t110 = x0 then (ratio_best.l0 k x0 x17 x18 (wrap64 (x19 + 1)) ((PSn.rd_T24 x17 x19).f0) ((PSn.rd_T24 x17 x19).f1)) else (ratio_best.l0 k x0 x17 x18 (wrap64 (x19 + 1)) x104000 x104001))) else (none)) else (none)) else (some (x104000, x104001, true))
def ratio_best.f (k : Nat) (a0 : Int) (l1 : List (PSn.S24)) : Option (Int × Int × Bool) := if (l1.length : Int) = 0 then (some (0, 0, false)) else (if 0 < (l1.length : Int) then (if 1 ≤ (l1.length : Int) then ((some (l1.drop 1 : List (PSn.S24))).bind fun y104 => (ratio_best.l0 k a0 y104 (y104.length : Int) 0 ((PSn.rd_T24 l1 0).f0) ((PSn.rd_T24 l1 0).f1))) else (none)) else (none))
set_option maxHeartbeats 8000000 in
set_option maxRecDepth 100000 in
theorem ratio_best.calls (k : Nat) (a0 : Int) (A1 : Option Addr) (c1 : Nat) (l1 : List (PSn.S24)) (r1 : Int) (r2 : Int) (r3 : Bool) (w : World) (hr1 : Kd.C PSn.k24 w A1 l1.length l1) (hc1 : l1.length ≤ c1) (h : ratio_best.f k a0 l1 = some (r1, r2, r3)) :
    Calls Tryd.prog 65 #[.int .i64 a0, .slice A1 l1.length c1] w fun e w' => e = .returned (.tuple #[.agg #[.int .i64 r1, .int .i64 r2], .bool r3]) ∧ Below w.heap.size w w' := by
  have hu24 := Tryd.underlying24
  have HR1 := Aside0.mk hr1
  have HC1 := Aside0.mk hc1
  clear hr1 hc1
  have HB := Aside0.mk (Below.refl w.heap.size w)
  have H : (if (l1.length : Int) = 0 then (some (0, 0, false)) else (if 0 < (l1.length : Int) then (if 1 ≤ (l1.length : Int) then ((some (l1.drop 1 : List (PSn.S24))).bind fun y104 => (ratio_best.l0 k a0 y104 (y104.length : Int) 0 ((PSn.rd_T24 l1 0).f0) ((PSn.rd_T24 l1 0).f1))) else (none)) else (none))) = some (r1, r2, r3) := h
  clear h
  by_cases c3 : (l1.length : Int) = 0
  · rw [if_pos c3] at H
    have c3b0 : ((l1.length : Int) == 0) = true := beq_iff_eq.mpr c3
    have c3b1 : ((l1.length : Int) != 0) = false := bne_eq_false_iff_eq.mpr c3
    clear c3
    simp only [Option.some.injEq, Prod.mk.injEq] at H
    obtain ⟨rfl, rfl, rfl⟩ := H
    go_enter Tryd.func65, Tryd.ntmps65
    go_wp2_with (first | ((with_reducible refine gate_dst (N := 4) rfl ?_); refine box_event ?hg (N := 4) ?hd (cs := #[.int .i64 0, .int .i64 0]) (t := 24) ?hr ?_; (case hd => rfl); (case hg => rfl); (case hr => first | (go_simp; done) | (go_simp; rfl)); intro gb101 hg w4 hbox hb; have BK101 := Aside0.mk (hbox); have GW101 := ag hg HB; have GE101 := ag hg HB; replace HB := hs hb HB; clear hb hbox hg; obtain ⟨hcz5_0, hcz5_1, hfz5_0, hfz5_1⟩ := k2 BK101.out))
    refine bodyPost_ret (results_ct rfl _ _ gb101 24 #[.int .i64 0, .int .i64 0] (0, 0) _ rfl (by refine bk ?_; refine blk_put (cs := #[.int .i64 0, .int .i64 0]) ?_ 1 _ rfl; refine bk ?_; refine blk_put (cs := #[.int .i64 0, .int .i64 0]) ?_ 0 _ rfl; refine bk ?_; exact BK101.out) Tryd.underlying24 rfl (by kernel_rfl)) rfl ?_
    exact ⟨by first | rfl | (simp [errW_none, errW_some] <;> rfl) | (simp [*, errW_none, errW_some] <;> rfl), by repeat (first | (with_reducible first | exact HB.out | apply below_alloc | apply pw_below_drewN | apply below_drew1 | refine below_set ?_ GE101.out) | exact HB.out)⟩
  rw [if_neg c3] at H
  have c3b0 : ((l1.length : Int) == 0) = false := beq_eq_false_iff_ne.mpr c3
  have c3b1 : ((l1.length : Int) != 0) = true := bne_iff_ne.mpr c3
  have c3b2 : ¬ (l1 = []) := fun h_ => c3 (by rw [h_]; rfl)
  by_cases c6 : 0 < (l1.length : Int)
  · rw [if_pos c6] at H
    have c6b0 : decide (0 < (l1.length : Int)) = true := decide_eq_true c6
    have c6b1 : decide (0 < l1.length) = true := decide_eq_true (by omega)
    clear c6
    by_cases c7 : 1 ≤ (l1.length : Int)
    · rw [if_pos c7] at H
      have c7b0 := eq_true c7
      have c7b1 : decide (1 ≤ (l1.length : Int)) = true := decide_eq_true c7
      clear c7
      obtain ⟨y104, hy104⟩ : ∃ y_ : List (PSn.S24), y_ = (l1.drop 1) := ⟨_, rfl⟩
      replace H : (ratio_best.l0 k a0 y104 (y104.length : Int) 0 ((PSn.rd_T24 l1 0).f0) ((PSn.rd_T24 l1 0).f1)) = some (r1, r2, r3) := by first | (rw [hy104]; with_reducible exact H) | (have H2_ := (Option.bind_some _ _).symm.trans H; rw [hy104]; with_reducible exact H2_) | (have H2_ := (Option.bind_some _ _).symm.trans H; with_reducible exact H2_) | with_reducible exact H | (rw [hy104]; exact H) | exact H
      have Ny104 := Aside0.mk hy104
      clear hy104
      have H' := Aside0.mk H
      clear H
      go_enter Tryd.func65, Tryd.ntmps65
      go_wp2_with (first | ((with_reducible refine gate_dst (N := 4) rfl ?_); refine box_event ?hg (N := 4) ?hd (cs := #[.int .i64 0, .int .i64 0]) (t := 24) ?hr ?_; (case hd => rfl); (case hg => rfl); (case hr => first | (go_simp; done) | (go_simp; rfl)); intro gb101 hg w8 hbox hb; have BK101 := Aside0.mk (hbox); have GW101 := ag hg HB; have GE101 := ag hg HB; replace HB := hs hb HB; clear hb hbox hg; have p102 : 0 ≤ (0 : Int) := (by omega); have q102 : 0 < (l1.length : Int) := of_decide_eq_true (by first | (with_reducible assumption) | assumption); obtain ⟨ad102, e102, hx102_0, hx102_1⟩ := PSn.at_T24 HR1.out 0 p102 q102; cases e102; have qi102 : (0 < l1.length) = True := eq_true (by omega); (try rw [show ((0 : Int)).toNat = 0 from rfl] at hx102_0); (try rw [show 0 * 2 = 0 from rfl] at hx102_0); (try rw [Addr.add_zero'] at hx102_0); (try rw [show ((0 : Int)).toNat = 0 from rfl] at hx102_1); (try rw [show 0 * 2 = 0 from rfl] at hx102_1); (try rw [Addr.add_zero'] at hx102_1); replace hx102_0 := (HB.out.cell (World.block_lt_of_cell? w _ hx102_0)).trans hx102_0; replace hx102_1 := (HB.out.cell (World.block_lt_of_cell? w _ hx102_1)).trans hx102_1; replace p102 := eq_true p102; replace q102 := eq_true q102) | ((with_reducible refine gate_dst (N := 6) rfl ?_); refine box_event ?hg (N := 6) ?hd (cs := #[.int .i64 0, .int .i64 0]) (t := 24) ?hr ?_; (case hd => rfl); (case hg => rfl); (case hr => first | (go_simp; done) | (go_simp; rfl)); intro gb103 hg w9 hbox hb; have BK103 := Aside0.mk (hbox); have GW103 := ag hg HB; have GE103 := ag hg HB; have NB101_103 := na hg BK101; have NB103_101 := nb hg BK101; replace BK101 := ab hb BK101; replace HB := hs hb HB; clear hb hbox hg; have hnb10 := NB103_101.out; have hnc10 := NB101_103.out; obtain ⟨hcz11_0, hcz11_1, hfz11_0, hfz11_1⟩ := k2 BK103.out) | ((with_reducible refine gate_store (t := 24) (p := 6) rfl ?_); refine store_event (t := 24) (p := 6) (v := ?vo_w12) (w1 := ((w9.setCell ⟨gb103, 0, none⟩ (.int .i64 ((PSn.rd_T24 l1 0).f0))).setCell ⟨gb103, 1, none⟩ (.int .i64 ((PSn.rd_T24 l1 0).f1)))) ?hg ?ho ?hn ?hr ?_; (case ho => rfl); (case hg => rfl); (case hn => rfl); (case hr => first | (go_simp; done) | (go_simp; rfl)); intro w12 hw; have n0_ : Aside0 (w12.heap[gb101]? = some (.cells #[.int .i64 0, .int .i64 0] 24 (0, 0))) := ⟨(by rw [hw]; exact (bk BK101.out))⟩; have n1_ : Aside0 (w12.heap[gb103]? = some (.cells #[.int .i64 ((PSn.rd_T24 l1 0).f0), .int .i64 ((PSn.rd_T24 l1 0).f1)] 24 (0, 0))) := ⟨(by rw [hw]; exact (by refine bk ?_; refine blk_put (cs := #[.int .i64 ((PSn.rd_T24 l1 0).f0), .int .i64 0]) ?_ 1 _ rfl; refine bk ?_; refine blk_put (cs := #[.int .i64 0, .int .i64 0]) ?_ 0 _ rfl; refine bk ?_; exact BK103.out))⟩; have n2_ : Aside0 (Below w.heap.size w w12) := ⟨(by rw [hw]; exact (bw HB.out))⟩; clear hw; clear BK101; clear BK103; clear HB; have BK101 := n0_; have BK103 := n1_; have HB := n2_; clear n0_ n1_ n2_; have q13 : (1 : Int) ≤ ((l1.length : Int) : Int) := of_decide_eq_true (by first | (with_reducible assumption) | assumption); obtain ⟨i013, hi013, _, hsz13, _⟩ := info_parts info24; have hroom13 : l1.length ≤ c1 := HC1.out; have hC13 : Kd.C PSn.k24 _ (some ad102) l1.length l1 := HR1.out; have hcut13 := cut_from (P := Tryd.prog) 41 24 .i64 Tryd.underlying41 hi013 2 hsz13 (some ad102) l1.length c1 1 (by omega) q13; have hr13 := Kd.C_drop (m := (1 : Int).toNat) (c := c1) hC13 (by omega) hroom13; obtain ⟨A13, hA13⟩ : ∃ A1, A1 = (if c1 = (1 : Int).toNat then (some ad102) else ((some ad102) : Option Addr).map (·.add ((1 : Int).toNat * 2))) := ⟨_, rfl⟩; obtain ⟨c13, hc13⟩ : ∃ c_, c_ = c1 - (1 : Int).toNat := ⟨_, rfl⟩; have hy13 : y104.length = l1.length - (1 : Int).toNat := (by rw [Ny104.out, List.length_drop] <;> omega); rw [show (l1).drop (1 : Int).toNat = y104 from Ny104.out.symm] at hr13; replace hr13 : Kd.C PSn.k24 _ A13 y104.length y104 := (by rw [hA13]; exact hr13); rw [← hy13, ← hA13, ← hc13] at hcut13; have HR107 := Aside0.mk hr13; have HC107 := Aside0.mk (show y104.length ≤ c13 from by rw [hy13, hc13]; exact Nat.sub_le_sub_right hroom13 _); clear hr13 hC13 hroom13 hi013 hsz13 hc13; have KY13 := Aside0.mk hy13; have KA13 := Aside0.mk hA13; clear hy13 hA13; replace q13 := eq_true q13))
      go_loopg [19] k (fun kq v19 w' => ∃ (x19_1 : Int) (x104000_1 : Int) (x104001_1 : Int), v19 = .int .i64 x19_1 ∧ Aside0 (ratio_best.l0 kq a0 y104 (y104.length : Int) x19_1 x104000_1 x104001_1 = some (r1, r2, r3)) ∧ Aside0 (kq ≤ k) ∧ Aside0 (w'.heap[gb101]? = some (.cells #[.int .i64 0, .int .i64 0] 24 (0, 0))) ∧ Aside0 (w'.heap[gb103]? = some (.cells #[.int .i64 x104000_1, .int .i64 x104001_1] 24 (0, 0))) ∧ Aside0 (Below w.heap.size w w'))
      case atStart => exact ⟨(0), ((PSn.rd_T24 l1 0).f0), ((PSn.rd_T24 l1 0).f1), (by first | rfl | (simp; done) | (simp [*]; done)), H', ⟨Nat.le_refl _⟩, ⟨by refine bk ?_; exact BK101.out⟩, ⟨by refine bk ?_; exact BK103.out⟩, ⟨by repeat (first | (with_reducible first | exact HB.out | apply below_alloc | apply pw_below_drewN | apply below_drew1 | refine below_set ?_ GE101.out | refine below_set ?_ GE103.out) | exact HB.out)⟩⟩
      case round =>
        clear H'
        try clear c1
        try clear c3
        try clear c3b0
        try clear c3b1
        try clear c3b2
        try clear c6
        try clear c6b0
        try clear c6b1
        try clear c7
        try clear c7b0
        try clear c7b1
        try clear c13
        try clear q13
        try clear hcz11_0
        try clear hcz11_1
        try clear hfz11_0
        try clear hfz11_1
        try clear hx102_0
        try clear hx102_1
        try clear p102
        try clear q102
        obtain ⟨x19_1, x104000_1, x104001_1, rfl, HA, HK1, BK101, BK103, HB⟩ := hrel
        obtain _ | k1 := gk
        · exact absurd HA.out (by simp [ratio_best.l0])
        have H := HA.out
        clear HA
        simp only [ratio_best.l0] at H
        by_cases c14 : x19_1 < (y104.length : Int)
        · rw [if_pos c14] at H
          have c14b0 : decide (x19_1 < (y104.length : Int)) = true := decide_eq_true c14
          clear c14
          by_cases c15 : 0 ≤ x19_1
          · rw [if_pos c15] at H
            have c15b0 : decide (0 ≤ x19_1) = true := decide_eq_true c15
            clear c15
            by_cases c16 : x19_1 < (y104.length : Int)
            · rw [if_pos c16] at H
              have c16b0 : decide (x19_1 < (y104.length : Int)) = true := decide_eq_true c16
              clear c16
              replace H := Option.bind_eq_some_iff.mp H
              obtain ⟨t110, A170, H⟩ := H
              replace H : (if t110 = a0 then (ratio_best.l0 k1 a0 y104 (y104.length : Int) (wrap64 (x19_1 + 1)) ((PSn.rd_T24 y104 x19_1).f0) ((PSn.rd_T24 y104 x19_1).f1)) else (ratio_best.l0 k1 a0 y104 (y104.length : Int) (wrap64 (x19_1 + 1)) x104000_1 x104001_1)) = some (r1, r2, r3) := H
              have A17 := Aside0.mk A170
              clear A170
              by_cases c18 : t110 = a0
              · rw [if_pos c18] at H
                have c18b0 : (t110 == a0) = true := beq_iff_eq.mpr c18
                have c18b1 : (t110 != a0) = false := bne_eq_false_iff_eq.mpr c18
                clear c18
                have H' := Aside0.mk H
                clear H
                have p108 : 0 ≤ (x19_1 : Int) := of_decide_eq_true (by first | (with_reducible assumption) | assumption)
                have q108 : x19_1 < (y104.length : Int) := of_decide_eq_true (by first | (with_reducible assumption) | assumption)
                obtain ⟨ad108, e108, hx108_0, hx108_1⟩ := PSn.at_T24 HR107.out x19_1 p108 q108
                cases e108
                replace hx108_0 := (HB.out.cell (World.block_lt_of_cell? w _ hx108_0)).trans hx108_0
                replace hx108_1 := (HB.out.cell (World.block_lt_of_cell? w _ hx108_1)).trans hx108_1
                replace p108 := eq_true p108
                replace q108 := eq_true q108
                go_wp2_with (first | ((with_reducible refine gate_dst (N := 8) rfl ?_); refine box_event ?hg (N := 8) ?hd (cs := #[.int .i64 0, .int .i64 0]) (t := 24) ?hr ?_; (case hd => rfl); (case hg => rfl); (case hr => first | (go_simp; done) | (go_simp; rfl)); intro gb109 hg w19 hbox hb; have BK109 := Aside0.mk (hbox); have GW109 := ag hg HB; have GE109 := ag hg HB; have NB101_109 := na hg BK101; have NB109_101 := nb hg BK101; have NB103_109 := na hg BK103; have NB109_103 := nb hg BK103; replace BK101 := ab hb BK101; replace BK103 := ab hb BK103; replace HB := hs hb HB; clear hb hbox hg; have hnb20 := NB109_101.out; have hnc20 := NB101_109.out; have hnb21 := NB109_103.out; have hnc21 := NB103_109.out; obtain ⟨hcz22_0, hcz22_1, hfz22_0, hfz22_1⟩ := k2 BK109.out; have hnb23 := NB103_101.out; have hnc23 := NB101_103.out; obtain ⟨hcz24_0, hcz24_1, hfz24_0, hfz24_1⟩ := k2 BK103.out) | ((with_reducible refine gate_callee (f := 32) rfl ?_); refine goesL_ (some 25) rfl rfl Tryd.func32 (by kernel_rfl) rfl #[.agg #[.int .i64 ((PSn.rd_T24 y104 x19_1).f0), .int .i64 ((PSn.rd_T24 y104 x19_1).f1)], .agg #[.int .i64 x104000_1, .int .i64 x104001_1]] rfl (by (try simp only [List.map_toArray, List.map_cons, List.map_nil]); first | done | rfl | (simp only [List.length_drop, List.length_take]; rfl)) ?_; (with_reducible refine (ratio_CmpO.calls ((PSn.rd_T24 y104 x19_1).f0) ((PSn.rd_T24 y104 x19_1).f1) x104000_1 x104001_1 t110 _ A17.out).mono ?_); rintro e w25 ⟨rfl, hb⟩; refine ⟨_, rfl, ?_⟩; have n0_ := ab hb BK101; have n1_ := ab hb BK103; have n2_ := Aside0.mk (blk_below (g := gb109) (o := .cells #[.int .i64 ((PSn.rd_T24 y104 x19_1).f0), .int .i64 ((PSn.rd_T24 y104 x19_1).f1)] 24 (0, 0)) (by refine bk ?_; refine blk_put (cs := #[.int .i64 ((PSn.rd_T24 y104 x19_1).f0), .int .i64 0]) ?_ 1 _ rfl; refine bk ?_; refine blk_put (cs := #[.int .i64 0, .int .i64 0]) ?_ 0 _ rfl; refine bk ?_; exact BK109.out) hb); have n3_ := hs hb HB; clear BK101; clear BK103; clear BK109; clear HB; have BK101 := n0_; have BK103 := n1_; have BK109 := n2_; have HB := n3_; clear n0_ n1_ n2_ n3_; (try clear hb); (try clear hb2); (try clear hk); (try clear hi); have hcz26_0 : w25.cell? ⟨gb109, 0, none⟩ = some (.int .i64 ((PSn.rd_T24 y104 x19_1).f0)) := PSn.zc0 BK109.out; have hcz26_1 : w25.cell? ⟨gb109, 1, none⟩ = some (.int .i64 ((PSn.rd_T24 y104 x19_1).f1)) := PSn.zc1 BK109.out; have hfz26_0 := blk_frozen BK109.out 0; have hfz26_1 := blk_frozen BK109.out 1; obtain ⟨hcz27_0, hcz27_1, hfz27_0, hfz27_1⟩ := k2 BK103.out))
                go_roundg k1
                case measure => have := HK1.out; omega
                case rel => exact ⟨(wrap64 (x19_1 + 1)), ((PSn.rd_T24 y104 x19_1).f0), ((PSn.rd_T24 y104 x19_1).f1), (by first | rfl | (simp; done) | (simp [*]; done)), H', ⟨by have := HK1.out; omega⟩, ⟨by refine bk ?_; exact BK101.out⟩, ⟨by refine bk ?_; refine blk_put (cs := #[.int .i64 ((PSn.rd_T24 y104 x19_1).f0), .int .i64 x104001_1]) ?_ 1 _ rfl; refine bk ?_; refine blk_put (cs := #[.int .i64 x104000_1, .int .i64 x104001_1]) ?_ 0 _ rfl; refine bk ?_; exact BK103.out⟩, ⟨by repeat (first | (with_reducible first | exact HB.out | apply below_alloc | apply pw_below_drewN | apply below_drew1 | refine below_set ?_ GE101.out | refine below_set ?_ GE103.out | refine below_set ?_ GE109.out) | exact HB.out)⟩⟩
              rw [if_neg c18] at H
              have c18b0 : (t110 == a0) = false := beq_eq_false_iff_ne.mpr c18
              have c18b1 : (t110 != a0) = true := bne_iff_ne.mpr c18
              have H' := Aside0.mk H
              clear H
              have p108 : 0 ≤ (x19_1 : Int) := of_decide_eq_true (by first | (with_reducible assumption) | assumption)
              have q108 : x19_1 < (y104.length : Int) := of_decide_eq_true (by first | (with_reducible assumption) | assumption)
              obtain ⟨ad108, e108, hx108_0, hx108_1⟩ := PSn.at_T24 HR107.out x19_1 p108 q108
              cases e108
              replace hx108_0 := (HB.out.cell (World.block_lt_of_cell? w _ hx108_0)).trans hx108_0
              replace hx108_1 := (HB.out.cell (World.block_lt_of_cell? w _ hx108_1)).trans hx108_1
              replace p108 := eq_true p108
              replace q108 := eq_true q108
              go_wp2_with (first | ((with_reducible refine gate_dst (N := 8) rfl ?_); refine box_event ?hg (N := 8) ?hd (cs := #[.int .i64 0, .int .i64 0]) (t := 24) ?hr ?_; (case hd => rfl); (case hg => rfl); (case hr => first | (go_simp; done) | (go_simp; rfl)); intro gb109 hg w28 hbox hb; have BK109 := Aside0.mk (hbox); have GW109 := ag hg HB; have GE109 := ag hg HB; have NB101_109 := na hg BK101; have NB109_101 := nb hg BK101; have NB103_109 := na hg BK103; have NB109_103 := nb hg BK103; replace BK101 := ab hb BK101; replace BK103 := ab hb BK103; replace HB := hs hb HB; clear hb hbox hg; have hnb29 := NB109_101.out; have hnc29 := NB101_109.out; have hnb30 := NB109_103.out; have hnc30 := NB103_109.out; obtain ⟨hcz31_0, hcz31_1, hfz31_0, hfz31_1⟩ := k2 BK109.out; have hnb32 := NB103_101.out; have hnc32 := NB101_103.out; obtain ⟨hcz33_0, hcz33_1, hfz33_0, hfz33_1⟩ := k2 BK103.out) | ((with_reducible refine gate_callee (f := 32) rfl ?_); refine goesL_ (some 25) rfl rfl Tryd.func32 (by kernel_rfl) rfl #[.agg #[.int .i64 ((PSn.rd_T24 y104 x19_1).f0), .int .i64 ((PSn.rd_T24 y104 x19_1).f1)], .agg #[.int .i64 x104000_1, .int .i64 x104001_1]] rfl (by (try simp only [List.map_toArray, List.map_cons, List.map_nil]); first | done | rfl | (simp only [List.length_drop, List.length_take]; rfl)) ?_; (with_reducible refine (ratio_CmpO.calls ((PSn.rd_T24 y104 x19_1).f0) ((PSn.rd_T24 y104 x19_1).f1) x104000_1 x104001_1 t110 _ A17.out).mono ?_); rintro e w34 ⟨rfl, hb⟩; refine ⟨_, rfl, ?_⟩; have n0_ := ab hb BK101; have n1_ := ab hb BK103; have n2_ := Aside0.mk (blk_below (g := gb109) (o := .cells #[.int .i64 ((PSn.rd_T24 y104 x19_1).f0), .int .i64 ((PSn.rd_T24 y104 x19_1).f1)] 24 (0, 0)) (by refine bk ?_; refine blk_put (cs := #[.int .i64 ((PSn.rd_T24 y104 x19_1).f0), .int .i64 0]) ?_ 1 _ rfl; refine bk ?_; refine blk_put (cs := #[.int .i64 0, .int .i64 0]) ?_ 0 _ rfl; refine bk ?_; exact BK109.out) hb); have n3_ := hs hb HB; clear BK101; clear BK103; clear BK109; clear HB; have BK101 := n0_; have BK103 := n1_; have BK109 := n2_; have HB := n3_; clear n0_ n1_ n2_ n3_; (try clear hb); (try clear hb2); (try clear hk); (try clear hi)))
              go_roundg k1
              case measure => have := HK1.out; omega
              case rel => exact ⟨(wrap64 (x19_1 + 1)), (x104000_1), (x104001_1), (by first | rfl | (simp; done) | (simp [*]; done)), H', ⟨by have := HK1.out; omega⟩, ⟨by refine bk ?_; exact BK101.out⟩, ⟨by refine bk ?_; exact BK103.out⟩, ⟨by repeat (first | (with_reducible first | exact HB.out | apply below_alloc | apply pw_below_drewN | apply below_drew1 | refine below_set ?_ GE101.out | refine below_set ?_ GE103.out | refine below_set ?_ GE109.out) | exact HB.out)⟩⟩
            rw [if_neg c16] at H
            exact absurd H (by simp)
          rw [if_neg c15] at H
          exact absurd H (by simp)
        rw [if_neg c14] at H
        have c14b0 : decide (x19_1 < (y104.length : Int)) = false := decide_eq_false c14
        clear c14
        simp only [Option.some.injEq, Prod.mk.injEq] at H
        obtain ⟨rfl, rfl, rfl⟩ := H
        have hnb35 := NB103_101.out
        have hnc35 := NB101_103.out
        obtain ⟨hcz36_0, hcz36_1, hfz36_0, hfz36_1⟩ := k2 BK103.out
        obtain ⟨hcz37_0, hcz37_1, hfz37_0, hfz37_1⟩ := k2 BK101.out
        go_wp2
        refine bodyPost_ret (results_ct rfl _ _ gb101 24 #[.int .i64 x104000_1, .int .i64 x104001_1] (0, 0) _ rfl (by refine bk ?_; refine blk_put (cs := #[.int .i64 x104000_1, .int .i64 0]) ?_ 1 _ rfl; refine bk ?_; refine blk_put (cs := #[.int .i64 0, .int .i64 0]) ?_ 0 _ rfl; refine bk ?_; exact BK101.out) Tryd.underlying24 rfl (by kernel_rfl)) rfl ?_
        exact ⟨by first | rfl | (simp [errW_none, errW_some] <;> rfl) | (simp [*, errW_none, errW_some] <;> rfl), by repeat (first | (with_reducible first | exact HB.out | apply below_alloc | apply pw_below_drewN | apply below_drew1 | refine below_set ?_ GE101.out | refine below_set ?_ GE103.out) | exact HB.out)⟩
    rw [if_neg c7] at H
    exact absurd H (by simp)
  rw [if_neg c6] at H
  exact absurd H (by simp)

/-! ### ratio_Least: function 36 -/
def ratio_Least.f (k : Nat) (l0 : List (PSn.S24)) : Option (Int × Int × Bool) := (ratio_best.f k (-1) l0).bind fun bt112 => (some (bt112.1, bt112.2.1, bt112.2.2))
set_option maxHeartbeats 8000000 in
set_option maxRecDepth 100000 in
theorem ratio_Least.calls (k : Nat) (A0 : Option Addr) (c0 : Nat) (l0 : List (PSn.S24)) (r1 : Int) (r2 : Int) (r3 : Bool) (w : World) (hr0 : Kd.C PSn.k24 w A0 l0.length l0) (hc0 : l0.length ≤ c0) (h : ratio_Least.f k l0 = some (r1, r2, r3)) :
    Calls Tryd.prog 36 #[.slice A0 l0.length c0] w fun e w' => e = .returned (.tuple #[.agg #[.int .i64 r1, .int .i64 r2], .bool r3]) ∧ Below w.heap.size w w' := by
  have hu24 := Tryd.underlying24
  have HR0 := Aside0.mk hr0
  have HC0 := Aside0.mk hc0
  clear hr0 hc0
  have HB := Aside0.mk (Below.refl w.heap.size w)
  have H : ((ratio_best.f k (-1) l0).bind fun bt112 => (some (bt112.1, bt112.2.1, bt112.2.2))) = some (r1, r2, r3) := h
  clear h
  replace H := Option.bind_eq_some_iff.mp H
  obtain ⟨⟨t112, t113, t114⟩, A20, H⟩ := H
  replace H : (some (t112, t113, t114)) = some (r1, r2, r3) := H
  have A2 := Aside0.mk A20
  clear A20
  simp only [Option.some.injEq, Prod.mk.injEq] at H
  obtain ⟨rfl, rfl, rfl⟩ := H
  go_enter Tryd.func36, Tryd.ntmps36
  go_wp2_with (first | ((with_reducible refine gate_dst (N := 2) rfl ?_); refine box_event ?hg (N := 2) ?hd (cs := #[.int .i64 0, .int .i64 0]) (t := 24) ?hr ?_; (case hd => rfl); (case hg => rfl); (case hr => first | (go_simp; done) | (go_simp; rfl)); intro gb111 hg w3 hbox hb; have BK111 := Aside0.mk (hbox); have GW111 := ag hg HB; have GE111 := ag hg HB; replace HB := hs hb HB; clear hb hbox hg) | ((with_reducible refine gate_callee (f := 65) rfl ?_); refine goesL_ (some 5) rfl rfl Tryd.func65 (by kernel_rfl) rfl #[.int .i64 (-1), .slice A0 l0.length c0] rfl (by (try simp only [List.map_toArray, List.map_cons, List.map_nil]); first | done | rfl | (simp only [List.length_drop, List.length_take]; rfl)) ?_; (with_reducible refine (ratio_best.calls k (-1) _ _ l0 t112 t113 t114 _ ?side1 ?side2 A2.out).mono ?_); (case side1 => repeat (first | exact (Kd.C_below HR0.out HB.out) | (with_reducible refine Kd.C_alloc ?_ _) | (with_reducible refine Kd.C_drewN ?_ _) | (with_reducible refine Kd.C_drew ?_))); (case side2 => exact HC0.out); rintro e w4 ⟨rfl, hb⟩; refine ⟨_, rfl, ?_⟩; replace BK111 := ab hb BK111; replace HB := hs hb HB; (try clear hb); (try clear hb2); (try clear hk); (try clear hi); obtain ⟨hcz5_0, hcz5_1, hfz5_0, hfz5_1⟩ := k2 BK111.out))
  refine bodyPost_ret (results_ct rfl _ _ gb111 24 #[.int .i64 t112, .int .i64 t113] (0, 0) _ rfl (by refine bk ?_; refine blk_put (cs := #[.int .i64 t112, .int .i64 0]) ?_ 1 _ rfl; refine bk ?_; refine blk_put (cs := #[.int .i64 0, .int .i64 0]) ?_ 0 _ rfl; refine bk ?_; exact BK111.out) Tryd.underlying24 rfl (by kernel_rfl)) rfl ?_
  exact ⟨by first | rfl | (simp [errW_none, errW_some] <;> rfl) | (simp [*, errW_none, errW_some] <;> rfl), by repeat (first | (with_reducible first | exact HB.out | apply below_alloc | apply pw_below_drewN | apply below_drew1 | refine below_set ?_ GE111.out) | exact HB.out)⟩

/-! ### ratio_Most: function 38 -/
def ratio_Most.f (k : Nat) (l0 : List (PSn.S24)) : Option (Int × Int × Bool) := (ratio_best.f k 1 l0).bind fun bt116 => (some (bt116.1, bt116.2.1, bt116.2.2))
set_option maxHeartbeats 8000000 in
set_option maxRecDepth 100000 in
theorem ratio_Most.calls (k : Nat) (A0 : Option Addr) (c0 : Nat) (l0 : List (PSn.S24)) (r1 : Int) (r2 : Int) (r3 : Bool) (w : World) (hr0 : Kd.C PSn.k24 w A0 l0.length l0) (hc0 : l0.length ≤ c0) (h : ratio_Most.f k l0 = some (r1, r2, r3)) :
    Calls Tryd.prog 38 #[.slice A0 l0.length c0] w fun e w' => e = .returned (.tuple #[.agg #[.int .i64 r1, .int .i64 r2], .bool r3]) ∧ Below w.heap.size w w' := by
  have hu24 := Tryd.underlying24
  have HR0 := Aside0.mk hr0
  have HC0 := Aside0.mk hc0
  clear hr0 hc0
  have HB := Aside0.mk (Below.refl w.heap.size w)
  have H : ((ratio_best.f k 1 l0).bind fun bt116 => (some (bt116.1, bt116.2.1, bt116.2.2))) = some (r1, r2, r3) := h
  clear h
  replace H := Option.bind_eq_some_iff.mp H
  obtain ⟨⟨t116, t117, t118⟩, A20, H⟩ := H
  replace H : (some (t116, t117, t118)) = some (r1, r2, r3) := H
  have A2 := Aside0.mk A20
  clear A20
  simp only [Option.some.injEq, Prod.mk.injEq] at H
  obtain ⟨rfl, rfl, rfl⟩ := H
  go_enter Tryd.func38, Tryd.ntmps38
  go_wp2_with (first | ((with_reducible refine gate_dst (N := 2) rfl ?_); refine box_event ?hg (N := 2) ?hd (cs := #[.int .i64 0, .int .i64 0]) (t := 24) ?hr ?_; (case hd => rfl); (case hg => rfl); (case hr => first | (go_simp; done) | (go_simp; rfl)); intro gb115 hg w3 hbox hb; have BK115 := Aside0.mk (hbox); have GW115 := ag hg HB; have GE115 := ag hg HB; replace HB := hs hb HB; clear hb hbox hg) | ((with_reducible refine gate_callee (f := 65) rfl ?_); refine goesL_ (some 5) rfl rfl Tryd.func65 (by kernel_rfl) rfl #[.int .i64 1, .slice A0 l0.length c0] rfl (by (try simp only [List.map_toArray, List.map_cons, List.map_nil]); first | done | rfl | (simp only [List.length_drop, List.length_take]; rfl)) ?_; (with_reducible refine (ratio_best.calls k 1 _ _ l0 t116 t117 t118 _ ?side1 ?side2 A2.out).mono ?_); (case side1 => repeat (first | exact (Kd.C_below HR0.out HB.out) | (with_reducible refine Kd.C_alloc ?_ _) | (with_reducible refine Kd.C_drewN ?_ _) | (with_reducible refine Kd.C_drew ?_))); (case side2 => exact HC0.out); rintro e w4 ⟨rfl, hb⟩; refine ⟨_, rfl, ?_⟩; replace BK115 := ab hb BK115; replace HB := hs hb HB; (try clear hb); (try clear hb2); (try clear hk); (try clear hi); obtain ⟨hcz5_0, hcz5_1, hfz5_0, hfz5_1⟩ := k2 BK115.out))
  refine bodyPost_ret (results_ct rfl _ _ gb115 24 #[.int .i64 t116, .int .i64 t117] (0, 0) _ rfl (by refine bk ?_; refine blk_put (cs := #[.int .i64 t116, .int .i64 0]) ?_ 1 _ rfl; refine bk ?_; refine blk_put (cs := #[.int .i64 0, .int .i64 0]) ?_ 0 _ rfl; refine bk ?_; exact BK115.out) Tryd.underlying24 rfl (by kernel_rfl)) rfl ?_
  exact ⟨by first | rfl | (simp [errW_none, errW_some] <;> rfl) | (simp [*, errW_none, errW_some] <;> rfl), by repeat (first | (with_reducible first | exact HB.out | apply below_alloc | apply pw_below_drewN | apply below_drew1 | refine below_set ?_ GE115.out) | exact HB.out)⟩

end Go.Proofs.YtofndakpenpkbaaDoor.PLo
