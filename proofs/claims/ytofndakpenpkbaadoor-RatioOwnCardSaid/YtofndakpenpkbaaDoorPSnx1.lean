-- made by wip/pp2.py out of the translation, over contracts of my own
import Derived.Test.YtofndakpenpkbaaDoorProg
import Derived.Below
import Derived.Deep.Draws
import Derived.Deep.AppendLies
import Derived.Maps.AppendAt
import Derived.OwnWalk
import Derived.Laws.BytesArg
import Derived.Laws.MakeOwn
import Derived.Laws.OwnMore
import Derived.Deep.OwnRows
import Derived.Tactics
import Derived.Lib.ConvBytes
import Derived.Laws.Slices
import Derived.WalkKit
import Derived.KernelRfl
import Derived.RowKit3
import Derived.Deep.LoopGhost
import Derived.Deep.QuietTactic
import Derived.BigQuiet
import Derived.WideLaws
import Derived.Deep.DeepCutAuto
import Derived.Deep.CutBlock
import Derived.Deep.RegionHeld3
import Derived.Laws.Rows
import Derived.Lib.AppendStr
import Derived.ArgAppend
import Derived.Laws.IdiomCopy
import Derived.OrdersHeld
import Derived.Laws.BitsLemmas
import Derived.RowKit
import Derived.Test.YtofndakpenpkbaaDoorRatP
import Derived.Test.YtofndakpenpkbaaDoorXZ
namespace Go.Proofs.YtofndakpenpkbaaDoor.PSn
open Go.Proofs.YtofndakpenpkbaaDoor.PA
open Go.RowKit Go.Proofs.YtofndakpenpkbaaDoorW.PrintWords Go.Proofs.YtofndakpenpkbaaDoorW.PrintLast Go.Proofs.YtofndakpenpkbaaDoorW.PrintMore
set_option linter.unusedVariables false
set_option linter.unusedSimpArgs false



def errW : Option Int → Value
  | none => .nilIface
  | some c => .iface 0 (.int .i64 c)
theorem errW_none : errW none = .nilIface := rfl
theorem errW_some (c : Int) : errW (some c) = .iface 0 (.int .i64 c) := rfl

theorem info24 : (Tryd.prog.info? 24).map (fun i => (i.zero, i.size, i.bytes)) = some (some (.agg #[(.int .i64 0), (.int .i64 0)]), 2, 16) := by kernel_rfl
theorem zc0 {w : World} {g : Nat} {t : TypeId} {a : Value} {l : List Value} (h : w.heap[g]? = some (.cells (List.toArray (a :: l)) t (0, 0))) : w.cell? ⟨g, 0, none⟩ = some a := c0 h
theorem zc1 {w : World} {g : Nat} {t : TypeId} {a b : Value} {l : List Value} (h : w.heap[g]? = some (.cells (List.toArray (a :: b :: l)) t (0, 0))) : w.cell? ⟨g, 1, none⟩ = some b := c1 h
-- the values' own types
/-! #### struct type 24 -/
structure S24 where
  f0 : Int
  f1 : Int
def z24 : S24 := ⟨(0 : Int), (0 : Int)⟩
def k24 : Kd S24 := Kd.iso (Kd.pair (Kd.int .i64) (Kd.int .i64)) (fun x : S24 => (x.f0, x.f1))
theorem k24_open {w : World} {x : S24} {cs : List Value} (h : k24.K w x cs) : cs = [.int .i64 x.f0, .int .i64 x.f1] := by
  obtain ⟨_, _, rfl, rfl, rfl⟩ := h
  exact rfl
theorem k24_openM {w : World} {base : Nat} {ok : Nat → Prop} {x : S24} {cs : List Value} (h : k24.M w base ok x cs) : cs = [.int .i64 x.f0, .int .i64 x.f1] := by
  obtain ⟨_, _, rfl, rfl, rfl⟩ := h
  exact rfl
theorem k24_mk (w : World) (x : S24)  : k24.K w x [.int .i64 x.f0, .int .i64 x.f1] := ⟨[.int .i64 x.f0], [.int .i64 x.f1], rfl, rfl, rfl⟩
theorem k24_mkM (w : World) (base : Nat) (ok : Nat → Prop) (x : S24)  : k24.M w base ok x [.int .i64 x.f0, .int .i64 x.f1] := ⟨[.int .i64 x.f0], [.int .i64 x.f1], rfl, rfl, rfl⟩
def rd_T24 (xs : List S24) (i : Int) : S24 := xs.getD i.toNat z24
theorem at_T24 {w : World} {A : Option Addr} {n : Nat} {xs : List S24} (h : Kd.C k24 w A n xs) (i : Int) (h0 : 0 ≤ i) (h1 : i < n) : ∃ ad , A = some ad ∧ w.cell? (ad.add (i.toNat * 2)) = some (.int .i64 (rd_T24 xs i).f0) ∧ w.cell? ⟨(ad.add (i.toNat * 2)).block, (ad.add (i.toNat * 2)).off + 1, none⟩ = some (.int .i64 (rd_T24 xs i).f1) := by
  obtain ⟨ad, c, e, _, hK, hc0⟩ := Kd.C_get h z24 i h0 h1
  have hc : ∀ j u, c[j]? = some u → w.cell? (ad.add (i.toNat * 2 + j)) = some u := hc0
  obtain rfl := k24_open hK
  exact ⟨ad, e, hc 0 _ rfl, by rw [← add_field _ _ 1 (by omega)]; exact hc 1 _ rfl⟩

end Go.Proofs.YtofndakpenpkbaaDoor.PSn

namespace Go.Proofs.YtofndakpenpkbaaDoor.PSn
open Go.Proofs.YtofndakpenpkbaaDoor.PA
open Go.RowKit Go.Proofs.YtofndakpenpkbaaDoorW.PrintWords Go.Proofs.YtofndakpenpkbaaDoorW.PrintLast Go.Proofs.YtofndakpenpkbaaDoorW.PrintMore
set_option linter.unusedVariables false
set_option linter.unusedSimpArgs false

/-! ### ratio_Add: function 21: told elsewhere -/

/-! ### ratio_Sum: function 34 -/
def ratio_Sum.l0 : Nat → List (S24) → Int → Int → Int → Int → Option (Int × Int × Int)
  | 0, _, _, _, _, _ => none
  | k + 1, x9, x10, x11, x103000, x103001 => if x11 < x10 then (if 0 ≤ x11 then (if x11 < (x9.length : Int) then ((ratio_Add.f x103000 x103001 ((rd_T24 x9 x11).f0) ((rd_T24 x9 x11).f1)).bind fun bt105 => (if bt105.2.2 = 0 then (ratio_Sum.l0 k x9 x10 (wrap64 (x11 + 1)) bt105.1 bt105.2.1) else (some (0, 0, bt105.2.2)))) else (none)) else (none)) else (some (x103000, x103001, 0))
def ratio_Sum.f (k : Nat) (l0 : List (S24)) : Option (Int × Int × Int) := ratio_Sum.l0 k l0 (l0.length : Int) 0 0 1
set_option maxHeartbeats 8000000 in
set_option maxRecDepth 100000 in
theorem ratio_Sum.calls (k : Nat) (A0 : Option Addr) (c0 : Nat) (l0 : List (S24)) (r1 : Int) (r2 : Int) (r3 : Int) (w : World) (hr0 : Kd.C k24 w A0 l0.length l0) (hc0 : l0.length ≤ c0) (h : ratio_Sum.f k l0 = some (r1, r2, r3)) :
    Calls Tryd.prog 34 #[.slice A0 l0.length c0] w fun e w' => e = .returned (.tuple #[.agg #[.int .i64 r1, .int .i64 r2], .int .i64 r3]) ∧ Below w.heap.size w w' := by
  have hu24 := Tryd.underlying24
  have HR0 := Aside0.mk hr0
  have HC0 := Aside0.mk hc0
  clear hr0 hc0
  have HB := Aside0.mk (Below.refl w.heap.size w)
  have H : (ratio_Sum.l0 k l0 (l0.length : Int) 0 0 1) = some (r1, r2, r3) := h
  clear h
  have H' := Aside0.mk H
  clear H
  go_enter Tryd.func34, Tryd.ntmps34
  go_wp2_with (first | ((with_reducible refine gate_dst (N := 2) rfl ?_); refine box_event ?hg (N := 2) ?hd (cs := #[.int .i64 0, .int .i64 0]) (t := 24) ?hr ?_; (case hd => rfl); (case hg => rfl); (case hr => first | (go_simp; done) | (go_simp; rfl)); intro gb101 hg w2 hbox hb; have BK101 := Aside0.mk (hbox); have GW101 := ag hg HB; have GE101 := ag hg HB; replace HB := hs hb HB; clear hb hbox hg) | ((with_reducible refine gate_dst (N := 4) rfl ?_); refine box_event ?hg (N := 4) ?hd (cs := #[.int .i64 0, .int .i64 0]) (t := 24) ?hr ?_; (case hd => rfl); (case hg => rfl); (case hr => first | (go_simp; done) | (go_simp; rfl)); intro gb102 hg w3 hbox hb; have BK102 := Aside0.mk (hbox); have GW102 := ag hg HB; have GE102 := ag hg HB; have NB101_102 := na hg BK101; have NB102_101 := nb hg BK101; replace BK101 := ab hb BK101; replace HB := hs hb HB; clear hb hbox hg; have hnb4 := NB102_101.out; have hnc4 := NB101_102.out; obtain ⟨hcz5_0, hcz5_1, hfz5_0, hfz5_1⟩ := k2 BK102.out))
  go_loopg [11] k (fun kq v11 w' => ∃ (x11_1 : Int) (x102000_1 : Int) (x102001_1 : Int) (x103000_1 : Int) (x103001_1 : Int), v11 = .int .i64 x11_1 ∧ Aside0 (ratio_Sum.l0 kq l0 (l0.length : Int) x11_1 x103000_1 x103001_1 = some (r1, r2, r3)) ∧ Aside0 (kq ≤ k) ∧ Aside0 (w'.heap[gb101]? = some (.cells #[.int .i64 x102000_1, .int .i64 x102001_1] 24 (0, 0))) ∧ Aside0 (w'.heap[gb102]? = some (.cells #[.int .i64 x103000_1, .int .i64 x103001_1] 24 (0, 0))) ∧ Aside0 (Below w.heap.size w w'))
  case atStart => exact ⟨(0), (0), (0), (0), (1), (by first | rfl | (simp; done) | (simp [*]; done)), H', ⟨Nat.le_refl _⟩, ⟨by refine bk ?_; exact BK101.out⟩, ⟨by refine bk ?_; refine blk_put (cs := #[.int .i64 0, .int .i64 0]) ?_ 1 _ rfl; refine bk ?_; refine blk_put (cs := #[.int .i64 0, .int .i64 0]) ?_ 0 _ rfl; refine bk ?_; exact BK102.out⟩, ⟨by repeat (first | (with_reducible first | exact HB.out | apply below_alloc | apply pw_below_drewN | apply below_drew1 | refine below_set ?_ GE101.out | refine below_set ?_ GE102.out) | exact HB.out)⟩⟩
  case round =>
    clear H'
    try clear hcz5_0
    try clear hcz5_1
    try clear hfz5_0
    try clear hfz5_1
    obtain ⟨x11_1, x102000_1, x102001_1, x103000_1, x103001_1, rfl, HA, HK1, BK101, BK102, HB⟩ := hrel
    obtain _ | k1 := gk
    · exact absurd HA.out (by simp [ratio_Sum.l0])
    have H := HA.out
    clear HA
    simp only [ratio_Sum.l0] at H
    by_cases c6 : x11_1 < (l0.length : Int)
    · rw [if_pos c6] at H
      have c6b0 : decide (x11_1 < (l0.length : Int)) = true := decide_eq_true c6
      clear c6
      by_cases c7 : 0 ≤ x11_1
      · rw [if_pos c7] at H
        have c7b0 : decide (0 ≤ x11_1) = true := decide_eq_true c7
        clear c7
        by_cases c8 : x11_1 < (l0.length : Int)
        · rw [if_pos c8] at H
          have c8b0 : decide (x11_1 < (l0.length : Int)) = true := decide_eq_true c8
          clear c8
          replace H := Option.bind_eq_some_iff.mp H
          obtain ⟨⟨t105, t106, t107⟩, A90, H⟩ := H
          replace H : (if t107 = 0 then (ratio_Sum.l0 k1 l0 (l0.length : Int) (wrap64 (x11_1 + 1)) t105 t106) else (some (0, 0, t107))) = some (r1, r2, r3) := H
          have A9 := Aside0.mk A90
          clear A90
          by_cases c10 : t107 = 0
          · rw [if_pos c10] at H
            have c10b0 : (t107 == 0) = true := beq_iff_eq.mpr c10
            have c10b1 : (t107 != 0) = false := bne_eq_false_iff_eq.mpr c10
            clear c10
            have H' := Aside0.mk H
            clear H
            have p103 : 0 ≤ (x11_1 : Int) := of_decide_eq_true (by first | (with_reducible assumption) | assumption)
            have q103 : x11_1 < (l0.length : Int) := of_decide_eq_true (by first | (with_reducible assumption) | assumption)
            obtain ⟨ad103, e103, hx103_0, hx103_1⟩ := at_T24 HR0.out x11_1 p103 q103
            cases e103
            replace hx103_0 := (HB.out.cell (World.block_lt_of_cell? w _ hx103_0)).trans hx103_0
            replace hx103_1 := (HB.out.cell (World.block_lt_of_cell? w _ hx103_1)).trans hx103_1
            replace p103 := eq_true p103
            replace q103 := eq_true q103
            go_wp2_with (first | ((with_reducible refine gate_dst (N := 6) rfl ?_); refine box_event ?hg (N := 6) ?hd (cs := #[.int .i64 0, .int .i64 0]) (t := 24) ?hr ?_; (case hd => rfl); (case hg => rfl); (case hr => first | (go_simp; done) | (go_simp; rfl)); intro gb104 hg w11 hbox hb; have BK104 := Aside0.mk (hbox); have GW104 := ag hg HB; have GE104 := ag hg HB; have NB101_104 := na hg BK101; have NB104_101 := nb hg BK101; have NB102_104 := na hg BK102; have NB104_102 := nb hg BK102; replace BK101 := ab hb BK101; replace BK102 := ab hb BK102; replace HB := hs hb HB; clear hb hbox hg; have hnb12 := NB104_101.out; have hnc12 := NB101_104.out; have hnb13 := NB104_102.out; have hnc13 := NB102_104.out; obtain ⟨hcz14_0, hcz14_1, hfz14_0, hfz14_1⟩ := k2 BK104.out; have hnb15 := NB102_101.out; have hnc15 := NB101_102.out; obtain ⟨hcz16_0, hcz16_1, hfz16_0, hfz16_1⟩ := k2 BK102.out) | ((with_reducible refine gate_callee (f := 21) rfl ?_); refine goesL_ (some 18) rfl rfl Tryd.func21 (by kernel_rfl) rfl #[.agg #[.int .i64 x103000_1, .int .i64 x103001_1], .agg #[.int .i64 ((rd_T24 l0 x11_1).f0), .int .i64 ((rd_T24 l0 x11_1).f1)]] rfl (by (try simp only [List.map_toArray, List.map_cons, List.map_nil]); first | done | rfl | (simp only [List.length_drop, List.length_take]; rfl)) ?_; (with_reducible refine (ratio_Add.calls x103000_1 x103001_1 ((rd_T24 l0 x11_1).f0) ((rd_T24 l0 x11_1).f1) t105 t106 t107 _ A9.out).mono ?_); rintro e w17 ⟨rfl, hb⟩; refine ⟨_, rfl, ?_⟩; have n0_ := ab hb BK101; have n1_ := ab hb BK102; have n2_ := Aside0.mk (blk_below (g := gb104) (o := .cells #[.int .i64 ((rd_T24 l0 x11_1).f0), .int .i64 ((rd_T24 l0 x11_1).f1)] 24 (0, 0)) (by refine bk ?_; refine blk_put (cs := #[.int .i64 ((rd_T24 l0 x11_1).f0), .int .i64 0]) ?_ 1 _ rfl; refine bk ?_; refine blk_put (cs := #[.int .i64 0, .int .i64 0]) ?_ 0 _ rfl; refine bk ?_; exact BK104.out) hb); have n3_ := hs hb HB; clear BK101; clear BK102; clear BK104; clear HB; have BK101 := n0_; have BK102 := n1_; have BK104 := n2_; have HB := n3_; clear n0_ n1_ n2_ n3_; (try clear hb); (try clear hb2); (try clear hk); (try clear hi); obtain ⟨hcz18_0, hcz18_1, hfz18_0, hfz18_1⟩ := k2 BK102.out))
            go_roundg k1
            case measure => have := HK1.out; omega
            case rel => exact ⟨(wrap64 (x11_1 + 1)), (x102000_1), (x102001_1), (t105), (t106), (by first | rfl | (simp; done) | (simp [*]; done)), H', ⟨by have := HK1.out; omega⟩, ⟨by refine bk ?_; exact BK101.out⟩, ⟨by refine bk ?_; refine blk_put (cs := #[.int .i64 t105, .int .i64 x103001_1]) ?_ 1 _ rfl; refine bk ?_; refine blk_put (cs := #[.int .i64 x103000_1, .int .i64 x103001_1]) ?_ 0 _ rfl; refine bk ?_; exact BK102.out⟩, ⟨by repeat (first | (with_reducible first | exact HB.out | apply below_alloc | apply pw_below_drewN | apply below_drew1 | refine below_set ?_ GE101.out | refine below_set ?_ GE102.out | refine below_set ?_ GE104.out) | exact HB.out)⟩⟩
          rw [if_neg c10] at H
          have c10b0 : (t107 == 0) = false := beq_eq_false_iff_ne.mpr c10
          have c10b1 : (t107 != 0) = true := bne_iff_ne.mpr c10
          simp only [Option.some.injEq, Prod.mk.injEq] at H
          obtain ⟨rfl, rfl, rfl⟩ := H
          have p103 : 0 ≤ (x11_1 : Int) := of_decide_eq_true (by first | (with_reducible assumption) | assumption)
          have q103 : x11_1 < (l0.length : Int) := of_decide_eq_true (by first | (with_reducible assumption) | assumption)
          obtain ⟨ad103, e103, hx103_0, hx103_1⟩ := at_T24 HR0.out x11_1 p103 q103
          cases e103
          replace hx103_0 := (HB.out.cell (World.block_lt_of_cell? w _ hx103_0)).trans hx103_0
          replace hx103_1 := (HB.out.cell (World.block_lt_of_cell? w _ hx103_1)).trans hx103_1
          replace p103 := eq_true p103
          replace q103 := eq_true q103
          go_wp2_with (first | ((with_reducible refine gate_dst (N := 6) rfl ?_); refine box_event ?hg (N := 6) ?hd (cs := #[.int .i64 0, .int .i64 0]) (t := 24) ?hr ?_; (case hd => rfl); (case hg => rfl); (case hr => first | (go_simp; done) | (go_simp; rfl)); intro gb104 hg w19 hbox hb; have BK104 := Aside0.mk (hbox); have GW104 := ag hg HB; have GE104 := ag hg HB; have NB101_104 := na hg BK101; have NB104_101 := nb hg BK101; have NB102_104 := na hg BK102; have NB104_102 := nb hg BK102; replace BK101 := ab hb BK101; replace BK102 := ab hb BK102; replace HB := hs hb HB; clear hb hbox hg; have hnb20 := NB104_101.out; have hnc20 := NB101_104.out; have hnb21 := NB104_102.out; have hnc21 := NB102_104.out; obtain ⟨hcz22_0, hcz22_1, hfz22_0, hfz22_1⟩ := k2 BK104.out; have hnb23 := NB102_101.out; have hnc23 := NB101_102.out; obtain ⟨hcz24_0, hcz24_1, hfz24_0, hfz24_1⟩ := k2 BK102.out) | ((with_reducible refine gate_callee (f := 21) rfl ?_); refine goesL_ (some 18) rfl rfl Tryd.func21 (by kernel_rfl) rfl #[.agg #[.int .i64 x103000_1, .int .i64 x103001_1], .agg #[.int .i64 ((rd_T24 l0 x11_1).f0), .int .i64 ((rd_T24 l0 x11_1).f1)]] rfl (by (try simp only [List.map_toArray, List.map_cons, List.map_nil]); first | done | rfl | (simp only [List.length_drop, List.length_take]; rfl)) ?_; (with_reducible refine (ratio_Add.calls x103000_1 x103001_1 ((rd_T24 l0 x11_1).f0) ((rd_T24 l0 x11_1).f1) t105 t106 t107 _ A9.out).mono ?_); rintro e w25 ⟨rfl, hb⟩; refine ⟨_, rfl, ?_⟩; have n0_ := ab hb BK101; have n1_ := ab hb BK102; have n2_ := Aside0.mk (blk_below (g := gb104) (o := .cells #[.int .i64 ((rd_T24 l0 x11_1).f0), .int .i64 ((rd_T24 l0 x11_1).f1)] 24 (0, 0)) (by refine bk ?_; refine blk_put (cs := #[.int .i64 ((rd_T24 l0 x11_1).f0), .int .i64 0]) ?_ 1 _ rfl; refine bk ?_; refine blk_put (cs := #[.int .i64 0, .int .i64 0]) ?_ 0 _ rfl; refine bk ?_; exact BK104.out) hb); have n3_ := hs hb HB; clear BK101; clear BK102; clear BK104; clear HB; have BK101 := n0_; have BK102 := n1_; have BK104 := n2_; have HB := n3_; clear n0_ n1_ n2_ n3_; (try clear hb); (try clear hb2); (try clear hk); (try clear hi); obtain ⟨hcz26_0, hcz26_1, hfz26_0, hfz26_1⟩ := k2 BK102.out; obtain ⟨hcz27_0, hcz27_1, hfz27_0, hfz27_1⟩ := k2 BK101.out))
          refine bodyPost_ret (results_ct rfl _ _ gb101 24 #[.int .i64 0, .int .i64 0] (0, 0) _ rfl (by refine bk ?_; refine blk_put (cs := #[.int .i64 0, .int .i64 x102001_1]) ?_ 1 _ rfl; refine bk ?_; refine blk_put (cs := #[.int .i64 x102000_1, .int .i64 x102001_1]) ?_ 0 _ rfl; refine bk ?_; exact BK101.out) Tryd.underlying24 rfl (by kernel_rfl)) rfl ?_
          exact ⟨by first | rfl | (simp [errW_none, errW_some] <;> rfl) | (simp [*, errW_none, errW_some] <;> rfl), by repeat (first | (with_reducible first | exact HB.out | apply below_alloc | apply pw_below_drewN | apply below_drew1 | refine below_set ?_ GE101.out | refine below_set ?_ GE102.out | refine below_set ?_ GE104.out) | exact HB.out)⟩
        rw [if_neg c8] at H
        exact absurd H (by simp)
      rw [if_neg c7] at H
      exact absurd H (by simp)
    rw [if_neg c6] at H
    have c6b0 : decide (x11_1 < (l0.length : Int)) = false := decide_eq_false c6
    clear c6
    simp only [Option.some.injEq, Prod.mk.injEq] at H
    obtain ⟨rfl, rfl, rfl⟩ := H
    have hnb28 := NB102_101.out
    have hnc28 := NB101_102.out
    obtain ⟨hcz29_0, hcz29_1, hfz29_0, hfz29_1⟩ := k2 BK102.out
    obtain ⟨hcz30_0, hcz30_1, hfz30_0, hfz30_1⟩ := k2 BK101.out
    go_wp2
    refine bodyPost_ret (results_ct rfl _ _ gb101 24 #[.int .i64 x103000_1, .int .i64 x103001_1] (0, 0) _ rfl (by refine bk ?_; refine blk_put (cs := #[.int .i64 x103000_1, .int .i64 x102001_1]) ?_ 1 _ rfl; refine bk ?_; refine blk_put (cs := #[.int .i64 x102000_1, .int .i64 x102001_1]) ?_ 0 _ rfl; refine bk ?_; exact BK101.out) Tryd.underlying24 rfl (by kernel_rfl)) rfl ?_
    exact ⟨by first | rfl | (simp [errW_none, errW_some] <;> rfl) | (simp [*, errW_none, errW_some] <;> rfl), by repeat (first | (with_reducible first | exact HB.out | apply below_alloc | apply pw_below_drewN | apply below_drew1 | refine below_set ?_ GE101.out | refine below_set ?_ GE102.out) | exact HB.out)⟩

/-! ### ratio_Cmp: function 32: told elsewhere -/

/-! ### ratio_best: function 65 -/
def ratio_best.l0 : Nat → Int → List (S24) → Int → Int → Int → Int → Option (Int × Int × Bool)
  | 0, _, _, _, _, _, _ => none
  | k + 1, x0, x17, x18, x19, x111000, x111001 => if x19 < x18 then (if 0 ≤ x19 then (if x19 < (x17.length : Int) then ((ratio_Cmp.f ((rd_T24 x17 x19).f0) ((rd_T24 x17 x19).f1) x111000 x111001).bind fun t117 => (if t117 = x0 then (ratio_best.l0 k x0 x17 x18 (wrap64 (x19 + 1)) ((rd_T24 x17 x19).f0) ((rd_T24 x17 x19).f1)) else (ratio_best.l0 k x0 x17 x18 (wrap64 (x19 + 1)) x111000 x111001))) else (none)) else (none)) else (some (x111000, x111001, true))
def ratio_best.f (k : Nat) (a0 : Int) (l1 : List (S24)) : Option (Int × Int × Bool) := if (l1.length : Int) = 0 then (some (0, 0, false)) else (if 0 < (l1.length : Int) then (if 1 ≤ (l1.length : Int) then ((some (l1.drop 1 : List (S24))).bind fun y111 => (ratio_best.l0 k a0 y111 (y111.length : Int) 0 ((rd_T24 l1 0).f0) ((rd_T24 l1 0).f1))) else (none)) else (none))
set_option maxHeartbeats 8000000 in
set_option maxRecDepth 100000 in
theorem ratio_best.calls (k : Nat) (a0 : Int) (A1 : Option Addr) (c1 : Nat) (l1 : List (S24)) (r1 : Int) (r2 : Int) (r3 : Bool) (w : World) (hr1 : Kd.C k24 w A1 l1.length l1) (hc1 : l1.length ≤ c1) (h : ratio_best.f k a0 l1 = some (r1, r2, r3)) :
    Calls Tryd.prog 65 #[.int .i64 a0, .slice A1 l1.length c1] w fun e w' => e = .returned (.tuple #[.agg #[.int .i64 r1, .int .i64 r2], .bool r3]) ∧ Below w.heap.size w w' := by
  have hu24 := Tryd.underlying24
  have HR1 := Aside0.mk hr1
  have HC1 := Aside0.mk hc1
  clear hr1 hc1
  have HB := Aside0.mk (Below.refl w.heap.size w)
  have H : (if (l1.length : Int) = 0 then (some (0, 0, false)) else (if 0 < (l1.length : Int) then (if 1 ≤ (l1.length : Int) then ((some (l1.drop 1 : List (S24))).bind fun y111 => (ratio_best.l0 k a0 y111 (y111.length : Int) 0 ((rd_T24 l1 0).f0) ((rd_T24 l1 0).f1))) else (none)) else (none))) = some (r1, r2, r3) := h
  clear h
  by_cases c3 : (l1.length : Int) = 0
  · rw [if_pos c3] at H
    have c3b0 : ((l1.length : Int) == 0) = true := beq_iff_eq.mpr c3
    have c3b1 : ((l1.length : Int) != 0) = false := bne_eq_false_iff_eq.mpr c3
    clear c3
    simp only [Option.some.injEq, Prod.mk.injEq] at H
    obtain ⟨rfl, rfl, rfl⟩ := H
    go_enter Tryd.func65, Tryd.ntmps65
    go_wp2_with (first | ((with_reducible refine gate_dst (N := 4) rfl ?_); refine box_event ?hg (N := 4) ?hd (cs := #[.int .i64 0, .int .i64 0]) (t := 24) ?hr ?_; (case hd => rfl); (case hg => rfl); (case hr => first | (go_simp; done) | (go_simp; rfl)); intro gb108 hg w4 hbox hb; have BK108 := Aside0.mk (hbox); have GW108 := ag hg HB; have GE108 := ag hg HB; replace HB := hs hb HB; clear hb hbox hg; obtain ⟨hcz5_0, hcz5_1, hfz5_0, hfz5_1⟩ := k2 BK108.out))
    refine bodyPost_ret (results_ct rfl _ _ gb108 24 #[.int .i64 0, .int .i64 0] (0, 0) _ rfl (by refine bk ?_; refine blk_put (cs := #[.int .i64 0, .int .i64 0]) ?_ 1 _ rfl; refine bk ?_; refine blk_put (cs := #[.int .i64 0, .int .i64 0]) ?_ 0 _ rfl; refine bk ?_; exact BK108.out) Tryd.underlying24 rfl (by kernel_rfl)) rfl ?_
    exact ⟨by first | rfl | (simp [errW_none, errW_some] <;> rfl) | (simp [*, errW_none, errW_some] <;> rfl), by repeat (first | (with_reducible first | exact HB.out | apply below_alloc | apply pw_below_drewN | apply below_drew1 | refine below_set ?_ GE108.out) | exact HB.out)⟩
  rw [if_neg c3] at H
  have c3b0 : ((l1.length : Int) == 0) = false := beq_eq_false_iff_ne.mpr c3
  have c3b1 : ((l1.length : Int) != 0) = true := bne_iff_ne.mpr c3
  have c3b2 : ¬ (l1 = []) := fun h_ => c3 (by rw [h_]; rfl)
  by_cases c6 : 0 < (l1.length : Int)
  · rw [if_pos c6] at H
    have c6b0 : decide (0 < (l1.length : Int)) = true := decide_eq_true c6
    have c6b1 : decide (0 < l1.length) = true := decide_eq_true (by omega)
    clear c6
    by_cases c7 : 1 ≤ (l1.length : Int)
    · rw [if_pos c7] at H
      have c7b0 := eq_true c7
      have c7b1 : decide (1 ≤ (l1.length : Int)) = true := decide_eq_true c7
      clear c7
      obtain ⟨y111, hy111⟩ : ∃ y_ : List (S24), y_ = (l1.drop 1) := ⟨_, rfl⟩
      replace H : (ratio_best.l0 k a0 y111 (y111.length : Int) 0 ((rd_T24 l1 0).f0) ((rd_T24 l1 0).f1)) = some (r1, r2, r3) := by first | (rw [hy111]; with_reducible exact H) | (have H2_ := (Option.bind_some _ _).symm.trans H; rw [hy111]; with_reducible exact H2_) | (have H2_ := (Option.bind_some _ _).symm.trans H; with_reducible exact H2_) | with_reducible exact H | (rw [hy111]; exact H) | exact H
      have Ny111 := Aside0.mk hy111
      clear hy111
      have H' := Aside0.mk H
      clear H
      go_enter Tryd.func65, Tryd.ntmps65
      go_wp2_with (first | ((with_reducible refine gate_dst (N := 4) rfl ?_); refine box_event ?hg (N := 4) ?hd (cs := #[.int .i64 0, .int .i64 0]) (t := 24) ?hr ?_; (case hd => rfl); (case hg => rfl); (case hr => first | (go_simp; done) | (go_simp; rfl)); intro gb108 hg w8 hbox hb; have BK108 := Aside0.mk (hbox); have GW108 := ag hg HB; have GE108 := ag hg HB; replace HB := hs hb HB; clear hb hbox hg; have p109 : 0 ≤ (0 : Int) := (by omega); have q109 : 0 < (l1.length : Int) := of_decide_eq_true (by first | (with_reducible assumption) | assumption); obtain ⟨ad109, e109, hx109_0, hx109_1⟩ := at_T24 HR1.out 0 p109 q109; cases e109; have qi109 : (0 < l1.length) = True := eq_true (by omega); (try rw [show ((0 : Int)).toNat = 0 from rfl] at hx109_0); (try rw [show 0 * 2 = 0 from rfl] at hx109_0); (try rw [Addr.add_zero'] at hx109_0); (try rw [show ((0 : Int)).toNat = 0 from rfl] at hx109_1); (try rw [show 0 * 2 = 0 from rfl] at hx109_1); (try rw [Addr.add_zero'] at hx109_1); replace hx109_0 := (HB.out.cell (World.block_lt_of_cell? w _ hx109_0)).trans hx109_0; replace hx109_1 := (HB.out.cell (World.block_lt_of_cell? w _ hx109_1)).trans hx109_1; replace p109 := eq_true p109; replace q109 := eq_true q109) | ((with_reducible refine gate_dst (N := 6) rfl ?_); refine box_event ?hg (N := 6) ?hd (cs := #[.int .i64 0, .int .i64 0]) (t := 24) ?hr ?_; (case hd => rfl); (case hg => rfl); (case hr => first | (go_simp; done) | (go_simp; rfl)); intro gb110 hg w9 hbox hb; have BK110 := Aside0.mk (hbox); have GW110 := ag hg HB; have GE110 := ag hg HB; have NB108_110 := na hg BK108; have NB110_108 := nb hg BK108; replace BK108 := ab hb BK108; replace HB := hs hb HB; clear hb hbox hg; have hnb10 := NB110_108.out; have hnc10 := NB108_110.out; obtain ⟨hcz11_0, hcz11_1, hfz11_0, hfz11_1⟩ := k2 BK110.out) | ((with_reducible refine gate_store (t := 24) (p := 6) rfl ?_); refine store_event (t := 24) (p := 6) (v := ?vo_w12) (w1 := ((w9.setCell ⟨gb110, 0, none⟩ (.int .i64 ((rd_T24 l1 0).f0))).setCell ⟨gb110, 1, none⟩ (.int .i64 ((rd_T24 l1 0).f1)))) ?hg ?ho ?hn ?hr ?_; (case ho => rfl); (case hg => rfl); (case hn => rfl); (case hr => first | (go_simp; done) | (go_simp; rfl)); intro w12 hw; have n0_ : Aside0 (w12.heap[gb108]? = some (.cells #[.int .i64 0, .int .i64 0] 24 (0, 0))) := ⟨(by rw [hw]; exact (bk BK108.out))⟩; have n1_ : Aside0 (w12.heap[gb110]? = some (.cells #[.int .i64 ((rd_T24 l1 0).f0), .int .i64 ((rd_T24 l1 0).f1)] 24 (0, 0))) := ⟨(by rw [hw]; exact (by refine bk ?_; refine blk_put (cs := #[.int .i64 ((rd_T24 l1 0).f0), .int .i64 0]) ?_ 1 _ rfl; refine bk ?_; refine blk_put (cs := #[.int .i64 0, .int .i64 0]) ?_ 0 _ rfl; refine bk ?_; exact BK110.out))⟩; have n2_ : Aside0 (Below w.heap.size w w12) := ⟨(by rw [hw]; exact (bw HB.out))⟩; clear hw; clear BK108; clear BK110; clear HB; have BK108 := n0_; have BK110 := n1_; have HB := n2_; clear n0_ n1_ n2_; have q13 : (1 : Int) ≤ ((l1.length : Int) : Int) := of_decide_eq_true (by first | (with_reducible assumption) | assumption); obtain ⟨i013, hi013, _, hsz13, _⟩ := info_parts info24; have hroom13 : l1.length ≤ c1 := HC1.out; have hC13 : Kd.C k24 _ (some ad109) l1.length l1 := HR1.out; have hcut13 := cut_from (P := Tryd.prog) 41 24 .i64 Tryd.underlying41 hi013 2 hsz13 (some ad109) l1.length c1 1 (by omega) q13; have hr13 := Kd.C_drop (m := (1 : Int).toNat) (c := c1) hC13 (by omega) hroom13; obtain ⟨A13, hA13⟩ : ∃ A1, A1 = (if c1 = (1 : Int).toNat then (some ad109) else ((some ad109) : Option Addr).map (·.add ((1 : Int).toNat * 2))) := ⟨_, rfl⟩; obtain ⟨c13, hc13⟩ : ∃ c_, c_ = c1 - (1 : Int).toNat := ⟨_, rfl⟩; have hy13 : y111.length = l1.length - (1 : Int).toNat := (by rw [Ny111.out, List.length_drop] <;> omega); rw [show (l1).drop (1 : Int).toNat = y111 from Ny111.out.symm] at hr13; replace hr13 : Kd.C k24 _ A13 y111.length y111 := (by rw [hA13]; exact hr13); rw [← hy13, ← hA13, ← hc13] at hcut13; have HR114 := Aside0.mk hr13; have HC114 := Aside0.mk (show y111.length ≤ c13 from by rw [hy13, hc13]; exact Nat.sub_le_sub_right hroom13 _); clear hr13 hC13 hroom13 hi013 hsz13 hc13; have KY13 := Aside0.mk hy13; have KA13 := Aside0.mk hA13; clear hy13 hA13; replace q13 := eq_true q13))
      go_loopg [19] k (fun kq v19 w' => ∃ (x19_1 : Int) (x111000_1 : Int) (x111001_1 : Int), v19 = .int .i64 x19_1 ∧ Aside0 (ratio_best.l0 kq a0 y111 (y111.length : Int) x19_1 x111000_1 x111001_1 = some (r1, r2, r3)) ∧ Aside0 (kq ≤ k) ∧ Aside0 (w'.heap[gb108]? = some (.cells #[.int .i64 0, .int .i64 0] 24 (0, 0))) ∧ Aside0 (w'.heap[gb110]? = some (.cells #[.int .i64 x111000_1, .int .i64 x111001_1] 24 (0, 0))) ∧ Aside0 (Below w.heap.size w w'))
      case atStart => exact ⟨(0), ((rd_T24 l1 0).f0), ((rd_T24 l1 0).f1), (by first | rfl | (simp; done) | (simp [*]; done)), H', ⟨Nat.le_refl _⟩, ⟨by refine bk ?_; exact BK108.out⟩, ⟨by refine bk ?_; exact BK110.out⟩, ⟨by repeat (first | (with_reducible first | exact HB.out | apply below_alloc | apply pw_below_drewN | apply below_drew1 | refine below_set ?_ GE108.out | refine below_set ?_ GE110.out) | exact HB.out)⟩⟩
      case round =>
        clear H'
        try clear c1
        try clear c3
        try clear c3b0
        try clear c3b1
        try clear c3b2
        try clear c6
        try clear c6b0
        try clear c6b1
        try clear c7
        try clear c7b0
        try clear c7b1
        try clear c13
        try clear q13
        try clear hcz11_0
        try clear hcz11_1
        try clear hfz11_0
        try clear hfz11_1
        try clear hx109_0
        try clear hx109_1
        try clear p109
        try clear q109
        obtain ⟨x19_1, x111000_1, x111001_1, rfl, HA, HK1, BK108, BK110, HB⟩ := hrel
        obtain _ | k1 := gk
        · exact absurd HA.out (by simp [ratio_best.l0])
        have H := HA.out
        clear HA
        simp only [ratio_best.l0] at H
        by_cases c14 : x19_1 < (y111.length : Int)
        · rw [if_pos c14] at H
          have c14b0 : decide (x19_1 < (y111.length : Int)) = true := decide_eq_true c14
          clear c14
          by_cases c15 : 0 ≤ x19_1
          · rw [if_pos c15] at H
            have c15b0 : decide (0 ≤ x19_1) = true := decide_eq_true c15
            clear c15
            by_cases c16 : x19_1 < (y111.length : Int)
            · rw [if_pos c16] at H
              have c16b0 : decide (x19_1 < (y111.length : Int)) = true := decide_eq_true c16
              clear c16
              replace H := Option.bind_eq_some_iff.mp H
              obtain ⟨t117, A170, H⟩ := H
              replace H : (if t117 = a0 then (ratio_best.l0 k1 a0 y111 (y111.length : Int) (wrap64 (x19_1 + 1)) ((rd_T24 y111 x19_1).f0) ((rd_T24 y111 x19_1).f1)) else (ratio_best.l0 k1 a0 y111 (y111.length : Int) (wrap64 (x19_1 + 1)) x111000_1 x111001_1)) = some (r1, r2, r3) := H
              have A17 := Aside0.mk A170
              clear A170
              by_cases c18 : t117 = a0
              · rw [if_pos c18] at H
                have c18b0 : (t117 == a0) = true := beq_iff_eq.mpr c18
                have c18b1 : (t117 != a0) = false := bne_eq_false_iff_eq.mpr c18
                clear c18
                have H' := Aside0.mk H
                clear H
                have p115 : 0 ≤ (x19_1 : Int) := of_decide_eq_true (by first | (with_reducible assumption) | assumption)
                have q115 : x19_1 < (y111.length : Int) := of_decide_eq_true (by first | (with_reducible assumption) | assumption)
                obtain ⟨ad115, e115, hx115_0, hx115_1⟩ := at_T24 HR114.out x19_1 p115 q115
                cases e115
                replace hx115_0 := (HB.out.cell (World.block_lt_of_cell? w _ hx115_0)).trans hx115_0
                replace hx115_1 := (HB.out.cell (World.block_lt_of_cell? w _ hx115_1)).trans hx115_1
                replace p115 := eq_true p115
                replace q115 := eq_true q115
                go_wp2_with (first | ((with_reducible refine gate_dst (N := 8) rfl ?_); refine box_event ?hg (N := 8) ?hd (cs := #[.int .i64 0, .int .i64 0]) (t := 24) ?hr ?_; (case hd => rfl); (case hg => rfl); (case hr => first | (go_simp; done) | (go_simp; rfl)); intro gb116 hg w19 hbox hb; have BK116 := Aside0.mk (hbox); have GW116 := ag hg HB; have GE116 := ag hg HB; have NB108_116 := na hg BK108; have NB116_108 := nb hg BK108; have NB110_116 := na hg BK110; have NB116_110 := nb hg BK110; replace BK108 := ab hb BK108; replace BK110 := ab hb BK110; replace HB := hs hb HB; clear hb hbox hg; have hnb20 := NB116_108.out; have hnc20 := NB108_116.out; have hnb21 := NB116_110.out; have hnc21 := NB110_116.out; obtain ⟨hcz22_0, hcz22_1, hfz22_0, hfz22_1⟩ := k2 BK116.out; have hnb23 := NB110_108.out; have hnc23 := NB108_110.out; obtain ⟨hcz24_0, hcz24_1, hfz24_0, hfz24_1⟩ := k2 BK110.out) | ((with_reducible refine gate_callee (f := 32) rfl ?_); refine goesL_ (some 25) rfl rfl Tryd.func32 (by kernel_rfl) rfl #[.agg #[.int .i64 ((rd_T24 y111 x19_1).f0), .int .i64 ((rd_T24 y111 x19_1).f1)], .agg #[.int .i64 x111000_1, .int .i64 x111001_1]] rfl (by (try simp only [List.map_toArray, List.map_cons, List.map_nil]); first | done | rfl | (simp only [List.length_drop, List.length_take]; rfl)) ?_; (with_reducible refine (ratio_Cmp.calls ((rd_T24 y111 x19_1).f0) ((rd_T24 y111 x19_1).f1) x111000_1 x111001_1 t117 _ A17.out).mono ?_); rintro e w25 ⟨rfl, hb⟩; refine ⟨_, rfl, ?_⟩; have n0_ := ab hb BK108; have n1_ := ab hb BK110; have n2_ := Aside0.mk (blk_below (g := gb116) (o := .cells #[.int .i64 ((rd_T24 y111 x19_1).f0), .int .i64 ((rd_T24 y111 x19_1).f1)] 24 (0, 0)) (by refine bk ?_; refine blk_put (cs := #[.int .i64 ((rd_T24 y111 x19_1).f0), .int .i64 0]) ?_ 1 _ rfl; refine bk ?_; refine blk_put (cs := #[.int .i64 0, .int .i64 0]) ?_ 0 _ rfl; refine bk ?_; exact BK116.out) hb); have n3_ := hs hb HB; clear BK108; clear BK110; clear BK116; clear HB; have BK108 := n0_; have BK110 := n1_; have BK116 := n2_; have HB := n3_; clear n0_ n1_ n2_ n3_; (try clear hb); (try clear hb2); (try clear hk); (try clear hi); have hcz26_0 : w25.cell? ⟨gb116, 0, none⟩ = some (.int .i64 ((rd_T24 y111 x19_1).f0)) := zc0 BK116.out; have hcz26_1 : w25.cell? ⟨gb116, 1, none⟩ = some (.int .i64 ((rd_T24 y111 x19_1).f1)) := zc1 BK116.out; have hfz26_0 := blk_frozen BK116.out 0; have hfz26_1 := blk_frozen BK116.out 1; obtain ⟨hcz27_0, hcz27_1, hfz27_0, hfz27_1⟩ := k2 BK110.out))
                go_roundg k1
                case measure => have := HK1.out; omega
                case rel => exact ⟨(wrap64 (x19_1 + 1)), ((rd_T24 y111 x19_1).f0), ((rd_T24 y111 x19_1).f1), (by first | rfl | (simp; done) | (simp [*]; done)), H', ⟨by have := HK1.out; omega⟩, ⟨by refine bk ?_; exact BK108.out⟩, ⟨by refine bk ?_; refine blk_put (cs := #[.int .i64 ((rd_T24 y111 x19_1).f0), .int .i64 x111001_1]) ?_ 1 _ rfl; refine bk ?_; refine blk_put (cs := #[.int .i64 x111000_1, .int .i64 x111001_1]) ?_ 0 _ rfl; refine bk ?_; exact BK110.out⟩, ⟨by repeat (first | (with_reducible first | exact HB.out | apply below_alloc | apply pw_below_drewN | apply below_drew1 | refine below_set ?_ GE108.out | refine below_set ?_ GE110.out | refine below_set ?_ GE116.out) | exact HB.out)⟩⟩
              rw [if_neg c18] at H
              have c18b0 : (t117 == a0) = false := beq_eq_false_iff_ne.mpr c18
              have c18b1 : (t117 != a0) = true := bne_iff_ne.mpr c18
              have H' := Aside0.mk H
              clear H
              have p115 : 0 ≤ (x19_1 : Int) := of_decide_eq_true (by first | (with_reducible assumption) | assumption)
              have q115 : x19_1 < (y111.length : Int) := of_decide_eq_true (by first | (with_reducible assumption) | assumption)
              obtain ⟨ad115, e115, hx115_0, hx115_1⟩ := at_T24 HR114.out x19_1 p115 q115
              cases e115
              replace hx115_0 := (HB.out.cell (World.block_lt_of_cell? w _ hx115_0)).trans hx115_0
              replace hx115_1 := (HB.out.cell (World.block_lt_of_cell? w _ hx115_1)).trans hx115_1
              replace p115 := eq_true p115
              replace q115 := eq_true q115
              go_wp2_with (first | ((with_reducible refine gate_dst (N := 8) rfl ?_); refine box_event ?hg (N := 8) ?hd (cs := #[.int .i64 0, .int .i64 0]) (t := 24) ?hr ?_; (case hd => rfl); (case hg => rfl); (case hr => first | (go_simp; done) | (go_simp; rfl)); intro gb116 hg w28 hbox hb; have BK116 := Aside0.mk (hbox); have GW116 := ag hg HB; have GE116 := ag hg HB; have NB108_116 := na hg BK108; have NB116_108 := nb hg BK108; have NB110_116 := na hg BK110; have NB116_110 := nb hg BK110; replace BK108 := ab hb BK108; replace BK110 := ab hb BK110; replace HB := hs hb HB; clear hb hbox hg; have hnb29 := NB116_108.out; have hnc29 := NB108_116.out; have hnb30 := NB116_110.out; have hnc30 := NB110_116.out; obtain ⟨hcz31_0, hcz31_1, hfz31_0, hfz31_1⟩ := k2 BK116.out; have hnb32 := NB110_108.out; have hnc32 := NB108_110.out; obtain ⟨hcz33_0, hcz33_1, hfz33_0, hfz33_1⟩ := k2 BK110.out) | ((with_reducible refine gate_callee (f := 32) rfl ?_); refine goesL_ (some 25) rfl rfl Tryd.func32 (by kernel_rfl) rfl #[.agg #[.int .i64 ((rd_T24 y111 x19_1).f0), .int .i64 ((rd_T24 y111 x19_1).f1)], .agg #[.int .i64 x111000_1, .int .i64 x111001_1]] rfl (by (try simp only [List.map_toArray, List.map_cons, List.map_nil]); first | done | rfl | (simp only [List.length_drop, List.length_take]; rfl)) ?_; (with_reducible refine (ratio_Cmp.calls ((rd_T24 y111 x19_1).f0) ((rd_T24 y111 x19_1).f1) x111000_1 x111001_1 t117 _ A17.out).mono ?_); rintro e w34 ⟨rfl, hb⟩; refine ⟨_, rfl, ?_⟩; have n0_ := ab hb BK108; have n1_ := ab hb BK110; have n2_ := Aside0.mk (blk_below (g := gb116) (o := .cells #[.int .i64 ((rd_T24 y111 x19_1).f0), .int .i64 ((rd_T24 y111 x19_1).f1)] 24 (0, 0)) (by refine bk ?_; refine blk_put (cs := #[.int .i64 ((rd_T24 y111 x19_1).f0), .int .i64 0]) ?_ 1 _ rfl; refine bk ?_; refine blk_put (cs := #[.int .i64 0, .int .i64 0]) ?_ 0 _ rfl; refine bk ?_; exact BK116.out) hb); have n3_ := hs hb HB; clear BK108; clear BK110; clear BK116; clear HB; have BK108 := n0_; have BK110 := n1_; have BK116 := n2_; have HB := n3_; clear n0_ n1_ n2_ n3_; (try clear hb); (try clear hb2); (try clear hk); (try clear hi)))
              go_roundg k1
              case measure => have := HK1.out; omega
              case rel => exact ⟨(wrap64 (x19_1 + 1)), (x111000_1), (x111001_1), (by first | rfl | (simp; done) | (simp [*]; done)), H', ⟨by have := HK1.out; omega⟩, ⟨by refine bk ?_; exact BK108.out⟩, ⟨by refine bk ?_; exact BK110.out⟩, ⟨by repeat (first | (with_reducible first | exact HB.out | apply below_alloc | apply pw_below_drewN | apply below_drew1 | refine below_set ?_ GE108.out | refine below_set ?_ GE110.out | refine below_set ?_ GE116.out) | exact HB.out)⟩⟩
            rw [if_neg c16] at H
            exact absurd H (by simp)
          rw [if_neg c15] at H
          exact absurd H (by simp)
        rw [if_neg c14] at H
        have c14b0 : decide (x19_1 < (y111.length : Int)) = false := decide_eq_false c14
        clear c14
        simp only [Option.some.injEq, Prod.mk.injEq] at H
        obtain ⟨rfl, rfl, rfl⟩ := H
        have hnb35 := NB110_108.out
        have hnc35 := NB108_110.out
        obtain ⟨hcz36_0, hcz36_1, hfz36_0, hfz36_1⟩ := k2 BK110.out
        obtain ⟨hcz37_0, hcz37_1, hfz37_0, hfz37_1⟩ := k2 BK108.out
        go_wp2
        refine bodyPost_ret (results_ct rfl _ _ gb108 24 #[.int .i64 x111000_1, .int .i64 x111001_1] (0, 0) _ rfl (by refine bk ?_; refine blk_put (cs := #[.int .i64 x111000_1, .int .i64 0]) ?_ 1 _ rfl; refine bk ?_; refine blk_put (cs := #[.int .i64 0, .int .i64 0]) ?_ 0 _ rfl; refine bk ?_; exact BK108.out) Tryd.underlying24 rfl (by kernel_rfl)) rfl ?_
        exact ⟨by first | rfl | (simp [errW_none, errW_some] <;> rfl) | (simp [*, errW_none, errW_some] <;> rfl), by repeat (first | (with_reducible first | exact HB.out | apply below_alloc | apply pw_below_drewN | apply below_drew1 | refine below_set ?_ GE108.out | refine below_set ?_ GE110.out) | exact HB.out)⟩
    rw [if_neg c7] at H
    exact absurd H (by simp)
  rw [if_neg c6] at H
  exact absurd H (by simp)

/-! ### ratio_Least: function 36 -/
def ratio_Least.f (k : Nat) (l0 : List (S24)) : Option (Int × Int × Bool) := (ratio_best.f k (-1) l0).bind fun bt119 => (some (bt119.1, bt119.2.1, bt119.2.2))
set_option maxHeartbeats 8000000 in
set_option maxRecDepth 100000 in
theorem ratio_Least.calls (k : Nat) (A0 : Option Addr) (c0 : Nat) (l0 : List (S24)) (r1 : Int) (r2 : Int) (r3 : Bool) (w : World) (hr0 : Kd.C k24 w A0 l0.length l0) (hc0 : l0.length ≤ c0) (h : ratio_Least.f k l0 = some (r1, r2, r3)) :
    Calls Tryd.prog 36 #[.slice A0 l0.length c0] w fun e w' => e = .returned (.tuple #[.agg #[.int .i64 r1, .int .i64 r2], .bool r3]) ∧ Below w.heap.size w w' := by
  have hu24 := Tryd.underlying24
  have HR0 := Aside0.mk hr0
  have HC0 := Aside0.mk hc0
  clear hr0 hc0
  have HB := Aside0.mk (Below.refl w.heap.size w)
  have H : ((ratio_best.f k (-1) l0).bind fun bt119 => (some (bt119.1, bt119.2.1, bt119.2.2))) = some (r1, r2, r3) := h
  clear h
  replace H := Option.bind_eq_some_iff.mp H
  obtain ⟨⟨t119, t120, t121⟩, A20, H⟩ := H
  replace H : (some (t119, t120, t121)) = some (r1, r2, r3) := H
  have A2 := Aside0.mk A20
  clear A20
  simp only [Option.some.injEq, Prod.mk.injEq] at H
  obtain ⟨rfl, rfl, rfl⟩ := H
  go_enter Tryd.func36, Tryd.ntmps36
  go_wp2_with (first | ((with_reducible refine gate_dst (N := 2) rfl ?_); refine box_event ?hg (N := 2) ?hd (cs := #[.int .i64 0, .int .i64 0]) (t := 24) ?hr ?_; (case hd => rfl); (case hg => rfl); (case hr => first | (go_simp; done) | (go_simp; rfl)); intro gb118 hg w3 hbox hb; have BK118 := Aside0.mk (hbox); have GW118 := ag hg HB; have GE118 := ag hg HB; replace HB := hs hb HB; clear hb hbox hg) | ((with_reducible refine gate_callee (f := 65) rfl ?_); refine goesL_ (some 5) rfl rfl Tryd.func65 (by kernel_rfl) rfl #[.int .i64 (-1), .slice A0 l0.length c0] rfl (by (try simp only [List.map_toArray, List.map_cons, List.map_nil]); first | done | rfl | (simp only [List.length_drop, List.length_take]; rfl)) ?_; (with_reducible refine (ratio_best.calls k (-1) _ _ l0 t119 t120 t121 _ ?side1 ?side2 A2.out).mono ?_); (case side1 => repeat (first | exact (Kd.C_below HR0.out HB.out) | (with_reducible refine Kd.C_alloc ?_ _) | (with_reducible refine Kd.C_drewN ?_ _) | (with_reducible refine Kd.C_drew ?_))); (case side2 => exact HC0.out); rintro e w4 ⟨rfl, hb⟩; refine ⟨_, rfl, ?_⟩; replace BK118 := ab hb BK118; replace HB := hs hb HB; (try clear hb); (try clear hb2); (try clear hk); (try clear hi); obtain ⟨hcz5_0, hcz5_1, hfz5_0, hfz5_1⟩ := k2 BK118.out))
  refine bodyPost_ret (results_ct rfl _ _ gb118 24 #[.int .i64 t119, .int .i64 t120] (0, 0) _ rfl (by refine bk ?_; refine blk_put (cs := #[.int .i64 t119, .int .i64 0]) ?_ 1 _ rfl; refine bk ?_; refine blk_put (cs := #[.int .i64 0, .int .i64 0]) ?_ 0 _ rfl; refine bk ?_; exact BK118.out) Tryd.underlying24 rfl (by kernel_rfl)) rfl ?_
  exact ⟨by first | rfl | (simp [errW_none, errW_some] <;> rfl) | (simp [*, errW_none, errW_some] <;> rfl), by repeat (first | (with_reducible first | exact HB.out | apply below_alloc | apply pw_below_drewN | apply below_drew1 | refine below_set ?_ GE118.out) | exact HB.out)⟩

/-! ### ratio_Most: function 38 -/
def ratio_Most.f (k : Nat) (l0 : List (S24)) : Option (Int × Int × Bool) := (ratio_best.f k 1 l0).bind fun bt123 => (some (bt123.1, bt123.2.1, bt123.2.2))
set_option maxHeartbeats 8000000 in
set_option maxRecDepth 100000 in
theorem ratio_Most.calls (k : Nat) (A0 : Option Addr) (c0 : Nat) (l0 : List (S24)) (r1 : Int) (r2 : Int) (r3 : Bool) (w : World) (hr0 : Kd.C k24 w A0 l0.length l0) (hc0 : l0.length ≤ c0) (h : ratio_Most.f k l0 = some (r1, r2, r3)) :
    Calls Tryd.prog 38 #[.slice A0 l0.length c0] w fun e w' => e = .returned (.tuple #[.agg #[.int .i64 r1, .int .i64 r2], .bool r3]) ∧ Below w.heap.size w w' := by
  have hu24 := Tryd.underlying24
  have HR0 := Aside0.mk hr0
  have HC0 := Aside0.mk hc0
  clear hr0 hc0
  have HB := Aside0.mk (Below.refl w.heap.size w)
  have H : ((ratio_best.f k 1 l0).bind fun bt123 => (some (bt123.1, bt123.2.1, bt123.2.2))) = some (r1, r2, r3) := h
  clear h
  replace H := Option.bind_eq_some_iff.mp H
  obtain ⟨⟨t123, t124, t125⟩, A20, H⟩ := H
  replace H : (some (t123, t124, t125)) = some (r1, r2, r3) := H
  have A2 := Aside0.mk A20
  clear A20
  simp only [Option.some.injEq, Prod.mk.injEq] at H
  obtain ⟨rfl, rfl, rfl⟩ := H
  go_enter Tryd.func38, Tryd.ntmps38
  go_wp2_with (first | ((with_reducible refine gate_dst (N := 2) rfl ?_); refine box_event ?hg (N := 2) ?hd (cs := #[.int .i64 0, .int .i64 0]) (t := 24) ?hr ?_; (case hd => rfl); (case hg => rfl); (case hr => first | (go_simp; done) | (go_simp; rfl)); intro gb122 hg w3 hbox hb; have BK122 := Aside0.mk (hbox); have GW122 := ag hg HB; have GE122 := ag hg HB; replace HB := hs hb HB; clear hb hbox hg) | ((with_reducible refine gate_callee (f := 65) rfl ?_); refine goesL_ (some 5) rfl rfl Tryd.func65 (by kernel_rfl) rfl #[.int .i64 1, .slice A0 l0.length c0] rfl (by (try simp only [List.map_toArray, List.map_cons, List.map_nil]); first | done | rfl | (simp only [List.length_drop, List.length_take]; rfl)) ?_; (with_reducible refine (ratio_best.calls k 1 _ _ l0 t123 t124 t125 _ ?side1 ?side2 A2.out).mono ?_); (case side1 => repeat (first | exact (Kd.C_below HR0.out HB.out) | (with_reducible refine Kd.C_alloc ?_ _) | (with_reducible refine Kd.C_drewN ?_ _) | (with_reducible refine Kd.C_drew ?_))); (case side2 => exact HC0.out); rintro e w4 ⟨rfl, hb⟩; refine ⟨_, rfl, ?_⟩; replace BK122 := ab hb BK122; replace HB := hs hb HB; (try clear hb); (try clear hb2); (try clear hk); (try clear hi); obtain ⟨hcz5_0, hcz5_1, hfz5_0, hfz5_1⟩ := k2 BK122.out))
  refine bodyPost_ret (results_ct rfl _ _ gb122 24 #[.int .i64 t123, .int .i64 t124] (0, 0) _ rfl (by refine bk ?_; refine blk_put (cs := #[.int .i64 t123, .int .i64 0]) ?_ 1 _ rfl; refine bk ?_; refine blk_put (cs := #[.int .i64 0, .int .i64 0]) ?_ 0 _ rfl; refine bk ?_; exact BK122.out) Tryd.underlying24 rfl (by kernel_rfl)) rfl ?_
  exact ⟨by first | rfl | (simp [errW_none, errW_some] <;> rfl) | (simp [*, errW_none, errW_some] <;> rfl), by repeat (first | (with_reducible first | exact HB.out | apply below_alloc | apply pw_below_drewN | apply below_drew1 | refine below_set ?_ GE122.out) | exact HB.out)⟩

end Go.Proofs.YtofndakpenpkbaaDoor.PSn
