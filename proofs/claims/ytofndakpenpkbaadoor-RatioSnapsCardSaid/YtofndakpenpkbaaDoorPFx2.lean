-- made by wip/pp2.py out of the translation, over contracts of my own
import Derived.Test.YtofndakpenpkbaaDoorProg
import Derived.Below
import Derived.Deep.Draws
import Derived.Deep.AppendLies
import Derived.Maps.AppendAt
import Derived.OwnWalk
import Derived.Laws.BytesArg
import Derived.Laws.MakeOwn
import Derived.Laws.OwnMore
import Derived.Deep.OwnRows
import Derived.Tactics
import Derived.Lib.ConvBytes
import Derived.Laws.Slices
import Derived.WalkKit
import Derived.KernelRfl
import Derived.RowKit3
import Derived.Deep.LoopGhost
import Derived.Deep.QuietTactic
import Derived.BigQuiet
import Derived.WideLaws
import Derived.Deep.DeepCutAuto
import Derived.Deep.CutBlock
import Derived.Deep.RegionHeld3
import Derived.Laws.Rows
import Derived.Lib.AppendStr
import Derived.ArgAppend
import Derived.Laws.IdiomCopy
import Derived.OrdersHeld
import Derived.Laws.BitsLemmas
import Derived.RowKit
import Derived.Test.YtofndakpenpkbaaDoorPRx1
import Derived.Test.YtofndakpenpkbaaDoorRefD
import Derived.Test.YtofndakpenpkbaaDoorPPx1
import Derived.Test.YtofndakpenpkbaaDoorXW
namespace Go.Proofs.YtofndakpenpkbaaDoor.PF
open Go.Proofs.YtofndakpenpkbaaDoor.PA Go.Proofs.YtofndakpenpkbaaDoor.PR Go.Proofs.YtofndakpenpkbaaDoor.PP
open Go.RowKit Go.Proofs.YtofndakpenpkbaaDoorW.PrintWords Go.Proofs.YtofndakpenpkbaaDoorW.PrintLast Go.Proofs.YtofndakpenpkbaaDoorW.PrintMore
set_option linter.unusedVariables false
set_option linter.unusedSimpArgs false



def errW : Option Int → Value
  | none => .nilIface
  | some c => .iface 0 (.int .i64 c)
theorem errW_none : errW none = .nilIface := rfl
theorem errW_some (c : Int) : errW (some c) = .iface 0 (.int .i64 c) := rfl

-- the values' own types
/-! #### struct type 74 -/
structure S74 where
  f0 : Bool
  f1 : Int
  f2 : Int
def z74 : S74 := ⟨false, (0 : Int), (0 : Int)⟩
def k74 : Kd S74 := Kd.iso (Kd.pair Kd.bool (Kd.pair (Kd.int .u64) (Kd.int .u64))) (fun x : S74 => (x.f0, x.f1, x.f2))
theorem k74_open {w : World} {x : S74} {cs : List Value} (h : k74.K w x cs) : cs = [.bool x.f0, .int .u64 x.f1, .int .u64 x.f2] := by
  obtain ⟨_, _, rfl, rfl, ⟨_, _, rfl, rfl, rfl⟩⟩ := h
  exact rfl
theorem k74_openM {w : World} {base : Nat} {ok : Nat → Prop} {x : S74} {cs : List Value} (h : k74.M w base ok x cs) : cs = [.bool x.f0, .int .u64 x.f1, .int .u64 x.f2] := by
  obtain ⟨_, _, rfl, rfl, ⟨_, _, rfl, rfl, rfl⟩⟩ := h
  exact rfl
theorem k74_mk (w : World) (x : S74)  : k74.K w x [.bool x.f0, .int .u64 x.f1, .int .u64 x.f2] := ⟨[.bool x.f0], [.int .u64 x.f1, .int .u64 x.f2], rfl, rfl, ⟨[.int .u64 x.f1], [.int .u64 x.f2], rfl, rfl, rfl⟩⟩
theorem k74_mkM (w : World) (base : Nat) (ok : Nat → Prop) (x : S74)  : k74.M w base ok x [.bool x.f0, .int .u64 x.f1, .int .u64 x.f2] := ⟨[.bool x.f0], [.int .u64 x.f1, .int .u64 x.f2], rfl, rfl, ⟨[.int .u64 x.f1], [.int .u64 x.f2], rfl, rfl, rfl⟩⟩
def rd_T74 (xs : List S74) (i : Int) : S74 := xs.getD i.toNat z74
theorem at_T74 {w : World} {A : Option Addr} {n : Nat} {xs : List S74} (h : Kd.C k74 w A n xs) (i : Int) (h0 : 0 ≤ i) (h1 : i < n) : ∃ ad , A = some ad ∧ w.cell? (ad.add (i.toNat * 3)) = some (.bool (rd_T74 xs i).f0) ∧ w.cell? ⟨(ad.add (i.toNat * 3)).block, (ad.add (i.toNat * 3)).off + 1, none⟩ = some (.int .u64 (rd_T74 xs i).f1) ∧ w.cell? ⟨(ad.add (i.toNat * 3)).block, (ad.add (i.toNat * 3)).off + 2, none⟩ = some (.int .u64 (rd_T74 xs i).f2) := by
  obtain ⟨ad, c, e, _, hK, hc0⟩ := Kd.C_get h z74 i h0 h1
  have hc : ∀ j u, c[j]? = some u → w.cell? (ad.add (i.toNat * 3 + j)) = some u := hc0
  obtain rfl := k74_open hK
  exact ⟨ad, e, hc 0 _ rfl, by rw [← add_field _ _ 1 (by omega)]; exact hc 1 _ rfl, by rw [← add_field _ _ 2 (by omega)]; exact hc 2 _ rfl⟩

end Go.Proofs.YtofndakpenpkbaaDoor.PF

namespace Go.Proofs.YtofndakpenpkbaaDoor.PF
open Go.Proofs.YtofndakpenpkbaaDoor.PA Go.Proofs.YtofndakpenpkbaaDoor.PR Go.Proofs.YtofndakpenpkbaaDoor.PP
open Go.RowKit Go.Proofs.YtofndakpenpkbaaDoorW.PrintWords Go.Proofs.YtofndakpenpkbaaDoorW.PrintLast Go.Proofs.YtofndakpenpkbaaDoorW.PrintMore
set_option linter.unusedVariables false
set_option linter.unusedSimpArgs false

/-! ### surtitleref3_right: function 54: told elsewhere -/

/-! ### surtitleref3_Plus: function 63: told elsewhere -/

/-! ### surtitleref3_divided: function 85: told elsewhere -/

/-! ### surtitleref3_Floor: function 92 -/
def surtitleref3_Floor.j0 : Nat → Bool → Bool → Int → Int → Option (Bool × Int × Int)
  | 0, _, _, _, _ => none
  | k + 1, x28, x111000, x111001, x111002 => if x28 = true then ((surtitleref3_Plus.f k x111000 x111001 x111002 false 0 1).bind fun bt112 => ((surtitleref3_right.f true bt112.2.1 bt112.2.2).bind fun bt115 => (some (bt115.1, bt115.2.1, bt115.2.2)))) else ((surtitleref3_right.f true x111001 x111002).bind fun bt118 => (some (bt118.1, bt118.2.1, bt118.2.2)))
def surtitleref3_Floor.f (k : Nat) (a0_0 : Bool) (a0_1 : Int) (a0_2 : Int) (a1_0 : Bool) (a1_1 : Int) (a1_2 : Int) : Option (Bool × Int × Int) := (surtitleref3_divided.f k false a0_1 a0_2 a1_0 a1_1 a1_2).bind fun bt104 => (if a0_0 = true then (if bt104.2.2.2.2.1 = 0 then (surtitleref3_Floor.j0 k (bt104.2.2.2.2.2 != 0) bt104.1 bt104.2.1 bt104.2.2.1) else (surtitleref3_Floor.j0 k true bt104.1 bt104.2.1 bt104.2.2.1)) else (some (bt104.1, bt104.2.1, bt104.2.2.1)))
set_option maxHeartbeats 8000000 in
set_option maxRecDepth 100000 in
theorem surtitleref3_Floor.calls (k : Nat) (a0_0 : Bool) (a0_1 : Int) (a0_2 : Int) (a1_0 : Bool) (a1_1 : Int) (a1_2 : Int) (r1 : Bool) (r2 : Int) (r3 : Int) (w : World) (h : surtitleref3_Floor.f k a0_0 a0_1 a0_2 a1_0 a1_1 a1_2 = some (r1, r2, r3)) :
    Calls Tryd.prog 92 #[.agg #[.bool a0_0, .int .u64 a0_1, .int .u64 a0_2], .agg #[.bool a1_0, .int .u64 a1_1, .int .u64 a1_2]] w fun e w' => e = .returned (.agg #[.bool r1, .int .u64 r2, .int .u64 r3]) ∧ Below w.heap.size w w' := by
  have hu74 := Tryd.underlying74
  have HB := Aside0.mk (Below.refl w.heap.size w)
  have H : ((surtitleref3_divided.f k false a0_1 a0_2 a1_0 a1_1 a1_2).bind fun bt104 => (if a0_0 = true then (if bt104.2.2.2.2.1 = 0 then (surtitleref3_Floor.j0 k (bt104.2.2.2.2.2 != 0) bt104.1 bt104.2.1 bt104.2.2.1) else (surtitleref3_Floor.j0 k true bt104.1 bt104.2.1 bt104.2.2.1)) else (some (bt104.1, bt104.2.1, bt104.2.2.1)))) = some (r1, r2, r3) := h
  clear h
  replace H := Option.bind_eq_some_iff.mp H
  obtain ⟨⟨t104, t105, t106, t107, t108, t109⟩, A30, H⟩ := H
  replace H : (if a0_0 = true then (if t108 = 0 then (surtitleref3_Floor.j0 k (t109 != 0) t104 t105 t106) else (surtitleref3_Floor.j0 k true t104 t105 t106)) else (some (t104, t105, t106))) = some (r1, r2, r3) := H
  have A3 := Aside0.mk A30
  clear A30
  by_cases c4 : a0_0 = true
  · subst c4
    have H1 : (if t108 = 0 then (surtitleref3_Floor.j0 k (t109 != 0) t104 t105 t106) else (surtitleref3_Floor.j0 k true t104 t105 t106)) = some (r1, r2, r3) := by rw [if_pos rfl] at H; exact H
    clear H
    have H := H1
    clear H1
    have HC5 := Aside0.mk H
    clear H
    go_enter Tryd.func92, Tryd.ntmps92
    go_upto_region 4 with (first | ((with_reducible refine gate_dst (N := 2) rfl ?_); refine box_event ?hg (N := 2) ?hd (cs := #[.bool true, .int .u64 a0_1, .int .u64 a0_2]) (t := 74) ?hr ?_; (case hd => rfl); (case hg => rfl); (case hr => first | (go_simp; done) | (go_simp; rfl)); intro gb101 hg w6 hbox hb; have BK101 := Aside0.mk (hbox); have GW101 := ag hg HB; have GE101 := ag hg HB; replace HB := hs hb HB; clear hb hbox hg) | ((with_reducible refine gate_dst (N := 3) rfl ?_); refine box_event ?hg (N := 3) ?hd (cs := #[.bool a1_0, .int .u64 a1_1, .int .u64 a1_2]) (t := 74) ?hr ?_; (case hd => rfl); (case hg => rfl); (case hr => first | (go_simp; done) | (go_simp; rfl)); intro gb102 hg w7 hbox hb; have BK102 := Aside0.mk (hbox); have GW102 := ag hg HB; have GE102 := ag hg HB; have NB101_102 := na hg BK101; have NB102_101 := nb hg BK101; replace BK101 := ab hb BK101; replace HB := hs hb HB; clear hb hbox hg) | ((with_reducible refine gate_dst (N := 4) rfl ?_); refine box_event ?hg (N := 4) ?hd (cs := #[.bool false, .int .u64 0, .int .u64 0]) (t := 74) ?hr ?_; (case hd => rfl); (case hg => rfl); (case hr => first | (go_simp; done) | (go_simp; rfl)); intro gb103 hg w8 hbox hb; have BK103 := Aside0.mk (hbox); have GW103 := ag hg HB; have GE103 := ag hg HB; have NB101_103 := na hg BK101; have NB103_101 := nb hg BK101; have NB102_103 := na hg BK102; have NB103_102 := nb hg BK102; replace BK101 := ab hb BK101; replace BK102 := ab hb BK102; replace HB := hs hb HB; clear hb hbox hg; have hnb9 := NB101_102.out; have hnc9 := NB102_101.out; have hnb10 := NB101_103.out; have hnc10 := NB103_101.out; obtain ⟨hcz11_0, hcz11_1, hcz11_2, hfz11_0, hfz11_1, hfz11_2⟩ := k3 BK101.out; have hnb12 := NB102_103.out; have hnc12 := NB103_102.out; obtain ⟨hcz13_0, hcz13_1, hcz13_2, hfz13_0, hfz13_1, hfz13_2⟩ := k3 BK102.out) | ((with_reducible refine gate_callee (f := 85) rfl ?_); refine goesL_ (some 14) rfl rfl Tryd.func85 (by kernel_rfl) rfl #[.agg #[.bool false, .int .u64 a0_1, .int .u64 a0_2], .agg #[.bool a1_0, .int .u64 a1_1, .int .u64 a1_2]] rfl (by (try simp only [List.map_toArray, List.map_cons, List.map_nil]); first | done | rfl | (simp only [List.length_drop, List.length_take]; rfl)) ?_; (with_reducible refine (surtitleref3_divided.calls k false a0_1 a0_2 a1_0 a1_1 a1_2 t104 t105 t106 t107 t108 t109 _ A3.out).mono ?_); rintro e w14 ⟨rfl, hb⟩; refine ⟨_, rfl, ?_⟩; replace BK101 := ab hb BK101; replace BK102 := ab hb BK102; replace BK103 := ab hb BK103; replace HB := hs hb HB; (try clear hb); (try clear hb2); (try clear hk); (try clear hi)) | ((with_reducible refine gate_dst (N := 5) rfl ?_); refine box_event ?hg (N := 5) ?hd (cs := #[.bool false, .int .u64 0, .int .u64 0]) (t := 74) ?hr ?_; (case hd => rfl); (case hg => rfl); (case hr => first | (go_simp; done) | (go_simp; rfl)); intro gb110 hg w15 hbox hb; have BK110 := Aside0.mk (hbox); have GW110 := ag hg HB; have GE110 := ag hg HB; have NB101_110 := na hg BK101; have NB110_101 := nb hg BK101; have NB102_110 := na hg BK102; have NB110_102 := nb hg BK102; have NB103_110 := na hg BK103; have NB110_103 := nb hg BK103; replace BK101 := ab hb BK101; replace BK102 := ab hb BK102; replace BK103 := ab hb BK103; replace HB := hs hb HB; clear hb hbox hg) | ((with_reducible refine gate_dst (N := 6) rfl ?_); refine box_event ?hg (N := 6) ?hd (cs := #[.bool false, .int .u64 0, .int .u64 0]) (t := 74) ?hr ?_; (case hd => rfl); (case hg => rfl); (case hr => first | (go_simp; done) | (go_simp; rfl)); intro gb111 hg w16 hbox hb; have BK111 := Aside0.mk (hbox); have GW111 := ag hg HB; have GE111 := ag hg HB; have NB101_111 := na hg BK101; have NB111_101 := nb hg BK101; have NB102_111 := na hg BK102; have NB111_102 := nb hg BK102; have NB103_111 := na hg BK103; have NB111_103 := nb hg BK103; have NB110_111 := na hg BK110; have NB111_110 := nb hg BK110; replace BK101 := ab hb BK101; replace BK102 := ab hb BK102; replace BK103 := ab hb BK103; replace BK110 := ab hb BK110; replace HB := hs hb HB; clear hb hbox hg; have hnb17 := NB110_101.out; have hnc17 := NB101_110.out; have hnb18 := NB110_102.out; have hnc18 := NB102_110.out; have hnb19 := NB110_103.out; have hnc19 := NB103_110.out; have hnb20 := NB110_111.out; have hnc20 := NB111_110.out; obtain ⟨hcz21_0, hcz21_1, hcz21_2, hfz21_0, hfz21_1, hfz21_2⟩ := k3 BK110.out; have hnb22 := NB111_101.out; have hnc22 := NB101_111.out; have hnb23 := NB111_102.out; have hnc23 := NB102_111.out; have hnb24 := NB111_103.out; have hnc24 := NB103_111.out; obtain ⟨hcz25_0, hcz25_1, hcz25_2, hfz25_0, hfz25_1, hfz25_2⟩ := k3 BK111.out; obtain ⟨hcz26_0, hcz26_1, hcz26_2, hfz26_0, hfz26_1, hfz26_2⟩ := k3 BK101.out))
    (try simp only [Act.put, List.setIfInBounds_toArray, List.set_cons_zero, List.set_cons_succ])
    go_cut [28] (fun v28 wc => ∃ (kq : Nat) (x28_4 : Bool), v28 = .bool x28_4 ∧ Aside0 (surtitleref3_Floor.j0 kq x28_4 t104 t105 t106 = some (r1, r2, r3)) ∧ Aside0 (kq ≤ k) ∧ Aside0 (wc.heap[gb101]? = some (.cells #[.bool true, .int .u64 a0_1, .int .u64 a0_2] 74 (0, 0))) ∧ Aside0 (wc.heap[gb102]? = some (.cells #[.bool a1_0, .int .u64 a1_1, .int .u64 a1_2] 74 (0, 0))) ∧ Aside0 (wc.heap[gb103]? = some (.cells #[.bool false, .int .u64 0, .int .u64 0] 74 (0, 0))) ∧ Aside0 (wc.heap[gb110]? = some (.cells #[.bool t104, .int .u64 t105, .int .u64 t106] 74 (0, 0))) ∧ Aside0 (wc.heap[gb111]? = some (.cells #[.bool t107, .int .u64 t108, .int .u64 t109] 74 (0, 0))) ∧ Aside0 (Below w.heap.size w wc))
    case first =>
      have H := HC5.out
      clear HC5
      by_cases c27 : t108 = 0
      · rw [if_pos c27] at H
        have c27b0 : (t108 == 0) = true := beq_iff_eq.mpr c27
        have c27b1 : (t108 != 0) = false := bne_eq_false_iff_eq.mpr c27
        clear c27
        (first | rw [c27b0] | (simp only [i64_w, i32_w]; rw [c27b0]) | skip)
        have H' := Aside0.mk H
        clear H
        have hnb28 := NB111_101.out
        have hnc28 := NB101_111.out
        have hnb29 := NB111_102.out
        have hnc29 := NB102_111.out
        have hnb30 := NB111_103.out
        have hnc30 := NB103_111.out
        have hnb31 := NB111_110.out
        have hnc31 := NB110_111.out
        obtain ⟨hcz32_0, hcz32_1, hcz32_2, hfz32_0, hfz32_1, hfz32_2⟩ := k3 BK111.out
        go_wp2
        go_meet
        case rel => exact ⟨_, ((t109 != 0)), (by first | rfl | (simp; done) | (simp [*]; done)), H', ⟨by first | omega | exact Nat.le_refl _⟩, ⟨by refine bk ?_; exact BK101.out⟩, ⟨by refine bk ?_; exact BK102.out⟩, ⟨by refine bk ?_; exact BK103.out⟩, ⟨by refine bk ?_; refine blk_put (cs := #[.bool t104, .int .u64 t105, .int .u64 0]) ?_ 2 _ rfl; refine bk ?_; refine blk_put (cs := #[.bool t104, .int .u64 0, .int .u64 0]) ?_ 1 _ rfl; refine bk ?_; refine blk_put (cs := #[.bool false, .int .u64 0, .int .u64 0]) ?_ 0 _ rfl; refine bk ?_; exact BK110.out⟩, ⟨by refine bk ?_; refine blk_put (cs := #[.bool t107, .int .u64 t108, .int .u64 0]) ?_ 2 _ rfl; refine bk ?_; refine blk_put (cs := #[.bool t107, .int .u64 0, .int .u64 0]) ?_ 1 _ rfl; refine bk ?_; refine blk_put (cs := #[.bool false, .int .u64 0, .int .u64 0]) ?_ 0 _ rfl; refine bk ?_; exact BK111.out⟩, ⟨by repeat (first | (with_reducible first | exact HB.out | apply below_alloc | apply pw_below_drewN | apply below_drew1 | refine below_set ?_ GE101.out | refine below_set ?_ GE102.out | refine below_set ?_ GE103.out | refine below_set ?_ GE110.out | refine below_set ?_ GE111.out) | exact HB.out)⟩⟩
      rw [if_neg c27] at H
      have c27b0 : (t108 == 0) = false := beq_eq_false_iff_ne.mpr c27
      have c27b1 : (t108 != 0) = true := bne_iff_ne.mpr c27
      (first | rw [c27b0] | (simp only [i64_w, i32_w]; rw [c27b0]) | skip)
      have H' := Aside0.mk H
      clear H
      have hnb33 := NB111_101.out
      have hnc33 := NB101_111.out
      have hnb34 := NB111_102.out
      have hnc34 := NB102_111.out
      have hnb35 := NB111_103.out
      have hnc35 := NB103_111.out
      have hnb36 := NB111_110.out
      have hnc36 := NB110_111.out
      obtain ⟨hcz37_0, hcz37_1, hcz37_2, hfz37_0, hfz37_1, hfz37_2⟩ := k3 BK111.out
      go_wp2
      go_meet
      case rel => exact ⟨_, (true), (by first | rfl | (simp; done) | (simp [*]; done)), H', ⟨by first | omega | exact Nat.le_refl _⟩, ⟨by refine bk ?_; exact BK101.out⟩, ⟨by refine bk ?_; exact BK102.out⟩, ⟨by refine bk ?_; exact BK103.out⟩, ⟨by refine bk ?_; refine blk_put (cs := #[.bool t104, .int .u64 t105, .int .u64 0]) ?_ 2 _ rfl; refine bk ?_; refine blk_put (cs := #[.bool t104, .int .u64 0, .int .u64 0]) ?_ 1 _ rfl; refine bk ?_; refine blk_put (cs := #[.bool false, .int .u64 0, .int .u64 0]) ?_ 0 _ rfl; refine bk ?_; exact BK110.out⟩, ⟨by refine bk ?_; refine blk_put (cs := #[.bool t107, .int .u64 t108, .int .u64 0]) ?_ 2 _ rfl; refine bk ?_; refine blk_put (cs := #[.bool t107, .int .u64 0, .int .u64 0]) ?_ 1 _ rfl; refine bk ?_; refine blk_put (cs := #[.bool false, .int .u64 0, .int .u64 0]) ?_ 0 _ rfl; refine bk ?_; exact BK111.out⟩, ⟨by repeat (first | (with_reducible first | exact HB.out | apply below_alloc | apply pw_below_drewN | apply below_drew1 | refine below_set ?_ GE101.out | refine below_set ?_ GE102.out | refine below_set ?_ GE103.out | refine below_set ?_ GE110.out | refine below_set ?_ GE111.out) | exact HB.out)⟩⟩
    clear HC5
    try clear c4
    try clear hcz11_0
    try clear hcz11_1
    try clear hcz11_2
    try clear hcz13_0
    try clear hcz13_1
    try clear hcz13_2
    try clear hcz21_0
    try clear hcz21_1
    try clear hcz21_2
    try clear hcz25_0
    try clear hcz25_1
    try clear hcz25_2
    try clear hcz26_0
    try clear hcz26_1
    try clear hcz26_2
    try clear hfz11_0
    try clear hfz11_1
    try clear hfz11_2
    try clear hfz13_0
    try clear hfz13_1
    try clear hfz13_2
    try clear hfz21_0
    try clear hfz21_1
    try clear hfz21_2
    try clear hfz25_0
    try clear hfz25_1
    try clear hfz25_2
    try clear hfz26_0
    try clear hfz26_1
    try clear hfz26_2
    obtain ⟨kq, x28_4, rfl, HA, HJ4, BK101, BK102, BK103, BK110, BK111, HB⟩ := hcut
    obtain _ | kj4 := kq
    · exact absurd HA.out (by simp [surtitleref3_Floor.j0])
    have H := HA.out
    clear HA
    simp only [surtitleref3_Floor.j0] at H
    by_cases c38 : x28_4 = true
    · subst c38
      have H1 : ((surtitleref3_Plus.f kj4 t104 t105 t106 false 0 1).bind fun bt112 => ((surtitleref3_right.f true bt112.2.1 bt112.2.2).bind fun bt115 => (some (bt115.1, bt115.2.1, bt115.2.2)))) = some (r1, r2, r3) := by rw [if_pos rfl] at H; exact H
      clear H
      have H := H1
      clear H1
      replace H := Option.bind_eq_some_iff.mp H
      obtain ⟨⟨t112, t113, t114⟩, A390, H⟩ := H
      replace H : ((surtitleref3_right.f true t113 t114).bind fun bt115 => (some (bt115.1, bt115.2.1, bt115.2.2))) = some (r1, r2, r3) := H
      have A39 := Aside0.mk A390
      clear A390
      replace H := Option.bind_eq_some_iff.mp H
      obtain ⟨⟨t115, t116, t117⟩, A400, H⟩ := H
      replace H : (some (t115, t116, t117)) = some (r1, r2, r3) := H
      have A40 := Aside0.mk A400
      clear A400
      simp only [Option.some.injEq, Prod.mk.injEq] at H
      obtain ⟨rfl, rfl, rfl⟩ := H
      have hnb41 := NB110_101.out
      have hnc41 := NB101_110.out
      have hnb42 := NB110_102.out
      have hnc42 := NB102_110.out
      have hnb43 := NB110_103.out
      have hnc43 := NB103_110.out
      have hnb44 := NB110_111.out
      have hnc44 := NB111_110.out
      obtain ⟨hcz45_0, hcz45_1, hcz45_2, hfz45_0, hfz45_1, hfz45_2⟩ := k3 BK110.out
      go_wp2_with (first | ((with_reducible refine gate_callee (f := 63) rfl ?_); refine goesL_ (some 31) rfl rfl Tryd.func63 (by kernel_rfl) rfl #[.agg #[.bool t104, .int .u64 t105, .int .u64 t106], .agg #[.bool false, .int .u64 0, .int .u64 1]] rfl (by (try simp only [List.map_toArray, List.map_cons, List.map_nil]); first | done | rfl | (simp only [List.length_drop, List.length_take]; rfl)) ?_; (with_reducible refine (surtitleref3_Plus.calls kj4 t104 t105 t106 false 0 1 t112 t113 t114 _ A39.out).mono ?_); rintro e w46 ⟨rfl, hb⟩; refine ⟨_, rfl, ?_⟩; replace BK101 := ab hb BK101; replace BK102 := ab hb BK102; replace BK103 := ab hb BK103; replace BK110 := ab hb BK110; replace BK111 := ab hb BK111; replace HB := hs hb HB; (try clear hb); (try clear hb2); (try clear hk); (try clear hi); obtain ⟨hcz47_0, hcz47_1, hcz47_2, hfz47_0, hfz47_1, hfz47_2⟩ := k3 BK110.out) | ((with_reducible refine gate_callee (f := 54) rfl ?_); refine goesL_ (some 34) rfl rfl Tryd.func54 (by kernel_rfl) rfl #[.agg #[.bool true, .int .u64 t113, .int .u64 t114]] rfl (by (try simp only [List.map_toArray, List.map_cons, List.map_nil]); first | done | rfl | (simp only [List.length_drop, List.length_take]; rfl)) ?_; (with_reducible refine (surtitleref3_right.calls true t113 t114 t115 t116 t117 _ A40.out).mono ?_); rintro e w48 ⟨rfl, hb⟩; refine ⟨_, rfl, ?_⟩; have n0_ := ab hb BK101; have n1_ := ab hb BK102; have n2_ := ab hb BK103; have n3_ := Aside0.mk (blk_below (g := gb110) (o := .cells #[.bool true, .int .u64 t113, .int .u64 t114] 74 (0, 0)) (by refine bk ?_; refine blk_put (cs := #[.bool t112, .int .u64 t113, .int .u64 t114]) ?_ 0 _ rfl; refine bk ?_; refine blk_put (cs := #[.bool t112, .int .u64 t113, .int .u64 t106]) ?_ 2 _ rfl; refine bk ?_; refine blk_put (cs := #[.bool t112, .int .u64 t105, .int .u64 t106]) ?_ 1 _ rfl; refine bk ?_; refine blk_put (cs := #[.bool t104, .int .u64 t105, .int .u64 t106]) ?_ 0 _ rfl; refine bk ?_; exact BK110.out) hb); have n4_ := ab hb BK111; have n5_ := hs hb HB; clear BK101; clear BK102; clear BK103; clear BK110; clear BK111; clear HB; have BK101 := n0_; have BK102 := n1_; have BK103 := n2_; have BK110 := n3_; have BK111 := n4_; have HB := n5_; clear n0_ n1_ n2_ n3_ n4_ n5_; (try clear hb); (try clear hb2); (try clear hk); (try clear hi); have hnb49 := NB103_101.out; have hnc49 := NB101_103.out; have hnb50 := NB103_102.out; have hnc50 := NB102_103.out; have hnb51 := NB103_111.out; have hnc51 := NB111_103.out; obtain ⟨hcz52_0, hcz52_1, hcz52_2, hfz52_0, hfz52_1, hfz52_2⟩ := k3 BK103.out))
      refine bodyPost_ret (results_cell_row rfl _ _ gb103 74 #[.bool t115, .int .u64 t116, .int .u64 t117] (0, 0) _ rfl (by refine bk ?_; refine blk_put (cs := #[.bool t115, .int .u64 t116, .int .u64 0]) ?_ 2 _ rfl; refine bk ?_; refine blk_put (cs := #[.bool t115, .int .u64 0, .int .u64 0]) ?_ 1 _ rfl; refine bk ?_; refine blk_put (cs := #[.bool false, .int .u64 0, .int .u64 0]) ?_ 0 _ rfl; refine bk ?_; exact BK103.out) Tryd.underlying74 rfl (by kernel_rfl)) rfl ?_
      exact ⟨by first | rfl | (simp [errW_none, errW_some] <;> rfl) | (simp [*, errW_none, errW_some] <;> rfl), by repeat (first | (with_reducible first | exact HB.out | apply below_alloc | apply pw_below_drewN | apply below_drew1 | refine below_set ?_ GE101.out | refine below_set ?_ GE102.out | refine below_set ?_ GE103.out | refine below_set ?_ GE110.out | refine below_set ?_ GE111.out) | exact HB.out)⟩
    replace c38 := Bool.eq_false_iff.mpr c38
    subst c38
    have H1 : ((surtitleref3_right.f true t105 t106).bind fun bt118 => (some (bt118.1, bt118.2.1, bt118.2.2))) = some (r1, r2, r3) := by rw [if_neg (show ¬ (false = true) by decide)] at H; exact H
    clear H
    have H := H1
    clear H1
    replace H := Option.bind_eq_some_iff.mp H
    obtain ⟨⟨t118, t119, t120⟩, A530, H⟩ := H
    replace H : (some (t118, t119, t120)) = some (r1, r2, r3) := H
    have A53 := Aside0.mk A530
    clear A530
    simp only [Option.some.injEq, Prod.mk.injEq] at H
    obtain ⟨rfl, rfl, rfl⟩ := H
    have hnb54 := NB110_101.out
    have hnc54 := NB101_110.out
    have hnb55 := NB110_102.out
    have hnc55 := NB102_110.out
    have hnb56 := NB110_103.out
    have hnc56 := NB103_110.out
    have hnb57 := NB110_111.out
    have hnc57 := NB111_110.out
    obtain ⟨hcz58_0, hcz58_1, hcz58_2, hfz58_0, hfz58_1, hfz58_2⟩ := k3 BK110.out
    go_wp2_with (first | ((with_reducible refine gate_callee (f := 54) rfl ?_); refine goesL_ (some 34) rfl rfl Tryd.func54 (by kernel_rfl) rfl #[.agg #[.bool true, .int .u64 t105, .int .u64 t106]] rfl (by (try simp only [List.map_toArray, List.map_cons, List.map_nil]); first | done | rfl | (simp only [List.length_drop, List.length_take]; rfl)) ?_; (with_reducible refine (surtitleref3_right.calls true t105 t106 t118 t119 t120 _ A53.out).mono ?_); rintro e w59 ⟨rfl, hb⟩; refine ⟨_, rfl, ?_⟩; have n0_ := ab hb BK101; have n1_ := ab hb BK102; have n2_ := ab hb BK103; have n3_ := Aside0.mk (blk_below (g := gb110) (o := .cells #[.bool true, .int .u64 t105, .int .u64 t106] 74 (0, 0)) (by refine bk ?_; refine blk_put (cs := #[.bool t104, .int .u64 t105, .int .u64 t106]) ?_ 0 _ rfl; refine bk ?_; exact BK110.out) hb); have n4_ := ab hb BK111; have n5_ := hs hb HB; clear BK101; clear BK102; clear BK103; clear BK110; clear BK111; clear HB; have BK101 := n0_; have BK102 := n1_; have BK103 := n2_; have BK110 := n3_; have BK111 := n4_; have HB := n5_; clear n0_ n1_ n2_ n3_ n4_ n5_; (try clear hb); (try clear hb2); (try clear hk); (try clear hi); have hnb60 := NB103_101.out; have hnc60 := NB101_103.out; have hnb61 := NB103_102.out; have hnc61 := NB102_103.out; have hnb62 := NB103_111.out; have hnc62 := NB111_103.out; obtain ⟨hcz63_0, hcz63_1, hcz63_2, hfz63_0, hfz63_1, hfz63_2⟩ := k3 BK103.out))
    refine bodyPost_ret (results_cell_row rfl _ _ gb103 74 #[.bool t118, .int .u64 t119, .int .u64 t120] (0, 0) _ rfl (by refine bk ?_; refine blk_put (cs := #[.bool t118, .int .u64 t119, .int .u64 0]) ?_ 2 _ rfl; refine bk ?_; refine blk_put (cs := #[.bool t118, .int .u64 0, .int .u64 0]) ?_ 1 _ rfl; refine bk ?_; refine blk_put (cs := #[.bool false, .int .u64 0, .int .u64 0]) ?_ 0 _ rfl; refine bk ?_; exact BK103.out) Tryd.underlying74 rfl (by kernel_rfl)) rfl ?_
    exact ⟨by first | rfl | (simp [errW_none, errW_some] <;> rfl) | (simp [*, errW_none, errW_some] <;> rfl), by repeat (first | (with_reducible first | exact HB.out | apply below_alloc | apply pw_below_drewN | apply below_drew1 | refine below_set ?_ GE101.out | refine below_set ?_ GE102.out | refine below_set ?_ GE103.out | refine below_set ?_ GE110.out | refine below_set ?_ GE111.out) | exact HB.out)⟩
  replace c4 := Bool.eq_false_iff.mpr c4
  subst c4
  have H1 : (some (t104, t105, t106)) = some (r1, r2, r3) := by rw [if_neg (show ¬ (false = true) by decide)] at H; exact H
  clear H
  have H := H1
  clear H1
  simp only [Option.some.injEq, Prod.mk.injEq] at H
  obtain ⟨rfl, rfl, rfl⟩ := H
  go_enter Tryd.func92, Tryd.ntmps92
  go_wp2_with (first | ((with_reducible refine gate_dst (N := 2) rfl ?_); refine box_event ?hg (N := 2) ?hd (cs := #[.bool false, .int .u64 a0_1, .int .u64 a0_2]) (t := 74) ?hr ?_; (case hd => rfl); (case hg => rfl); (case hr => first | (go_simp; done) | (go_simp; rfl)); intro gb101 hg w64 hbox hb; have BK101 := Aside0.mk (hbox); have GW101 := ag hg HB; have GE101 := ag hg HB; replace HB := hs hb HB; clear hb hbox hg) | ((with_reducible refine gate_dst (N := 3) rfl ?_); refine box_event ?hg (N := 3) ?hd (cs := #[.bool a1_0, .int .u64 a1_1, .int .u64 a1_2]) (t := 74) ?hr ?_; (case hd => rfl); (case hg => rfl); (case hr => first | (go_simp; done) | (go_simp; rfl)); intro gb102 hg w65 hbox hb; have BK102 := Aside0.mk (hbox); have GW102 := ag hg HB; have GE102 := ag hg HB; have NB101_102 := na hg BK101; have NB102_101 := nb hg BK101; replace BK101 := ab hb BK101; replace HB := hs hb HB; clear hb hbox hg) | ((with_reducible refine gate_dst (N := 4) rfl ?_); refine box_event ?hg (N := 4) ?hd (cs := #[.bool false, .int .u64 0, .int .u64 0]) (t := 74) ?hr ?_; (case hd => rfl); (case hg => rfl); (case hr => first | (go_simp; done) | (go_simp; rfl)); intro gb103 hg w66 hbox hb; have BK103 := Aside0.mk (hbox); have GW103 := ag hg HB; have GE103 := ag hg HB; have NB101_103 := na hg BK101; have NB103_101 := nb hg BK101; have NB102_103 := na hg BK102; have NB103_102 := nb hg BK102; replace BK101 := ab hb BK101; replace BK102 := ab hb BK102; replace HB := hs hb HB; clear hb hbox hg; have hnb67 := NB101_102.out; have hnc67 := NB102_101.out; have hnb68 := NB101_103.out; have hnc68 := NB103_101.out; obtain ⟨hcz69_0, hcz69_1, hcz69_2, hfz69_0, hfz69_1, hfz69_2⟩ := k3 BK101.out; have hnb70 := NB102_103.out; have hnc70 := NB103_102.out; obtain ⟨hcz71_0, hcz71_1, hcz71_2, hfz71_0, hfz71_1, hfz71_2⟩ := k3 BK102.out) | ((with_reducible refine gate_callee (f := 85) rfl ?_); refine goesL_ (some 14) rfl rfl Tryd.func85 (by kernel_rfl) rfl #[.agg #[.bool false, .int .u64 a0_1, .int .u64 a0_2], .agg #[.bool a1_0, .int .u64 a1_1, .int .u64 a1_2]] rfl (by (try simp only [List.map_toArray, List.map_cons, List.map_nil]); first | done | rfl | (simp only [List.length_drop, List.length_take]; rfl)) ?_; (with_reducible refine (surtitleref3_divided.calls k false a0_1 a0_2 a1_0 a1_1 a1_2 t104 t105 t106 t107 t108 t109 _ A3.out).mono ?_); rintro e w72 ⟨rfl, hb⟩; refine ⟨_, rfl, ?_⟩; replace BK101 := ab hb BK101; replace BK102 := ab hb BK102; replace BK103 := ab hb BK103; replace HB := hs hb HB; (try clear hb); (try clear hb2); (try clear hk); (try clear hi)) | ((with_reducible refine gate_dst (N := 5) rfl ?_); refine box_event ?hg (N := 5) ?hd (cs := #[.bool false, .int .u64 0, .int .u64 0]) (t := 74) ?hr ?_; (case hd => rfl); (case hg => rfl); (case hr => first | (go_simp; done) | (go_simp; rfl)); intro gb110 hg w73 hbox hb; have BK110 := Aside0.mk (hbox); have GW110 := ag hg HB; have GE110 := ag hg HB; have NB101_110 := na hg BK101; have NB110_101 := nb hg BK101; have NB102_110 := na hg BK102; have NB110_102 := nb hg BK102; have NB103_110 := na hg BK103; have NB110_103 := nb hg BK103; replace BK101 := ab hb BK101; replace BK102 := ab hb BK102; replace BK103 := ab hb BK103; replace HB := hs hb HB; clear hb hbox hg) | ((with_reducible refine gate_dst (N := 6) rfl ?_); refine box_event ?hg (N := 6) ?hd (cs := #[.bool false, .int .u64 0, .int .u64 0]) (t := 74) ?hr ?_; (case hd => rfl); (case hg => rfl); (case hr => first | (go_simp; done) | (go_simp; rfl)); intro gb111 hg w74 hbox hb; have BK111 := Aside0.mk (hbox); have GW111 := ag hg HB; have GE111 := ag hg HB; have NB101_111 := na hg BK101; have NB111_101 := nb hg BK101; have NB102_111 := na hg BK102; have NB111_102 := nb hg BK102; have NB103_111 := na hg BK103; have NB111_103 := nb hg BK103; have NB110_111 := na hg BK110; have NB111_110 := nb hg BK110; replace BK101 := ab hb BK101; replace BK102 := ab hb BK102; replace BK103 := ab hb BK103; replace BK110 := ab hb BK110; replace HB := hs hb HB; clear hb hbox hg; have hnb75 := NB110_101.out; have hnc75 := NB101_110.out; have hnb76 := NB110_102.out; have hnc76 := NB102_110.out; have hnb77 := NB110_103.out; have hnc77 := NB103_110.out; have hnb78 := NB110_111.out; have hnc78 := NB111_110.out; obtain ⟨hcz79_0, hcz79_1, hcz79_2, hfz79_0, hfz79_1, hfz79_2⟩ := k3 BK110.out; have hnb80 := NB111_101.out; have hnc80 := NB101_111.out; have hnb81 := NB111_102.out; have hnc81 := NB102_111.out; have hnb82 := NB111_103.out; have hnc82 := NB103_111.out; obtain ⟨hcz83_0, hcz83_1, hcz83_2, hfz83_0, hfz83_1, hfz83_2⟩ := k3 BK111.out; obtain ⟨hcz84_0, hcz84_1, hcz84_2, hfz84_0, hfz84_1, hfz84_2⟩ := k3 BK101.out; obtain ⟨hcz85_0, hcz85_1, hcz85_2, hfz85_0, hfz85_1, hfz85_2⟩ := k3 BK103.out))
  refine bodyPost_ret (results_cell_row rfl _ _ gb103 74 #[.bool t104, .int .u64 t105, .int .u64 t106] (0, 0) _ rfl (by refine bk ?_; refine blk_put (cs := #[.bool t104, .int .u64 t105, .int .u64 0]) ?_ 2 _ rfl; refine bk ?_; refine blk_put (cs := #[.bool t104, .int .u64 0, .int .u64 0]) ?_ 1 _ rfl; refine bk ?_; refine blk_put (cs := #[.bool false, .int .u64 0, .int .u64 0]) ?_ 0 _ rfl; refine bk ?_; exact BK103.out) Tryd.underlying74 rfl (by kernel_rfl)) rfl ?_
  exact ⟨by first | rfl | (simp [errW_none, errW_some] <;> rfl) | (simp [*, errW_none, errW_some] <;> rfl), by repeat (first | (with_reducible first | exact HB.out | apply below_alloc | apply pw_below_drewN | apply below_drew1 | refine below_set ?_ GE101.out | refine below_set ?_ GE102.out | refine below_set ?_ GE103.out | refine below_set ?_ GE110.out | refine below_set ?_ GE111.out) | exact HB.out)⟩

end Go.Proofs.YtofndakpenpkbaaDoor.PF

namespace Go.Proofs.YtofndakpenpkbaaDoor.PF
open Go.Proofs.YtofndakpenpkbaaDoor.PA Go.Proofs.YtofndakpenpkbaaDoor.PR Go.Proofs.YtofndakpenpkbaaDoor.PP
open Go.RowKit Go.Proofs.YtofndakpenpkbaaDoorW.PrintWords Go.Proofs.YtofndakpenpkbaaDoorW.PrintLast Go.Proofs.YtofndakpenpkbaaDoorW.PrintMore
set_option linter.unusedVariables false
set_option linter.unusedSimpArgs false

/-! ### surtitleref3_whole: function 68 -/
def surtitleref3_whole.f (k : Nat) (a0_0 : Bool) (a0_1 : Int) (a0_2 : Int) (a1_0 : Bool) (a1_1 : Int) (a1_2 : Int) (a2 : Int) : Option (Bool × Int × Int) := if a2 = 2 then ((surtitleref3_Plus.f k a0_0 a0_1 a0_2 a0_0 a0_1 a0_2).bind fun bt124 => ((surtitleref3_Plus.f k bt124.1 bt124.2.1 bt124.2.2 a1_0 a1_1 a1_2).bind fun bt127 => ((surtitleref3_Plus.f k a1_0 a1_1 a1_2 a1_0 a1_1 a1_2).bind fun bt130 => ((surtitleref3_Floor.f k bt127.1 bt127.2.1 bt127.2.2 bt130.1 bt130.2.1 bt130.2.2).bind fun bt133 => (some (bt133.1, bt133.2.1, bt133.2.2)))))) else (if a2 = 3 then ((surtitleref3_right.f (!a0_0) a0_1 a0_2).bind fun bt136 => ((surtitleref3_Floor.f k bt136.1 bt136.2.1 bt136.2.2 a1_0 a1_1 a1_2).bind fun bt139 => ((surtitleref3_right.f (!bt139.1) bt139.2.1 bt139.2.2).bind fun bt143 => (some (bt143.1, bt143.2.1, bt143.2.2))))) else ((surtitleref3_Floor.f k a0_0 a0_1 a0_2 a1_0 a1_1 a1_2).bind fun bt146 => (some (bt146.1, bt146.2.1, bt146.2.2))))
def surtitleref3_whole.T3 : Bool × List (List Nat × List Nat) := (true, [([], []), ([], []), ([0, 1], [0, 1]), ([], []), ([2, 3, 2], [2, 3]), ([], []), ([], []), ([5, 6, 4], [5, 6]), ([4, 7, 7], [4, 7]), ([8, 8, 0, 1, 2, 3, 4, 5, 6, 7, 8], [8])])
def surtitleref3_whole.B3 : List Nat := [0, 0, 3, 0, 15, 0, 0, 127, 255, 511]
theorem surtitleref3_whole.tab3 : rtab .any (opsOf Tryd.f68 3) = surtitleref3_whole.T3 := by kernel_rfl
theorem surtitleref3_whole.bits3 : waitsOk surtitleref3_whole.T3.2 surtitleref3_whole.B3 = true := by kernel_rfl
set_option maxHeartbeats 8000000 in
set_option maxRecDepth 100000 in
theorem surtitleref3_whole.calls (k : Nat) (a0_0 : Bool) (a0_1 : Int) (a0_2 : Int) (a1_0 : Bool) (a1_1 : Int) (a1_2 : Int) (a2 : Int) (r1 : Bool) (r2 : Int) (r3 : Int) (w : World) (h : surtitleref3_whole.f k a0_0 a0_1 a0_2 a1_0 a1_1 a1_2 a2 = some (r1, r2, r3)) :
    Calls Tryd.prog 68 #[.agg #[.bool a0_0, .int .u64 a0_1, .int .u64 a0_2], .agg #[.bool a1_0, .int .u64 a1_1, .int .u64 a1_2], .int .i64 a2] w fun e w' => e = .returned (.agg #[.bool r1, .int .u64 r2, .int .u64 r3]) ∧ Below w.heap.size w w' := by
  have hu74 := Tryd.underlying74
  have HB := Aside0.mk (Below.refl w.heap.size w)
  have H : (if a2 = 2 then ((surtitleref3_Plus.f k a0_0 a0_1 a0_2 a0_0 a0_1 a0_2).bind fun bt124 => ((surtitleref3_Plus.f k bt124.1 bt124.2.1 bt124.2.2 a1_0 a1_1 a1_2).bind fun bt127 => ((surtitleref3_Plus.f k a1_0 a1_1 a1_2 a1_0 a1_1 a1_2).bind fun bt130 => ((surtitleref3_Floor.f k bt127.1 bt127.2.1 bt127.2.2 bt130.1 bt130.2.1 bt130.2.2).bind fun bt133 => (some (bt133.1, bt133.2.1, bt133.2.2)))))) else (if a2 = 3 then ((surtitleref3_right.f (!a0_0) a0_1 a0_2).bind fun bt136 => ((surtitleref3_Floor.f k bt136.1 bt136.2.1 bt136.2.2 a1_0 a1_1 a1_2).bind fun bt139 => ((surtitleref3_right.f (!bt139.1) bt139.2.1 bt139.2.2).bind fun bt143 => (some (bt143.1, bt143.2.1, bt143.2.2))))) else ((surtitleref3_Floor.f k a0_0 a0_1 a0_2 a1_0 a1_1 a1_2).bind fun bt146 => (some (bt146.1, bt146.2.1, bt146.2.2))))) = some (r1, r2, r3) := h
  clear h
  by_cases c4 : a2 = 2
  · rw [if_pos c4] at H
    have c4b0 : (a2 == 2) = true := beq_iff_eq.mpr c4
    have c4b1 : (a2 != 2) = false := bne_eq_false_iff_eq.mpr c4
    clear c4
    replace H := Option.bind_eq_some_iff.mp H
    obtain ⟨⟨t124, t125, t126⟩, A50, H⟩ := H
    replace H : ((surtitleref3_Plus.f k t124 t125 t126 a1_0 a1_1 a1_2).bind fun bt127 => ((surtitleref3_Plus.f k a1_0 a1_1 a1_2 a1_0 a1_1 a1_2).bind fun bt130 => ((surtitleref3_Floor.f k bt127.1 bt127.2.1 bt127.2.2 bt130.1 bt130.2.1 bt130.2.2).bind fun bt133 => (some (bt133.1, bt133.2.1, bt133.2.2))))) = some (r1, r2, r3) := H
    have A5 := Aside0.mk A50
    clear A50
    replace H := Option.bind_eq_some_iff.mp H
    obtain ⟨⟨t127, t128, t129⟩, A60, H⟩ := H
    replace H : ((surtitleref3_Plus.f k a1_0 a1_1 a1_2 a1_0 a1_1 a1_2).bind fun bt130 => ((surtitleref3_Floor.f k t127 t128 t129 bt130.1 bt130.2.1 bt130.2.2).bind fun bt133 => (some (bt133.1, bt133.2.1, bt133.2.2)))) = some (r1, r2, r3) := H
    have A6 := Aside0.mk A60
    clear A60
    replace H := Option.bind_eq_some_iff.mp H
    obtain ⟨⟨t130, t131, t132⟩, A70, H⟩ := H
    replace H : ((surtitleref3_Floor.f k t127 t128 t129 t130 t131 t132).bind fun bt133 => (some (bt133.1, bt133.2.1, bt133.2.2))) = some (r1, r2, r3) := H
    have A7 := Aside0.mk A70
    clear A70
    replace H := Option.bind_eq_some_iff.mp H
    obtain ⟨⟨t133, t134, t135⟩, A80, H⟩ := H
    replace H : (some (t133, t134, t135)) = some (r1, r2, r3) := H
    have A8 := Aside0.mk A80
    clear A80
    simp only [Option.some.injEq, Prod.mk.injEq] at H
    obtain ⟨rfl, rfl, rfl⟩ := H
    go_enter Tryd.func68, Tryd.ntmps68
    try go_wp2_with (first | ((with_reducible refine gate_dst (N := 3) rfl ?_); refine box_event ?hg (N := 3) ?hd (cs := #[.bool a0_0, .int .u64 a0_1, .int .u64 a0_2]) (t := 74) ?hr ?_; (case hd => rfl); (case hg => rfl); (case hr => first | (go_simp; done) | (go_simp; rfl)); intro gb121 hg w9 hbox hb; have BK121 := Aside0.mk (hbox); have GW121 := ag hg HB; have GE121 := ag hg HB; replace HB := hs hb HB; clear hb hbox hg) | ((with_reducible refine gate_dst (N := 4) rfl ?_); refine box_event ?hg (N := 4) ?hd (cs := #[.bool a1_0, .int .u64 a1_1, .int .u64 a1_2]) (t := 74) ?hr ?_; (case hd => rfl); (case hg => rfl); (case hr => first | (go_simp; done) | (go_simp; rfl)); intro gb122 hg w10 hbox hb; have BK122 := Aside0.mk (hbox); have GW122 := ag hg HB; have GE122 := ag hg HB; have NB121_122 := na hg BK121; have NB122_121 := nb hg BK121; replace BK121 := ab hb BK121; replace HB := hs hb HB; clear hb hbox hg) | ((with_reducible refine gate_dst (N := 6) rfl ?_); refine box_event ?hg (N := 6) ?hd (cs := #[.bool false, .int .u64 0, .int .u64 0]) (t := 74) ?hr ?_; (case hd => rfl); (case hg => rfl); (case hr => first | (go_simp; done) | (go_simp; rfl)); intro gb123 hg w11 hbox hb; have BK123 := Aside0.mk (hbox); have GW123 := ag hg HB; have GE123 := ag hg HB; have NB121_123 := na hg BK121; have NB123_121 := nb hg BK121; have NB122_123 := na hg BK122; have NB123_122 := nb hg BK122; replace BK121 := ab hb BK121; replace BK122 := ab hb BK122; replace HB := hs hb HB; clear hb hbox hg))
    have n0_ := Aside0.mk (blk_drew BK121.out)
    have n1_ := Aside0.mk (blk_drew BK122.out)
    have n2_ := Aside0.mk (blk_drew BK123.out)
    have n3_ := Aside0.mk (below_drew1 HB.out)
    clear BK121
    clear BK122
    clear BK123
    clear HB
    have BK121 := n0_
    have BK122 := n1_
    have BK123 := n2_
    have HB := n3_
    clear n0_ n1_ n2_ n3_
    refine start_ (n := 10) (S := fun w' => w'.cell? ⟨gb121, 0, none⟩ = some (.bool a0_0) ∧ w'.cell? ⟨gb121, 1, none⟩ = some (.int .u64 a0_1) ∧ w'.cell? ⟨gb121, 2, none⟩ = some (.int .u64 a0_2) ∧ w'.cell? ⟨gb122, 0, none⟩ = some (.bool a1_0) ∧ w'.cell? ⟨gb122, 1, none⟩ = some (.int .u64 a1_1) ∧ w'.cell? ⟨gb122, 2, none⟩ = some (.int .u64 a1_2)) (ds := []) #[false, false, false, false, false, false, false, false, false, false] (by kernel_rfl) rfl rfl ⟨c0 BK121.out, c1 BK121.out, c2 BK121.out, c0 BK122.out, c1 BK122.out, c2 BK122.out⟩ (fun hHeld => ?_); refine with_tabW surtitleref3_whole.tab3 surtitleref3_whole.bits3 (fun HT_ HW_ => ?_)
    generalize w11.drew = w12 at BK121 BK122 BK123 HB hHeld ⊢
    refine take_ (i := 0) (N := some 11) (v := ?_) (a' := ?_) #[true, false, false, false, false, false, false, false, false, false] rfl rfl (take_ofW HT_.out HW_.out (by kernel_rfl)) (fun _ _ _ h => h) (Or.inl ⟨by rfl, ?_⟩) hHeld ?_ ?_
    rotate_left
    · rintro w' ⟨s0, s1, s2, s3, s4, s5⟩
      go_simp
      with_reducible rfl
    rotate_left
    · simp only [Act.put, List.setIfInBounds_toArray, List.set_cons_zero, List.set_cons_succ, i64_w, i32_w]
      rfl
    refine take_ (i := 1) (N := some 12) (v := ?_) (a' := ?_) #[true, true, false, false, false, false, false, false, false, false] rfl rfl (take_ofW HT_.out HW_.out (by kernel_rfl)) (fun _ _ _ h => h) (Or.inl ⟨by rfl, ?_⟩) hHeld ?_ ?_
    rotate_left
    · rintro w' ⟨s0, s1, s2, s3, s4, s5⟩
      go_simp
      with_reducible rfl
    rotate_left
    · simp only [Act.put, List.setIfInBounds_toArray, List.set_cons_zero, List.set_cons_succ, i64_w, i32_w]
      rfl
    refine take_ (i := 3) (N := some 14) (v := ?_) (a' := ?_) #[true, true, false, true, false, false, false, false, false, false] rfl rfl (take_ofW HT_.out HW_.out (by kernel_rfl)) (fun _ _ _ h => h) (Or.inl ⟨by rfl, ?_⟩) hHeld ?_ ?_
    rotate_left
    · rintro w' ⟨s0, s1, s2, s3, s4, s5⟩
      go_simp
      with_reducible rfl
    rotate_left
    · simp only [Act.put, List.setIfInBounds_toArray, List.set_cons_zero, List.set_cons_succ, i64_w, i32_w]
      rfl
    refine take_ (i := 5) (N := some 16) (v := ?_) (a' := ?_) #[true, true, false, true, false, true, false, false, false, false] rfl rfl (take_ofW HT_.out HW_.out (by kernel_rfl)) (fun _ _ _ h => h) (Or.inl ⟨by rfl, ?_⟩) hHeld ?_ ?_
    rotate_left
    · rintro w' ⟨s0, s1, s2, s3, s4, s5⟩
      go_simp
      with_reducible rfl
    rotate_left
    · simp only [Act.put, List.setIfInBounds_toArray, List.set_cons_zero, List.set_cons_succ, i64_w, i32_w]
      rfl
    refine take_ (i := 6) (N := some 17) (v := ?_) (a' := ?_) #[true, true, false, true, false, true, true, false, false, false] rfl rfl (take_ofW HT_.out HW_.out (by kernel_rfl)) (fun _ _ _ h => h) (Or.inl ⟨by rfl, ?_⟩) hHeld ?_ ?_
    rotate_left
    · rintro w' ⟨s0, s1, s2, s3, s4, s5⟩
      go_simp
      with_reducible rfl
    rotate_left
    · simp only [Act.put, List.setIfInBounds_toArray, List.set_cons_zero, List.set_cons_succ, i64_w, i32_w]
      rfl
    refine one_ (i := 2) (N := some 13) #[true, true, true, true, false, true, true, false, false, false] rfl rfl (one_of HT_.out (by kernel_rfl)) (by decide) (fun K hK => ?_)
    refine goes_ Tryd.func63 (by kernel_rfl) rfl #[.agg #[.bool a0_0, .int .u64 a0_1, .int .u64 a0_2], .agg #[.bool a0_0, .int .u64 a0_1, .int .u64 a0_2]] (by rfl) rfl rfl (by (try simp only [List.map_toArray, List.map_cons, List.map_nil]); first | done | rfl | (simp only [List.length_drop, List.length_take]; rfl)) ?_
    with_reducible refine (surtitleref3_Plus.calls k a0_0 a0_1 a0_2 a0_0 a0_1 a0_2 t124 t125 t126 _ A5.out).mono ?_
    rintro e w13 ⟨rfl, hb⟩
    refine ⟨_, rfl, ?_⟩
    have n0_ := ab hb BK121
    have n1_ := ab hb BK122
    have n2_ := ab hb BK123
    have n3_ := hs hb HB
    clear BK121
    clear BK122
    clear BK123
    clear HB
    have BK121 := n0_
    have BK122 := n1_
    have BK123 := n2_
    have HB := n3_
    clear n0_ n1_ n2_ n3_
    (try clear hb)
    (try clear hb2)
    (try clear hk)
    (try clear hi)
    refine hK.out _ _ ⟨c0 BK121.out, c1 BK121.out, c2 BK121.out, c0 BK122.out, c1 BK122.out, c2 BK122.out⟩ (fun hHeld => ?_)
    clear hK K
    refine norm_ (a' := ?_) ?_ ?_
    rotate_left
    · show Act.put _ (some 13) _ = _
      simp only [Act.put, List.setIfInBounds_toArray, List.set_cons_zero, List.set_cons_succ, i64_w, i32_w]
      rfl
    refine one_ (i := 4) (N := some 15) #[true, true, true, true, true, true, true, false, false, false] rfl rfl (one_of HT_.out (by kernel_rfl)) (by decide) (fun K hK => ?_)
    refine goes_ Tryd.func63 (by kernel_rfl) rfl #[.agg #[.bool t124, .int .u64 t125, .int .u64 t126], .agg #[.bool a1_0, .int .u64 a1_1, .int .u64 a1_2]] (by rfl) rfl rfl (by (try simp only [List.map_toArray, List.map_cons, List.map_nil]); first | done | rfl | (simp only [List.length_drop, List.length_take]; rfl)) ?_
    with_reducible refine (surtitleref3_Plus.calls k t124 t125 t126 a1_0 a1_1 a1_2 t127 t128 t129 _ A6.out).mono ?_
    rintro e w14 ⟨rfl, hb⟩
    refine ⟨_, rfl, ?_⟩
    have n0_ := ab hb BK121
    have n1_ := ab hb BK122
    have n2_ := ab hb BK123
    have n3_ := hs hb HB
    clear BK121
    clear BK122
    clear BK123
    clear HB
    have BK121 := n0_
    have BK122 := n1_
    have BK123 := n2_
    have HB := n3_
    clear n0_ n1_ n2_ n3_
    (try clear hb)
    (try clear hb2)
    (try clear hk)
    (try clear hi)
    refine hK.out _ _ ⟨c0 BK121.out, c1 BK121.out, c2 BK121.out, c0 BK122.out, c1 BK122.out, c2 BK122.out⟩ (fun hHeld => ?_)
    clear hK K
    refine norm_ (a' := ?_) ?_ ?_
    rotate_left
    · show Act.put _ (some 15) _ = _
      simp only [Act.put, List.setIfInBounds_toArray, List.set_cons_zero, List.set_cons_succ, i64_w, i32_w]
      rfl
    refine one_ (i := 7) (N := some 18) #[true, true, true, true, true, true, true, true, false, false] rfl rfl (one_of HT_.out (by kernel_rfl)) (by decide) (fun K hK => ?_)
    refine goes_ Tryd.func63 (by kernel_rfl) rfl #[.agg #[.bool a1_0, .int .u64 a1_1, .int .u64 a1_2], .agg #[.bool a1_0, .int .u64 a1_1, .int .u64 a1_2]] (by rfl) rfl rfl (by (try simp only [List.map_toArray, List.map_cons, List.map_nil]); first | done | rfl | (simp only [List.length_drop, List.length_take]; rfl)) ?_
    with_reducible refine (surtitleref3_Plus.calls k a1_0 a1_1 a1_2 a1_0 a1_1 a1_2 t130 t131 t132 _ A7.out).mono ?_
    rintro e w15 ⟨rfl, hb⟩
    refine ⟨_, rfl, ?_⟩
    have n0_ := ab hb BK121
    have n1_ := ab hb BK122
    have n2_ := ab hb BK123
    have n3_ := hs hb HB
    clear BK121
    clear BK122
    clear BK123
    clear HB
    have BK121 := n0_
    have BK122 := n1_
    have BK123 := n2_
    have HB := n3_
    clear n0_ n1_ n2_ n3_
    (try clear hb)
    (try clear hb2)
    (try clear hk)
    (try clear hi)
    refine hK.out _ _ ⟨c0 BK121.out, c1 BK121.out, c2 BK121.out, c0 BK122.out, c1 BK122.out, c2 BK122.out⟩ (fun hHeld => ?_)
    clear hK K
    refine norm_ (a' := ?_) ?_ ?_
    rotate_left
    · show Act.put _ (some 18) _ = _
      simp only [Act.put, List.setIfInBounds_toArray, List.set_cons_zero, List.set_cons_succ, i64_w, i32_w]
      rfl
    refine one_ (i := 8) (N := some 19) #[true, true, true, true, true, true, true, true, true, false] rfl rfl (one_of HT_.out (by kernel_rfl)) (by decide) (fun K hK => ?_)
    refine goes_ Tryd.func92 (by kernel_rfl) rfl #[.agg #[.bool t127, .int .u64 t128, .int .u64 t129], .agg #[.bool t130, .int .u64 t131, .int .u64 t132]] (by rfl) rfl rfl (by (try simp only [List.map_toArray, List.map_cons, List.map_nil]); first | done | rfl | (simp only [List.length_drop, List.length_take]; rfl)) ?_
    with_reducible refine (surtitleref3_Floor.calls k t127 t128 t129 t130 t131 t132 t133 t134 t135 _ A8.out).mono ?_
    rintro e w16 ⟨rfl, hb⟩
    refine ⟨_, rfl, ?_⟩
    have n0_ := ab hb BK121
    have n1_ := ab hb BK122
    have n2_ := ab hb BK123
    have n3_ := hs hb HB
    clear BK121
    clear BK122
    clear BK123
    clear HB
    have BK121 := n0_
    have BK122 := n1_
    have BK123 := n2_
    have HB := n3_
    clear n0_ n1_ n2_ n3_
    (try clear hb)
    (try clear hb2)
    (try clear hk)
    (try clear hi)
    refine hK.out _ _ ⟨c0 BK121.out, c1 BK121.out, c2 BK121.out, c0 BK122.out, c1 BK122.out, c2 BK122.out⟩ (fun hHeld => ?_)
    clear hK K
    refine norm_ (a' := ?_) ?_ ?_
    rotate_left
    · show Act.put _ (some 19) _ = _
      simp only [Act.put, List.setIfInBounds_toArray, List.set_cons_zero, List.set_cons_succ, i64_w, i32_w]
      rfl
    refine one_ (i := 9) (N := none) #[true, true, true, true, true, true, true, true, true, true] rfl rfl (one_of HT_.out (by kernel_rfl)) (by decide) (fun K hK => ?_)
    have hs17 : w16.cell? ⟨gb123, 0, none⟩ = some (.bool false) := c0 BK123.out
    have hfs17 := blk_frozen BK123.out 0
    have hns17_0 := NB121_123.out
    have hns17_1 := NB122_123.out
    have hms17_0 := NB123_121.out
    have hms17_1 := NB123_122.out
    have hs18 : w16.cell? ⟨gb123, 1, none⟩ = some (.int .u64 0) := c1 BK123.out
    have hfs18 := blk_frozen BK123.out 1
    have hns18_0 := NB121_123.out
    have hns18_1 := NB122_123.out
    have hms18_0 := NB123_121.out
    have hms18_1 := NB123_122.out
    have hs19 : w16.cell? ⟨gb123, 2, none⟩ = some (.int .u64 0) := c2 BK123.out
    have hfs19 := blk_frozen BK123.out 2
    have hns19_0 := NB121_123.out
    have hns19_1 := NB122_123.out
    have hms19_0 := NB123_121.out
    have hms19_1 := NB123_122.out
    refine skip_ (w1 := ?_) (by rfl) rfl ?_ ?_
    rotate_left
    · go_simp
      rfl
    refine hK.out _ _ ⟨((cell_far (p := ⟨gb123, _, none⟩) NB121_123.out _).trans (((cell_far (p := ⟨gb123, _, none⟩) NB121_123.out _).trans (((cell_far (p := ⟨gb123, _, none⟩) NB121_123.out _).trans (hHeld.1)))))), ((cell_far (p := ⟨gb123, _, none⟩) NB121_123.out _).trans (((cell_far (p := ⟨gb123, _, none⟩) NB121_123.out _).trans (((cell_far (p := ⟨gb123, _, none⟩) NB121_123.out _).trans (hHeld.2.1)))))), ((cell_far (p := ⟨gb123, _, none⟩) NB121_123.out _).trans (((cell_far (p := ⟨gb123, _, none⟩) NB121_123.out _).trans (((cell_far (p := ⟨gb123, _, none⟩) NB121_123.out _).trans (hHeld.2.2.1)))))), ((cell_far (p := ⟨gb123, _, none⟩) NB122_123.out _).trans (((cell_far (p := ⟨gb123, _, none⟩) NB122_123.out _).trans (((cell_far (p := ⟨gb123, _, none⟩) NB122_123.out _).trans (hHeld.2.2.2.1)))))), ((cell_far (p := ⟨gb123, _, none⟩) NB122_123.out _).trans (((cell_far (p := ⟨gb123, _, none⟩) NB122_123.out _).trans (((cell_far (p := ⟨gb123, _, none⟩) NB122_123.out _).trans (hHeld.2.2.2.2.1)))))), ((cell_far (p := ⟨gb123, _, none⟩) NB122_123.out _).trans (((cell_far (p := ⟨gb123, _, none⟩) NB122_123.out _).trans (((cell_far (p := ⟨gb123, _, none⟩) NB122_123.out _).trans (hHeld.2.2.2.2.2))))))⟩ (fun hHeld => ?_)
    clear hK K
    refine done_ (done_of HT_.out (by kernel_rfl)) ?_
    try go_wp2
    refine bodyPost_ret (results_cell_row rfl _ _ gb123 74 #[.bool t133, .int .u64 t134, .int .u64 t135] (0, 0) _ rfl (by refine bk ?_; refine blk_put (cs := #[.bool t133, .int .u64 t134, .int .u64 0]) ?_ 2 _ rfl; refine bk ?_; refine blk_put (cs := #[.bool t133, .int .u64 0, .int .u64 0]) ?_ 1 _ rfl; refine bk ?_; refine blk_put (cs := #[.bool false, .int .u64 0, .int .u64 0]) ?_ 0 _ rfl; refine bk ?_; exact BK123.out) Tryd.underlying74 rfl (by kernel_rfl)) rfl ?_
    exact ⟨by first | rfl | (simp [errW_none, errW_some] <;> rfl) | (simp [*, errW_none, errW_some] <;> rfl), by repeat (first | (with_reducible first | exact HB.out | apply below_alloc | apply pw_below_drewN | apply below_drew1 | refine below_set ?_ GE121.out | refine below_set ?_ GE122.out | refine below_set ?_ GE123.out) | exact HB.out)⟩
  rw [if_neg c4] at H
  have c4b0 : (a2 == 2) = false := beq_eq_false_iff_ne.mpr c4
  have c4b1 : (a2 != 2) = true := bne_iff_ne.mpr c4
  by_cases c20 : a2 = 3
  · rw [if_pos c20] at H
    have c20b0 : (a2 == 3) = true := beq_iff_eq.mpr c20
    have c20b1 : (a2 != 3) = false := bne_eq_false_iff_eq.mpr c20
    clear c20
    replace H := Option.bind_eq_some_iff.mp H
    obtain ⟨⟨t136, t137, t138⟩, A210, H⟩ := H
    replace H : ((surtitleref3_Floor.f k t136 t137 t138 a1_0 a1_1 a1_2).bind fun bt139 => ((surtitleref3_right.f (!bt139.1) bt139.2.1 bt139.2.2).bind fun bt143 => (some (bt143.1, bt143.2.1, bt143.2.2)))) = some (r1, r2, r3) := H
    have A21 := Aside0.mk A210
    clear A210
    replace H := Option.bind_eq_some_iff.mp H
    obtain ⟨⟨t139, t140, t141⟩, A220, H⟩ := H
    replace H : ((surtitleref3_right.f (!t139) t140 t141).bind fun bt143 => (some (bt143.1, bt143.2.1, bt143.2.2))) = some (r1, r2, r3) := H
    have A22 := Aside0.mk A220
    clear A220
    replace H := Option.bind_eq_some_iff.mp H
    obtain ⟨⟨t143, t144, t145⟩, A230, H⟩ := H
    replace H : (some (t143, t144, t145)) = some (r1, r2, r3) := H
    have A23 := Aside0.mk A230
    clear A230
    simp only [Option.some.injEq, Prod.mk.injEq] at H
    obtain ⟨rfl, rfl, rfl⟩ := H
    go_enter Tryd.func68, Tryd.ntmps68
    try go_wp2_with (first | ((with_reducible refine gate_dst (N := 3) rfl ?_); refine box_event ?hg (N := 3) ?hd (cs := #[.bool a0_0, .int .u64 a0_1, .int .u64 a0_2]) (t := 74) ?hr ?_; (case hd => rfl); (case hg => rfl); (case hr => first | (go_simp; done) | (go_simp; rfl)); intro gb121 hg w24 hbox hb; have BK121 := Aside0.mk (hbox); have GW121 := ag hg HB; have GE121 := ag hg HB; replace HB := hs hb HB; clear hb hbox hg) | ((with_reducible refine gate_dst (N := 4) rfl ?_); refine box_event ?hg (N := 4) ?hd (cs := #[.bool a1_0, .int .u64 a1_1, .int .u64 a1_2]) (t := 74) ?hr ?_; (case hd => rfl); (case hg => rfl); (case hr => first | (go_simp; done) | (go_simp; rfl)); intro gb122 hg w25 hbox hb; have BK122 := Aside0.mk (hbox); have GW122 := ag hg HB; have GE122 := ag hg HB; have NB121_122 := na hg BK121; have NB122_121 := nb hg BK121; replace BK121 := ab hb BK121; replace HB := hs hb HB; clear hb hbox hg) | ((with_reducible refine gate_dst (N := 6) rfl ?_); refine box_event ?hg (N := 6) ?hd (cs := #[.bool false, .int .u64 0, .int .u64 0]) (t := 74) ?hr ?_; (case hd => rfl); (case hg => rfl); (case hr => first | (go_simp; done) | (go_simp; rfl)); intro gb123 hg w26 hbox hb; have BK123 := Aside0.mk (hbox); have GW123 := ag hg HB; have GE123 := ag hg HB; have NB121_123 := na hg BK121; have NB123_121 := nb hg BK121; have NB122_123 := na hg BK122; have NB123_122 := nb hg BK122; replace BK121 := ab hb BK121; replace BK122 := ab hb BK122; replace HB := hs hb HB; clear hb hbox hg; have hnb27 := NB121_122.out; have hnc27 := NB122_121.out; have hnb28 := NB121_123.out; have hnc28 := NB123_121.out; obtain ⟨hcz29_0, hcz29_1, hcz29_2, hfz29_0, hfz29_1, hfz29_2⟩ := k3 BK121.out))
    have n0_ : Aside0 ((w26.setCell ⟨gb121, 0, none⟩ (.bool (!a0_0))).heap[gb121]? = some (.cells #[.bool (!a0_0), .int .u64 a0_1, .int .u64 a0_2] 74 (0, 0))) := ⟨by refine bk ?_; refine blk_put (cs := #[.bool a0_0, .int .u64 a0_1, .int .u64 a0_2]) ?_ 0 _ rfl; refine bk ?_; exact BK121.out⟩
    have n1_ : Aside0 ((w26.setCell ⟨gb121, 0, none⟩ (.bool (!a0_0))).heap[gb122]? = some (.cells #[.bool a1_0, .int .u64 a1_1, .int .u64 a1_2] 74 (0, 0))) := ⟨by refine bk ?_; exact BK122.out⟩
    have n2_ : Aside0 ((w26.setCell ⟨gb121, 0, none⟩ (.bool (!a0_0))).heap[gb123]? = some (.cells #[.bool false, .int .u64 0, .int .u64 0] 74 (0, 0))) := ⟨by refine bk ?_; exact BK123.out⟩
    have n3_ : Aside0 (Below w.heap.size w (w26.setCell ⟨gb121, 0, none⟩ (.bool (!a0_0)))) := ⟨by repeat (first | (with_reducible first | exact HB.out | apply below_alloc | apply pw_below_drewN | apply below_drew1 | refine below_set ?_ GE121.out | refine below_set ?_ GE122.out | refine below_set ?_ GE123.out) | exact HB.out)⟩
    (try clear BK121)
    (try clear BK122)
    (try clear BK123)
    (try clear HB)
    generalize (w26.setCell ⟨gb121, 0, none⟩ (.bool (!a0_0))) = w30 at n0_ n1_ n2_ n3_ ⊢
    have BK121 := n0_
    have BK122 := n1_
    have BK123 := n2_
    have HB := n3_
    clear n0_ n1_ n2_ n3_
    have n0_ := Aside0.mk (blk_drew BK121.out)
    have n1_ := Aside0.mk (blk_drew BK122.out)
    have n2_ := Aside0.mk (blk_drew BK123.out)
    have n3_ := Aside0.mk (below_drew1 HB.out)
    clear BK121
    clear BK122
    clear BK123
    clear HB
    have BK121 := n0_
    have BK122 := n1_
    have BK123 := n2_
    have HB := n3_
    clear n0_ n1_ n2_ n3_
    refine start_ (n := 6) (S := fun w' => w'.cell? ⟨gb121, 0, none⟩ = some (.bool (!a0_0)) ∧ w'.cell? ⟨gb121, 1, none⟩ = some (.int .u64 a0_1) ∧ w'.cell? ⟨gb121, 2, none⟩ = some (.int .u64 a0_2) ∧ w'.cell? ⟨gb122, 0, none⟩ = some (.bool a1_0) ∧ w'.cell? ⟨gb122, 1, none⟩ = some (.int .u64 a1_1) ∧ w'.cell? ⟨gb122, 2, none⟩ = some (.int .u64 a1_2)) (ds := []) #[false, false, false, false, false, false] (by kernel_rfl) rfl rfl ⟨c0 BK121.out, c1 BK121.out, c2 BK121.out, c0 BK122.out, c1 BK122.out, c2 BK122.out⟩ (fun hHeld => ?_)
    generalize w30.drew = w31 at BK121 BK122 BK123 HB hHeld ⊢
    refine take_ (i := 0) (N := some 26) (v := ?_) (a' := ?_) #[true, false, false, false, false, false] rfl rfl (by kernel_rfl) (fun _ _ _ h => h) (Or.inl ⟨by rfl, ?_⟩) hHeld ?_ ?_
    rotate_left
    · rintro w' ⟨s0, s1, s2, s3, s4, s5⟩
      go_simp
      with_reducible rfl
    rotate_left
    · simp only [Act.put, List.setIfInBounds_toArray, List.set_cons_zero, List.set_cons_succ, i64_w, i32_w]
      rfl
    refine take_ (i := 2) (N := some 28) (v := ?_) (a' := ?_) #[true, false, true, false, false, false] rfl rfl (by kernel_rfl) (fun _ _ _ h => h) (Or.inl ⟨by rfl, ?_⟩) hHeld ?_ ?_
    rotate_left
    · rintro w' ⟨s0, s1, s2, s3, s4, s5⟩
      go_simp
      with_reducible rfl
    rotate_left
    · simp only [Act.put, List.setIfInBounds_toArray, List.set_cons_zero, List.set_cons_succ, i64_w, i32_w]
      rfl
    refine join_ (σ := Nat) 1 #[true, true, true, true, true, false] (fun s_ => [(27, .agg #[.bool t136, .int .u64 t137, .int .u64 t138]), (29, .agg #[.bool t139, .int .u64 t140, .int .u64 t141]), (7, .pointer (some ⟨s_, 0, none⟩))]) (fun s_ w' => (w'.cell? ⟨gb121, 0, none⟩ = some (.bool (!a0_0)) ∧ w'.cell? ⟨gb121, 1, none⟩ = some (.int .u64 a0_1) ∧ w'.cell? ⟨gb121, 2, none⟩ = some (.int .u64 a0_2) ∧ w'.cell? ⟨gb122, 0, none⟩ = some (.bool a1_0) ∧ w'.cell? ⟨gb122, 1, none⟩ = some (.int .u64 a1_1) ∧ w'.cell? ⟨gb122, 2, none⟩ = some (.int .u64 a1_2)) ∧ (w'.heap[gb121]? = some (.cells #[.bool (!a0_0), .int .u64 a0_1, .int .u64 a0_2] 74 (0, 0))) ∧ (w'.heap[gb122]? = some (.cells #[.bool a1_0, .int .u64 a1_1, .int .u64 a1_2] 74 (0, 0))) ∧ (w'.heap[gb123]? = some (.cells #[.bool false, .int .u64 0, .int .u64 0] 74 (0, 0))) ∧ (w'.heap[s_]? = some (.cells #[.bool false, .int .u64 0, .int .u64 0] 74 (0, 0))) ∧ (w.heap.size ≤ s_) ∧ (w.heap.size ≤ s_) ∧ (gb121 ≠ s_) ∧ (s_ ≠ gb121) ∧ (gb122 ≠ s_) ∧ (s_ ≠ gb122) ∧ (gb123 ≠ s_) ∧ (s_ ≠ gb123) ∧ (Below w.heap.size w w')) ?_ ?_
    rotate_left
    · intro hCont
      refine two_ (i := 1) (j := 4) (Ni := some 27) (Nj := some 7) #[true, true, true, false, false, false] #[true, false, true, false, true, false] rfl rfl rfl rfl (by kernel_rfl) (by decide) (by decide) (fun K hK => ?_) (fun K hK => ?_)
      · skip
        refine goes_ Tryd.func54 (by kernel_rfl) rfl #[.agg #[.bool (!a0_0), .int .u64 a0_1, .int .u64 a0_2]] (by rfl) rfl rfl (by (try simp only [List.map_toArray, List.map_cons, List.map_nil]); first | done | rfl | (simp only [List.length_drop, List.length_take]; rfl)) ?_
        with_reducible refine (surtitleref3_right.calls (!a0_0) a0_1 a0_2 t136 t137 t138 _ A21.out).mono ?_
        rintro e w32 ⟨rfl, hb⟩
        refine ⟨_, rfl, ?_⟩
        have n0_ := ab hb BK121
        have n1_ := ab hb BK122
        have n2_ := ab hb BK123
        have n3_ := hs hb HB
        clear BK121
        clear BK122
        clear BK123
        clear HB
        have BK121 := n0_
        have BK122 := n1_
        have BK123 := n2_
        have HB := n3_
        clear n0_ n1_ n2_ n3_
        (try clear hb)
        (try clear hb2)
        (try clear hk)
        (try clear hi)
        refine hK.out _ _ ⟨c0 BK121.out, c1 BK121.out, c2 BK121.out, c0 BK122.out, c1 BK122.out, c2 BK122.out⟩ (fun hHeld => ?_)
        clear hK K
        refine norm_ (a' := ?_) ?_ ?_
        rotate_left
        · show Act.put _ (some 27) _ = _
          simp only [Act.put, List.setIfInBounds_toArray, List.set_cons_zero, List.set_cons_succ, i64_w, i32_w]
          rfl
        refine two_ (i := 3) (j := 4) (Ni := some 29) (Nj := some 7) #[true, true, true, true, false, false] #[true, true, true, false, true, false] rfl rfl rfl rfl (by kernel_rfl) (by decide) (by decide) (fun K hK => ?_) (fun K hK => ?_)
        · skip
          refine goes_ Tryd.func92 (by kernel_rfl) rfl #[.agg #[.bool t136, .int .u64 t137, .int .u64 t138], .agg #[.bool a1_0, .int .u64 a1_1, .int .u64 a1_2]] (by rfl) rfl rfl (by (try simp only [List.map_toArray, List.map_cons, List.map_nil]); first | done | rfl | (simp only [List.length_drop, List.length_take]; rfl)) ?_
          with_reducible refine (surtitleref3_Floor.calls k t136 t137 t138 a1_0 a1_1 a1_2 t139 t140 t141 _ A22.out).mono ?_
          rintro e w33 ⟨rfl, hb⟩
          refine ⟨_, rfl, ?_⟩
          have n0_ := ab hb BK121
          have n1_ := ab hb BK122
          have n2_ := ab hb BK123
          have n3_ := hs hb HB
          clear BK121
          clear BK122
          clear BK123
          clear HB
          have BK121 := n0_
          have BK122 := n1_
          have BK123 := n2_
          have HB := n3_
          clear n0_ n1_ n2_ n3_
          (try clear hb)
          (try clear hb2)
          (try clear hk)
          (try clear hi)
          refine hK.out _ _ ⟨c0 BK121.out, c1 BK121.out, c2 BK121.out, c0 BK122.out, c1 BK122.out, c2 BK122.out⟩ (fun hHeld => ?_)
          clear hK K
          refine norm_ (a' := ?_) ?_ ?_
          rotate_left
          · show Act.put _ (some 29) _ = _
            simp only [Act.put, List.setIfInBounds_toArray, List.set_cons_zero, List.set_cons_succ, i64_w, i32_w]
            rfl
          refine one_ (i := 4) (N := some 7) #[true, true, true, true, true, false] rfl rfl (by kernel_rfl) (by decide) (fun K hK => ?_)
          refine box_step ?hg (N := 7) ?hd (cs := #[.bool false, .int .u64 0, .int .u64 0]) (t := 74) ?hr ?_; (case hd => rfl); (case hg => rfl); (case hr => first | (go_simp; done) | (go_simp; rfl))
          intro gb142 hg w34 hbox hb
          have n0_ := ab hb BK121
          have n1_ := ab hb BK122
          have n2_ := ab hb BK123
          have n3_ := hs hb HB
          have n4_ := Aside0.mk (hbox)
          have n5_ := ag hg HB
          have n6_ := ag hg HB
          have n7_ := na hg BK121
          have n8_ := nb hg BK121
          have n9_ := na hg BK122
          have n10_ := nb hg BK122
          have n11_ := na hg BK123
          have n12_ := nb hg BK123
          clear BK121
          clear BK122
          clear BK123
          clear HB
          have BK121 := n0_
          have BK122 := n1_
          have BK123 := n2_
          have HB := n3_
          have BK142 := n4_
          have GW142 := n5_
          have GE142 := n6_
          have NB121_142 := n7_
          have NB142_121 := n8_
          have NB122_142 := n9_
          have NB142_122 := n10_
          have NB123_142 := n11_
          have NB142_123 := n12_
          clear n0_ n1_ n2_ n3_ n4_ n5_ n6_ n7_ n8_ n9_ n10_ n11_ n12_
          clear hb hbox hg
          refine hK.out _ _ ⟨c0 BK121.out, c1 BK121.out, c2 BK121.out, c0 BK122.out, c1 BK122.out, c2 BK122.out⟩ (fun hHeld => ?_)
          clear hK K
          refine norm_ (a' := ?_) ?_ ?_
          rotate_left
          · show Act.put _ (some 7) _ = _
            simp only [Act.put, List.setIfInBounds_toArray, List.set_cons_zero, List.set_cons_succ, i64_w, i32_w]
            rfl
          exact norm_ (by simp only [putAll, Act.put, List.setIfInBounds_toArray, List.set_cons_zero, List.set_cons_succ]) (hCont (gb142) _ ⟨hHeld, (bk BK121.out), (bk BK122.out), (bk BK123.out), (bk BK142.out), GW142.out, GE142.out, NB121_142.out, NB142_121.out, NB122_142.out, NB142_122.out, NB123_142.out, NB142_123.out, (bw HB.out)⟩)
        skip
        refine box_step ?hg (N := 7) ?hd (cs := #[.bool false, .int .u64 0, .int .u64 0]) (t := 74) ?hr ?_; (case hd => rfl); (case hg => rfl); (case hr => first | (go_simp; done) | (go_simp; rfl))
        intro gb142 hg w33 hbox hb
        have n0_ := ab hb BK121
        have n1_ := ab hb BK122
        have n2_ := ab hb BK123
        have n3_ := hs hb HB
        have n4_ := Aside0.mk (hbox)
        have n5_ := ag hg HB
        have n6_ := ag hg HB
        have n7_ := na hg BK121
        have n8_ := nb hg BK121
        have n9_ := na hg BK122
        have n10_ := nb hg BK122
        have n11_ := na hg BK123
        have n12_ := nb hg BK123
        clear BK121
        clear BK122
        clear BK123
        clear HB
        have BK121 := n0_
        have BK122 := n1_
        have BK123 := n2_
        have HB := n3_
        have BK142 := n4_
        have GW142 := n5_
        have GE142 := n6_
        have NB121_142 := n7_
        have NB142_121 := n8_
        have NB122_142 := n9_
        have NB142_122 := n10_
        have NB123_142 := n11_
        have NB142_123 := n12_
        clear n0_ n1_ n2_ n3_ n4_ n5_ n6_ n7_ n8_ n9_ n10_ n11_ n12_
        clear hb hbox hg
        refine hK.out _ _ ⟨c0 BK121.out, c1 BK121.out, c2 BK121.out, c0 BK122.out, c1 BK122.out, c2 BK122.out⟩ (fun hHeld => ?_)
        clear hK K
        refine norm_ (a' := ?_) ?_ ?_
        rotate_left
        · show Act.put _ (some 7) _ = _
          simp only [Act.put, List.setIfInBounds_toArray, List.set_cons_zero, List.set_cons_succ, i64_w, i32_w]
          rfl
        refine one_ (i := 3) (N := some 29) #[true, true, true, true, true, false] rfl rfl (by kernel_rfl) (by decide) (fun K hK => ?_)
        refine goes_ Tryd.func92 (by kernel_rfl) rfl #[.agg #[.bool t136, .int .u64 t137, .int .u64 t138], .agg #[.bool a1_0, .int .u64 a1_1, .int .u64 a1_2]] (by rfl) rfl rfl (by (try simp only [List.map_toArray, List.map_cons, List.map_nil]); first | done | rfl | (simp only [List.length_drop, List.length_take]; rfl)) ?_
        with_reducible refine (surtitleref3_Floor.calls k t136 t137 t138 a1_0 a1_1 a1_2 t139 t140 t141 _ A22.out).mono ?_
        rintro e w34 ⟨rfl, hb⟩
        refine ⟨_, rfl, ?_⟩
        have n0_ := ab hb BK121
        have n1_ := ab hb BK122
        have n2_ := ab hb BK123
        have n3_ := ab hb BK142
        have n4_ := hs hb HB
        clear BK121
        clear BK122
        clear BK123
        clear BK142
        clear HB
        have BK121 := n0_
        have BK122 := n1_
        have BK123 := n2_
        have BK142 := n3_
        have HB := n4_
        clear n0_ n1_ n2_ n3_ n4_
        (try clear hb)
        (try clear hb2)
        (try clear hk)
        (try clear hi)
        refine hK.out _ _ ⟨c0 BK121.out, c1 BK121.out, c2 BK121.out, c0 BK122.out, c1 BK122.out, c2 BK122.out⟩ (fun hHeld => ?_)
        clear hK K
        refine norm_ (a' := ?_) ?_ ?_
        rotate_left
        · show Act.put _ (some 29) _ = _
          simp only [Act.put, List.setIfInBounds_toArray, List.set_cons_zero, List.set_cons_succ, i64_w, i32_w]
          rfl
        exact norm_ (by simp only [putAll, Act.put, List.setIfInBounds_toArray, List.set_cons_zero, List.set_cons_succ]) (hCont (gb142) _ ⟨hHeld, (bk BK121.out), (bk BK122.out), (bk BK123.out), (bk BK142.out), GW142.out, GE142.out, NB121_142.out, NB142_121.out, NB122_142.out, NB142_122.out, NB123_142.out, NB142_123.out, (bw HB.out)⟩)
      skip
      refine box_step ?hg (N := 7) ?hd (cs := #[.bool false, .int .u64 0, .int .u64 0]) (t := 74) ?hr ?_; (case hd => rfl); (case hg => rfl); (case hr => first | (go_simp; done) | (go_simp; rfl))
      intro gb142 hg w32 hbox hb
      have n0_ := ab hb BK121
      have n1_ := ab hb BK122
      have n2_ := ab hb BK123
      have n3_ := hs hb HB
      have n4_ := Aside0.mk (hbox)
      have n5_ := ag hg HB
      have n6_ := ag hg HB
      have n7_ := na hg BK121
      have n8_ := nb hg BK121
      have n9_ := na hg BK122
      have n10_ := nb hg BK122
      have n11_ := na hg BK123
      have n12_ := nb hg BK123
      clear BK121
      clear BK122
      clear BK123
      clear HB
      have BK121 := n0_
      have BK122 := n1_
      have BK123 := n2_
      have HB := n3_
      have BK142 := n4_
      have GW142 := n5_
      have GE142 := n6_
      have NB121_142 := n7_
      have NB142_121 := n8_
      have NB122_142 := n9_
      have NB142_122 := n10_
      have NB123_142 := n11_
      have NB142_123 := n12_
      clear n0_ n1_ n2_ n3_ n4_ n5_ n6_ n7_ n8_ n9_ n10_ n11_ n12_
      clear hb hbox hg
      refine hK.out _ _ ⟨c0 BK121.out, c1 BK121.out, c2 BK121.out, c0 BK122.out, c1 BK122.out, c2 BK122.out⟩ (fun hHeld => ?_)
      clear hK K
      refine norm_ (a' := ?_) ?_ ?_
      rotate_left
      · show Act.put _ (some 7) _ = _
        simp only [Act.put, List.setIfInBounds_toArray, List.set_cons_zero, List.set_cons_succ, i64_w, i32_w]
        rfl
      refine one_ (i := 1) (N := some 27) #[true, true, true, false, true, false] rfl rfl (by kernel_rfl) (by decide) (fun K hK => ?_)
      refine goes_ Tryd.func54 (by kernel_rfl) rfl #[.agg #[.bool (!a0_0), .int .u64 a0_1, .int .u64 a0_2]] (by rfl) rfl rfl (by (try simp only [List.map_toArray, List.map_cons, List.map_nil]); first | done | rfl | (simp only [List.length_drop, List.length_take]; rfl)) ?_
      with_reducible refine (surtitleref3_right.calls (!a0_0) a0_1 a0_2 t136 t137 t138 _ A21.out).mono ?_
      rintro e w33 ⟨rfl, hb⟩
      refine ⟨_, rfl, ?_⟩
      have n0_ := ab hb BK121
      have n1_ := ab hb BK122
      have n2_ := ab hb BK123
      have n3_ := ab hb BK142
      have n4_ := hs hb HB
      clear BK121
      clear BK122
      clear BK123
      clear BK142
      clear HB
      have BK121 := n0_
      have BK122 := n1_
      have BK123 := n2_
      have BK142 := n3_
      have HB := n4_
      clear n0_ n1_ n2_ n3_ n4_
      (try clear hb)
      (try clear hb2)
      (try clear hk)
      (try clear hi)
      refine hK.out _ _ ⟨c0 BK121.out, c1 BK121.out, c2 BK121.out, c0 BK122.out, c1 BK122.out, c2 BK122.out⟩ (fun hHeld => ?_)
      clear hK K
      refine norm_ (a' := ?_) ?_ ?_
      rotate_left
      · show Act.put _ (some 27) _ = _
        simp only [Act.put, List.setIfInBounds_toArray, List.set_cons_zero, List.set_cons_succ, i64_w, i32_w]
        rfl
      refine one_ (i := 3) (N := some 29) #[true, true, true, true, true, false] rfl rfl (by kernel_rfl) (by decide) (fun K hK => ?_)
      refine goes_ Tryd.func92 (by kernel_rfl) rfl #[.agg #[.bool t136, .int .u64 t137, .int .u64 t138], .agg #[.bool a1_0, .int .u64 a1_1, .int .u64 a1_2]] (by rfl) rfl rfl (by (try simp only [List.map_toArray, List.map_cons, List.map_nil]); first | done | rfl | (simp only [List.length_drop, List.length_take]; rfl)) ?_
      with_reducible refine (surtitleref3_Floor.calls k t136 t137 t138 a1_0 a1_1 a1_2 t139 t140 t141 _ A22.out).mono ?_
      rintro e w34 ⟨rfl, hb⟩
      refine ⟨_, rfl, ?_⟩
      have n0_ := ab hb BK121
      have n1_ := ab hb BK122
      have n2_ := ab hb BK123
      have n3_ := ab hb BK142
      have n4_ := hs hb HB
      clear BK121
      clear BK122
      clear BK123
      clear BK142
      clear HB
      have BK121 := n0_
      have BK122 := n1_
      have BK123 := n2_
      have BK142 := n3_
      have HB := n4_
      clear n0_ n1_ n2_ n3_ n4_
      (try clear hb)
      (try clear hb2)
      (try clear hk)
      (try clear hi)
      refine hK.out _ _ ⟨c0 BK121.out, c1 BK121.out, c2 BK121.out, c0 BK122.out, c1 BK122.out, c2 BK122.out⟩ (fun hHeld => ?_)
      clear hK K
      refine norm_ (a' := ?_) ?_ ?_
      rotate_left
      · show Act.put _ (some 29) _ = _
        simp only [Act.put, List.setIfInBounds_toArray, List.set_cons_zero, List.set_cons_succ, i64_w, i32_w]
        rfl
      exact norm_ (by simp only [putAll, Act.put, List.setIfInBounds_toArray, List.set_cons_zero, List.set_cons_succ]) (hCont (gb142) _ ⟨hHeld, (bk BK121.out), (bk BK122.out), (bk BK123.out), (bk BK142.out), GW142.out, GE142.out, NB121_142.out, NB142_121.out, NB122_142.out, NB142_122.out, NB123_142.out, NB142_123.out, (bw HB.out)⟩)
    rintro gb142 w35 ⟨hS_, h0_, h1_, h2_, h3_, h4_, h5_, h6_, h7_, h8_, h9_, h10_, h11_, h12_⟩
    have n0_ : Aside0 (w35.heap[gb121]? = some (.cells #[.bool (!a0_0), .int .u64 a0_1, .int .u64 a0_2] 74 (0, 0))) := ⟨h0_⟩
    have n1_ : Aside0 (w35.heap[gb122]? = some (.cells #[.bool a1_0, .int .u64 a1_1, .int .u64 a1_2] 74 (0, 0))) := ⟨h1_⟩
    have n2_ : Aside0 (w35.heap[gb123]? = some (.cells #[.bool false, .int .u64 0, .int .u64 0] 74 (0, 0))) := ⟨h2_⟩
    have n3_ : Aside0 (w35.heap[gb142]? = some (.cells #[.bool false, .int .u64 0, .int .u64 0] 74 (0, 0))) := ⟨h3_⟩
    have n4_ : Aside0 (w.heap.size ≤ gb142) := ⟨h4_⟩
    have n5_ : Aside0 (w.heap.size ≤ gb142) := ⟨h5_⟩
    have n6_ : Aside0 (gb121 ≠ gb142) := ⟨h6_⟩
    have n7_ : Aside0 (gb142 ≠ gb121) := ⟨h7_⟩
    have n8_ : Aside0 (gb122 ≠ gb142) := ⟨h8_⟩
    have n9_ : Aside0 (gb142 ≠ gb122) := ⟨h9_⟩
    have n10_ : Aside0 (gb123 ≠ gb142) := ⟨h10_⟩
    have n11_ : Aside0 (gb142 ≠ gb123) := ⟨h11_⟩
    have n12_ : Aside0 (Below w.heap.size w w35) := ⟨h12_⟩
    clear BK121
    clear BK122
    clear BK123
    clear HB
    clear h0_ h1_ h2_ h3_ h4_ h5_ h6_ h7_ h8_ h9_ h10_ h11_ h12_
    have BK121 := n0_
    have BK122 := n1_
    have BK123 := n2_
    have BK142 := n3_
    have GW142 := n4_
    have GE142 := n5_
    have NB121_142 := n6_
    have NB142_121 := n7_
    have NB122_142 := n8_
    have NB142_122 := n9_
    have NB123_142 := n10_
    have NB142_123 := n11_
    have HB := n12_
    clear n0_ n1_ n2_ n3_ n4_ n5_ n6_ n7_ n8_ n9_ n10_ n11_ n12_
    have hHeld : w35.cell? ⟨gb121, 0, none⟩ = some (.bool (!a0_0)) ∧ w35.cell? ⟨gb121, 1, none⟩ = some (.int .u64 a0_1) ∧ w35.cell? ⟨gb121, 2, none⟩ = some (.int .u64 a0_2) ∧ w35.cell? ⟨gb122, 0, none⟩ = some (.bool a1_0) ∧ w35.cell? ⟨gb122, 1, none⟩ = some (.int .u64 a1_1) ∧ w35.cell? ⟨gb122, 2, none⟩ = some (.int .u64 a1_2) := hS_
    refine norm_ (a' := ?_) ?_ ?_
    rotate_left
    · simp only [putAll, Act.put, List.setIfInBounds_toArray, List.set_cons_zero, List.set_cons_succ]
      rfl
    refine one_ (i := 5) (N := none) #[true, true, true, true, true, true] rfl rfl (by kernel_rfl) (by decide) (fun K hK => ?_)
    have hs36 : w35.cell? ⟨gb142, 0, none⟩ = some (.bool false) := c0 BK142.out
    have hfs36 := blk_frozen BK142.out 0
    have hns36_0 := NB121_142.out
    have hns36_1 := NB122_142.out
    have hns36_2 := NB123_142.out
    have hms36_0 := NB142_121.out
    have hms36_1 := NB142_122.out
    have hms36_2 := NB142_123.out
    have hs37 : w35.cell? ⟨gb142, 1, none⟩ = some (.int .u64 0) := c1 BK142.out
    have hfs37 := blk_frozen BK142.out 1
    have hns37_0 := NB121_142.out
    have hns37_1 := NB122_142.out
    have hns37_2 := NB123_142.out
    have hms37_0 := NB142_121.out
    have hms37_1 := NB142_122.out
    have hms37_2 := NB142_123.out
    have hs38 : w35.cell? ⟨gb142, 2, none⟩ = some (.int .u64 0) := c2 BK142.out
    have hfs38 := blk_frozen BK142.out 2
    have hns38_0 := NB121_142.out
    have hns38_1 := NB122_142.out
    have hns38_2 := NB123_142.out
    have hms38_0 := NB142_121.out
    have hms38_1 := NB142_122.out
    have hms38_2 := NB142_123.out
    refine skip_ (w1 := ?_) (by rfl) rfl ?_ ?_
    rotate_left
    · go_simp
      rfl
    refine hK.out _ _ ⟨((cell_far (p := ⟨gb142, _, none⟩) NB121_142.out _).trans (((cell_far (p := ⟨gb142, _, none⟩) NB121_142.out _).trans (((cell_far (p := ⟨gb142, _, none⟩) NB121_142.out _).trans (hHeld.1)))))), ((cell_far (p := ⟨gb142, _, none⟩) NB121_142.out _).trans (((cell_far (p := ⟨gb142, _, none⟩) NB121_142.out _).trans (((cell_far (p := ⟨gb142, _, none⟩) NB121_142.out _).trans (hHeld.2.1)))))), ((cell_far (p := ⟨gb142, _, none⟩) NB121_142.out _).trans (((cell_far (p := ⟨gb142, _, none⟩) NB121_142.out _).trans (((cell_far (p := ⟨gb142, _, none⟩) NB121_142.out _).trans (hHeld.2.2.1)))))), ((cell_far (p := ⟨gb142, _, none⟩) NB122_142.out _).trans (((cell_far (p := ⟨gb142, _, none⟩) NB122_142.out _).trans (((cell_far (p := ⟨gb142, _, none⟩) NB122_142.out _).trans (hHeld.2.2.2.1)))))), ((cell_far (p := ⟨gb142, _, none⟩) NB122_142.out _).trans (((cell_far (p := ⟨gb142, _, none⟩) NB122_142.out _).trans (((cell_far (p := ⟨gb142, _, none⟩) NB122_142.out _).trans (hHeld.2.2.2.2.1)))))), ((cell_far (p := ⟨gb142, _, none⟩) NB122_142.out _).trans (((cell_far (p := ⟨gb142, _, none⟩) NB122_142.out _).trans (((cell_far (p := ⟨gb142, _, none⟩) NB122_142.out _).trans (hHeld.2.2.2.2.2))))))⟩ (fun hHeld => ?_)
    clear hK K
    refine done_ (by kernel_rfl) ?_
    have hnb39 := NB142_121.out
    have hnc39 := NB121_142.out
    have hnb40 := NB142_122.out
    have hnc40 := NB122_142.out
    have hnb41 := NB142_123.out
    have hnc41 := NB123_142.out
    obtain ⟨hcz42_0, hcz42_1, hcz42_2, hfz42_0, hfz42_1, hfz42_2⟩ := k3 BK142.out
    try go_wp2_with (first | ((with_reducible refine gate_callee (f := 54) rfl ?_); refine goesL_ (some 35) rfl rfl Tryd.func54 (by kernel_rfl) rfl #[.agg #[.bool (!t139), .int .u64 t140, .int .u64 t141]] rfl (by (try simp only [List.map_toArray, List.map_cons, List.map_nil]); first | done | rfl | (simp only [List.length_drop, List.length_take]; rfl)) ?_; (with_reducible refine (surtitleref3_right.calls (!t139) t140 t141 t143 t144 t145 _ A23.out).mono ?_); rintro e w43 ⟨rfl, hb⟩; refine ⟨_, rfl, ?_⟩; have n0_ := ab hb BK121; have n1_ := ab hb BK122; have n2_ := ab hb BK123; have n3_ := Aside0.mk (blk_below (g := gb142) (o := .cells #[.bool (!t139), .int .u64 t140, .int .u64 t141] 74 (0, 0)) (by refine bk ?_; refine blk_put (cs := #[.bool t139, .int .u64 t140, .int .u64 t141]) ?_ 0 _ rfl; refine bk ?_; refine blk_put (cs := #[.bool t139, .int .u64 t140, .int .u64 0]) ?_ 2 _ rfl; refine bk ?_; refine blk_put (cs := #[.bool t139, .int .u64 0, .int .u64 0]) ?_ 1 _ rfl; refine bk ?_; refine blk_put (cs := #[.bool false, .int .u64 0, .int .u64 0]) ?_ 0 _ rfl; refine bk ?_; exact BK142.out) hb); have n4_ := hs hb HB; clear BK121; clear BK122; clear BK123; clear BK142; clear HB; have BK121 := n0_; have BK122 := n1_; have BK123 := n2_; have BK142 := n3_; have HB := n4_; clear n0_ n1_ n2_ n3_ n4_; (try clear hb); (try clear hb2); (try clear hk); (try clear hi); have hnb44 := NB123_122.out; have hnc44 := NB122_123.out; obtain ⟨hcz45_0, hcz45_1, hcz45_2, hfz45_0, hfz45_1, hfz45_2⟩ := k3 BK123.out))
    refine bodyPost_ret (results_cell_row rfl _ _ gb123 74 #[.bool t143, .int .u64 t144, .int .u64 t145] (0, 0) _ rfl (by refine bk ?_; refine blk_put (cs := #[.bool t143, .int .u64 t144, .int .u64 0]) ?_ 2 _ rfl; refine bk ?_; refine blk_put (cs := #[.bool t143, .int .u64 0, .int .u64 0]) ?_ 1 _ rfl; refine bk ?_; refine blk_put (cs := #[.bool false, .int .u64 0, .int .u64 0]) ?_ 0 _ rfl; refine bk ?_; exact BK123.out) Tryd.underlying74 rfl (by kernel_rfl)) rfl ?_
    exact ⟨by first | rfl | (simp [errW_none, errW_some] <;> rfl) | (simp [*, errW_none, errW_some] <;> rfl), by repeat (first | (with_reducible first | exact HB.out | apply below_alloc | apply pw_below_drewN | apply below_drew1 | refine below_set ?_ GE121.out | refine below_set ?_ GE122.out | refine below_set ?_ GE123.out | refine below_set ?_ GE142.out) | exact HB.out)⟩
  rw [if_neg c20] at H
  have c20b0 : (a2 == 3) = false := beq_eq_false_iff_ne.mpr c20
  have c20b1 : (a2 != 3) = true := bne_iff_ne.mpr c20
  replace H := Option.bind_eq_some_iff.mp H
  obtain ⟨⟨t146, t147, t148⟩, A460, H⟩ := H
  replace H : (some (t146, t147, t148)) = some (r1, r2, r3) := H
  have A46 := Aside0.mk A460
  clear A460
  simp only [Option.some.injEq, Prod.mk.injEq] at H
  obtain ⟨rfl, rfl, rfl⟩ := H
  go_enter Tryd.func68, Tryd.ntmps68
  go_wp2_with (first | ((with_reducible refine gate_dst (N := 3) rfl ?_); refine box_event ?hg (N := 3) ?hd (cs := #[.bool a0_0, .int .u64 a0_1, .int .u64 a0_2]) (t := 74) ?hr ?_; (case hd => rfl); (case hg => rfl); (case hr => first | (go_simp; done) | (go_simp; rfl)); intro gb121 hg w47 hbox hb; have BK121 := Aside0.mk (hbox); have GW121 := ag hg HB; have GE121 := ag hg HB; replace HB := hs hb HB; clear hb hbox hg) | ((with_reducible refine gate_dst (N := 4) rfl ?_); refine box_event ?hg (N := 4) ?hd (cs := #[.bool a1_0, .int .u64 a1_1, .int .u64 a1_2]) (t := 74) ?hr ?_; (case hd => rfl); (case hg => rfl); (case hr => first | (go_simp; done) | (go_simp; rfl)); intro gb122 hg w48 hbox hb; have BK122 := Aside0.mk (hbox); have GW122 := ag hg HB; have GE122 := ag hg HB; have NB121_122 := na hg BK121; have NB122_121 := nb hg BK121; replace BK121 := ab hb BK121; replace HB := hs hb HB; clear hb hbox hg) | ((with_reducible refine gate_dst (N := 6) rfl ?_); refine box_event ?hg (N := 6) ?hd (cs := #[.bool false, .int .u64 0, .int .u64 0]) (t := 74) ?hr ?_; (case hd => rfl); (case hg => rfl); (case hr => first | (go_simp; done) | (go_simp; rfl)); intro gb123 hg w49 hbox hb; have BK123 := Aside0.mk (hbox); have GW123 := ag hg HB; have GE123 := ag hg HB; have NB121_123 := na hg BK121; have NB123_121 := nb hg BK121; have NB122_123 := na hg BK122; have NB123_122 := nb hg BK122; replace BK121 := ab hb BK121; replace BK122 := ab hb BK122; replace HB := hs hb HB; clear hb hbox hg; have hnb50 := NB121_122.out; have hnc50 := NB122_121.out; have hnb51 := NB121_123.out; have hnc51 := NB123_121.out; obtain ⟨hcz52_0, hcz52_1, hcz52_2, hfz52_0, hfz52_1, hfz52_2⟩ := k3 BK121.out; have hnb53 := NB122_123.out; have hnc53 := NB123_122.out; obtain ⟨hcz54_0, hcz54_1, hcz54_2, hfz54_0, hfz54_1, hfz54_2⟩ := k3 BK122.out) | ((with_reducible refine gate_callee (f := 92) rfl ?_); refine goesL_ (some 38) rfl rfl Tryd.func92 (by kernel_rfl) rfl #[.agg #[.bool a0_0, .int .u64 a0_1, .int .u64 a0_2], .agg #[.bool a1_0, .int .u64 a1_1, .int .u64 a1_2]] rfl (by (try simp only [List.map_toArray, List.map_cons, List.map_nil]); first | done | rfl | (simp only [List.length_drop, List.length_take]; rfl)) ?_; (with_reducible refine (surtitleref3_Floor.calls k a0_0 a0_1 a0_2 a1_0 a1_1 a1_2 t146 t147 t148 _ A46.out).mono ?_); rintro e w55 ⟨rfl, hb⟩; refine ⟨_, rfl, ?_⟩; replace BK121 := ab hb BK121; replace BK122 := ab hb BK122; replace BK123 := ab hb BK123; replace HB := hs hb HB; (try clear hb); (try clear hb2); (try clear hk); (try clear hi); obtain ⟨hcz56_0, hcz56_1, hcz56_2, hfz56_0, hfz56_1, hfz56_2⟩ := k3 BK123.out))
  refine bodyPost_ret (results_cell_row rfl _ _ gb123 74 #[.bool t146, .int .u64 t147, .int .u64 t148] (0, 0) _ rfl (by refine bk ?_; refine blk_put (cs := #[.bool t146, .int .u64 t147, .int .u64 0]) ?_ 2 _ rfl; refine bk ?_; refine blk_put (cs := #[.bool t146, .int .u64 0, .int .u64 0]) ?_ 1 _ rfl; refine bk ?_; refine blk_put (cs := #[.bool false, .int .u64 0, .int .u64 0]) ?_ 0 _ rfl; refine bk ?_; exact BK123.out) Tryd.underlying74 rfl (by kernel_rfl)) rfl ?_
  exact ⟨by first | rfl | (simp [errW_none, errW_some] <;> rfl) | (simp [*, errW_none, errW_some] <;> rfl), by repeat (first | (with_reducible first | exact HB.out | apply below_alloc | apply pw_below_drewN | apply below_drew1 | refine below_set ?_ GE121.out | refine below_set ?_ GE122.out | refine below_set ?_ GE123.out) | exact HB.out)⟩

end Go.Proofs.YtofndakpenpkbaaDoor.PF
