-- made by wip/pp2.py out of the translation, over contracts of my own
import Derived.Test.YtofndakpenpkbaaDoorProg
import Derived.Below
import Derived.Deep.Draws
import Derived.Deep.AppendLies
import Derived.Maps.AppendAt
import Derived.OwnWalk
import Derived.Laws.BytesArg
import Derived.Laws.MakeOwn
import Derived.Laws.OwnMore
import Derived.Deep.OwnRows
import Derived.Tactics
import Derived.Lib.ConvBytes
import Derived.Laws.Slices
import Derived.WalkKit
import Derived.KernelRfl
import Derived.RowKit3
import Derived.Deep.LoopGhost
import Derived.Deep.QuietTactic
import Derived.BigQuiet
import Derived.WideLaws
import Derived.Deep.DeepCutAuto
import Derived.Deep.CutBlock
import Derived.Deep.RegionHeld3
import Derived.Laws.Rows
import Derived.Lib.AppendStr
import Derived.ArgAppend
import Derived.Laws.IdiomCopy
import Derived.OrdersHeld
import Derived.Laws.BitsLemmas
import Derived.RowKit
import Derived.Test.YtofndakpenpkbaaDoorSnpC
import Derived.Test.YtofndakpenpkbaaDoorStrE
import Derived.Test.YtofndakpenpkbaaDoorPIx2
import Derived.Test.YtofndakpenpkbaaDoorPTx1
import Derived.Test.YtofndakpenpkbaaDoorXW
namespace Go.Proofs.YtofndakpenpkbaaDoor.LSnaps
open Go.Proofs.YtofndakpenpkbaaDoor.PA Go.Proofs.YtofndakpenpkbaaDoor.PC Go.Proofs.YtofndakpenpkbaaDoor.PI Go.Proofs.YtofndakpenpkbaaDoor.PT Go.Proofs.YtofndakpenpkbaaDoor.PO
open Go.RowKit Go.Proofs.YtofndakpenpkbaaDoorW.PrintWords Go.Proofs.YtofndakpenpkbaaDoorW.PrintLast Go.Proofs.YtofndakpenpkbaaDoorW.PrintMore
set_option linter.unusedVariables false
set_option linter.unusedSimpArgs false



def errW : Option Int → Value
  | none => .nilIface
  | some c => .iface 0 (.int .i64 c)
theorem errW_none : errW none = .nilIface := rfl
theorem errW_some (c : Int) : errW (some c) = .iface 0 (.int .i64 c) := rfl

-- the values' own types
/-! #### struct type 24 -/
structure S24 where
  f0 : Int
  f1 : Int
def z24 : S24 := ⟨(0 : Int), (0 : Int)⟩
def k24 : Kd S24 := Kd.iso (Kd.pair (Kd.int .i64) (Kd.int .i64)) (fun x : S24 => (x.f0, x.f1))
theorem k24_open {w : World} {x : S24} {cs : List Value} (h : k24.K w x cs) : cs = [.int .i64 x.f0, .int .i64 x.f1] := by
  obtain ⟨_, _, rfl, rfl, rfl⟩ := h
  exact rfl
theorem k24_openM {w : World} {base : Nat} {ok : Nat → Prop} {x : S24} {cs : List Value} (h : k24.M w base ok x cs) : cs = [.int .i64 x.f0, .int .i64 x.f1] := by
  obtain ⟨_, _, rfl, rfl, rfl⟩ := h
  exact rfl
theorem k24_mk (w : World) (x : S24)  : k24.K w x [.int .i64 x.f0, .int .i64 x.f1] := ⟨[.int .i64 x.f0], [.int .i64 x.f1], rfl, rfl, rfl⟩
theorem k24_mkM (w : World) (base : Nat) (ok : Nat → Prop) (x : S24)  : k24.M w base ok x [.int .i64 x.f0, .int .i64 x.f1] := ⟨[.int .i64 x.f0], [.int .i64 x.f1], rfl, rfl, rfl⟩
def rd_T24 (xs : List S24) (i : Int) : S24 := xs.getD i.toNat z24
theorem at_T24 {w : World} {A : Option Addr} {n : Nat} {xs : List S24} (h : Kd.C k24 w A n xs) (i : Int) (h0 : 0 ≤ i) (h1 : i < n) : ∃ ad , A = some ad ∧ w.cell? (ad.add (i.toNat * 2)) = some (.int .i64 (rd_T24 xs i).f0) ∧ w.cell? ⟨(ad.add (i.toNat * 2)).block, (ad.add (i.toNat * 2)).off + 1, none⟩ = some (.int .i64 (rd_T24 xs i).f1) := by
  obtain ⟨ad, c, e, _, hK, hc0⟩ := Kd.C_get h z24 i h0 h1
  have hc : ∀ j u, c[j]? = some u → w.cell? (ad.add (i.toNat * 2 + j)) = some u := hc0
  obtain rfl := k24_open hK
  exact ⟨ad, e, hc 0 _ rfl, by rw [← add_field _ _ 1 (by omega)]; exact hc 1 _ rfl⟩

end Go.Proofs.YtofndakpenpkbaaDoor.LSnaps

namespace Go.Proofs.YtofndakpenpkbaaDoor.LSnaps
open Go.Proofs.YtofndakpenpkbaaDoor.PA Go.Proofs.YtofndakpenpkbaaDoor.PC Go.Proofs.YtofndakpenpkbaaDoor.PI Go.Proofs.YtofndakpenpkbaaDoor.PT Go.Proofs.YtofndakpenpkbaaDoor.PO
open Go.RowKit Go.Proofs.YtofndakpenpkbaaDoorW.PrintWords Go.Proofs.YtofndakpenpkbaaDoorW.PrintLast Go.Proofs.YtofndakpenpkbaaDoorW.PrintMore
set_option linter.unusedVariables false
set_option linter.unusedSimpArgs false

/-! ### surtitlelaw3_known: function 16: told elsewhere -/

/-! ### surtitlelaw3_told: function 23: told elsewhere -/

/-! ### ratio_Snap: function 42: told elsewhere -/

/-! ### surtitleref3_Snap: function 43: told elsewhere -/

/-! ### ratio_Time: function 44: told elsewhere -/

/-! ### surtitleref3_Time: function 45: told elsewhere -/

/-! ### surtitlelaw3_RatioSnaps: function 13 -/
def surtitlelaw3_RatioSnaps.f (k : Nat) (a0_0 : Int) (a0_1 : Int) (a1_0 : Int) (a1_1 : Int) (a2 : Int) : Option (Bool) := (surtitlelaw3_known.f).bind fun t103 => (if t103 = true then ((ratio_Snap.f a0_0 a0_1 a1_0 a1_1 a2).bind fun bt104 => ((surtitleref3_Snap.f k a0_0 a0_1 a1_0 a1_1 a2).bind fun bt108 => ((surtitlelaw3_told.f bt104.1 bt104.2.1 bt104.2.2 bt108.1 bt108.2.1 bt108.2.2).bind fun t112 => (if t112 = true then ((ratio_Time.f a0_0 a0_1).bind fun t113 => ((surtitleref3_Time.f k a0_0 a0_1).bind fun t114 => (some (t113 == t114)))) else (some false))))) else (some false))
def surtitlelaw3_RatioSnaps.T5 : Bool × List (List Nat × List Nat) := (true, [([], []), ([], []), ([], []), ([], []), ([0, 1, 2, 3], [0, 1, 2, 3]), ([4, 4], [4]), ([5], [5]), ([6, 5, 5], [5, 6]), ([5], [5]), ([8, 7, 5], [5, 8]), ([7, 9, 5], [5, 7, 9]), ([5, 10], [5, 10]), ([11, 9, 0, 1, 2, 3, 4, 5, 6, 7, 8, 9, 10, 11], [11])])
def surtitlelaw3_RatioSnaps.B5 : List Nat := [0, 0, 0, 0, 15, 31, 63, 127, 63, 511, 1023, 2047, 4095]
theorem surtitlelaw3_RatioSnaps.tab5 : rtab .any (opsOf Tryd.f13 5) = surtitlelaw3_RatioSnaps.T5 := by kernel_rfl
theorem surtitlelaw3_RatioSnaps.bits5 : waitsOk surtitlelaw3_RatioSnaps.T5.2 surtitlelaw3_RatioSnaps.B5 = true := by kernel_rfl
set_option maxHeartbeats 8000000 in
set_option maxRecDepth 100000 in
theorem surtitlelaw3_RatioSnaps.calls (k : Nat) (a0_0 : Int) (a0_1 : Int) (a1_0 : Int) (a1_1 : Int) (a2 : Int) (r : Bool) (w : World) (h : surtitlelaw3_RatioSnaps.f k a0_0 a0_1 a1_0 a1_1 a2 = some r) :
    Calls Tryd.prog 13 #[.agg #[.int .i64 a0_0, .int .i64 a0_1], .agg #[.int .i64 a1_0, .int .i64 a1_1], .int .i64 a2] w fun e w' => e = .returned (.bool r) ∧ Below w.heap.size w w' := by
  have hu24 := Tryd.underlying24
  have HB := Aside0.mk (Below.refl w.heap.size w)
  have H : ((surtitlelaw3_known.f).bind fun t103 => (if t103 = true then ((ratio_Snap.f a0_0 a0_1 a1_0 a1_1 a2).bind fun bt104 => ((surtitleref3_Snap.f k a0_0 a0_1 a1_0 a1_1 a2).bind fun bt108 => ((surtitlelaw3_told.f bt104.1 bt104.2.1 bt104.2.2 bt108.1 bt108.2.1 bt108.2.2).bind fun t112 => (if t112 = true then ((ratio_Time.f a0_0 a0_1).bind fun t113 => ((surtitleref3_Time.f k a0_0 a0_1).bind fun t114 => (some (t113 == t114)))) else (some false))))) else (some false))) = some r := h
  clear h
  replace H := Option.bind_eq_some_iff.mp H
  obtain ⟨t103, A40, H⟩ := H
  replace H : (if t103 = true then ((ratio_Snap.f a0_0 a0_1 a1_0 a1_1 a2).bind fun bt104 => ((surtitleref3_Snap.f k a0_0 a0_1 a1_0 a1_1 a2).bind fun bt108 => ((surtitlelaw3_told.f bt104.1 bt104.2.1 bt104.2.2 bt108.1 bt108.2.1 bt108.2.2).bind fun t112 => (if t112 = true then ((ratio_Time.f a0_0 a0_1).bind fun t113 => ((surtitleref3_Time.f k a0_0 a0_1).bind fun t114 => (some (t113 == t114)))) else (some false))))) else (some false)) = some r := H
  have A4 := Aside0.mk A40
  clear A40
  by_cases c5 : t103 = true
  · subst c5
    have H1 : ((ratio_Snap.f a0_0 a0_1 a1_0 a1_1 a2).bind fun bt104 => ((surtitleref3_Snap.f k a0_0 a0_1 a1_0 a1_1 a2).bind fun bt108 => ((surtitlelaw3_told.f bt104.1 bt104.2.1 bt104.2.2 bt108.1 bt108.2.1 bt108.2.2).bind fun t112 => (if t112 = true then ((ratio_Time.f a0_0 a0_1).bind fun t113 => ((surtitleref3_Time.f k a0_0 a0_1).bind fun t114 => (some (t113 == t114)))) else (some false))))) = some r := by rw [if_pos rfl] at H; exact H
    clear H
    have H := H1
    clear H1
    replace H := Option.bind_eq_some_iff.mp H
    obtain ⟨⟨t104, t105, t106⟩, A60, H⟩ := H
    replace H : ((surtitleref3_Snap.f k a0_0 a0_1 a1_0 a1_1 a2).bind fun bt108 => ((surtitlelaw3_told.f t104 t105 t106 bt108.1 bt108.2.1 bt108.2.2).bind fun t112 => (if t112 = true then ((ratio_Time.f a0_0 a0_1).bind fun t113 => ((surtitleref3_Time.f k a0_0 a0_1).bind fun t114 => (some (t113 == t114)))) else (some false)))) = some r := H
    have A6 := Aside0.mk A60
    clear A60
    replace H := Option.bind_eq_some_iff.mp H
    obtain ⟨⟨t108, t109, t110⟩, A70, H⟩ := H
    replace H : ((surtitlelaw3_told.f t104 t105 t106 t108 t109 t110).bind fun t112 => (if t112 = true then ((ratio_Time.f a0_0 a0_1).bind fun t113 => ((surtitleref3_Time.f k a0_0 a0_1).bind fun t114 => (some (t113 == t114)))) else (some false))) = some r := H
    have A7 := Aside0.mk A70
    clear A70
    replace H := Option.bind_eq_some_iff.mp H
    obtain ⟨t112, A80, H⟩ := H
    replace H : (if t112 = true then ((ratio_Time.f a0_0 a0_1).bind fun t113 => ((surtitleref3_Time.f k a0_0 a0_1).bind fun t114 => (some (t113 == t114)))) else (some false)) = some r := H
    have A8 := Aside0.mk A80
    clear A80
    by_cases c9 : t112 = true
    · subst c9
      have H1 : ((ratio_Time.f a0_0 a0_1).bind fun t113 => ((surtitleref3_Time.f k a0_0 a0_1).bind fun t114 => (some (t113 == t114)))) = some r := by rw [if_pos rfl] at H; exact H
      clear H
      have H := H1
      clear H1
      replace H := Option.bind_eq_some_iff.mp H
      obtain ⟨t113, A100, H⟩ := H
      replace H : ((surtitleref3_Time.f k a0_0 a0_1).bind fun t114 => (some (t113 == t114))) = some r := H
      have A10 := Aside0.mk A100
      clear A100
      replace H := Option.bind_eq_some_iff.mp H
      obtain ⟨t114, A110, H⟩ := H
      replace H : (some (t113 == t114)) = some r := H
      have A11 := Aside0.mk A110
      clear A110
      obtain rfl := Option.some.inj H
      go_enter Tryd.func13, Tryd.ntmps13
      try go_wp2_with (first | ((with_reducible refine gate_dst (N := 3) rfl ?_); refine box_event ?hg (N := 3) ?hd (cs := #[.int .i64 a0_0, .int .i64 a0_1]) (t := 24) ?hr ?_; (case hd => rfl); (case hg => rfl); (case hr => first | (go_simp; done) | (go_simp; rfl)); intro gb101 hg w12 hbox hb; have BK101 := Aside0.mk (hbox); have GW101 := ag hg HB; have GE101 := ag hg HB; replace HB := hs hb HB; clear hb hbox hg) | ((with_reducible refine gate_dst (N := 4) rfl ?_); refine box_event ?hg (N := 4) ?hd (cs := #[.int .i64 a1_0, .int .i64 a1_1]) (t := 24) ?hr ?_; (case hd => rfl); (case hg => rfl); (case hr => first | (go_simp; done) | (go_simp; rfl)); intro gb102 hg w13 hbox hb; have BK102 := Aside0.mk (hbox); have GW102 := ag hg HB; have GE102 := ag hg HB; have NB101_102 := na hg BK101; have NB102_101 := nb hg BK101; replace BK101 := ab hb BK101; replace HB := hs hb HB; clear hb hbox hg) | ((with_reducible refine gate_callee (f := 16) rfl ?_); refine goesL_ (some 11) rfl rfl Tryd.func16 (by kernel_rfl) rfl #[] rfl (by (try simp only [List.map_toArray, List.map_cons, List.map_nil]); first | done | rfl | (simp only [List.length_drop, List.length_take]; rfl)) ?_; (with_reducible refine (surtitlelaw3_known.calls  true _ A4.out).mono ?_); rintro e w14 ⟨rfl, hb⟩; refine ⟨_, rfl, ?_⟩; replace BK101 := ab hb BK101; replace BK102 := ab hb BK102; replace HB := hs hb HB; (try clear hb); (try clear hb2); (try clear hk); (try clear hi); have hnb15 := NB101_102.out; have hnc15 := NB102_101.out; obtain ⟨hcz16_0, hcz16_1, hfz16_0, hfz16_1⟩ := k2 BK101.out; obtain ⟨hcz17_0, hcz17_1, hfz17_0, hfz17_1⟩ := k2 BK102.out) | ((with_reducible refine gate_callee (f := 42) rfl ?_); refine goesL_ (some 17) rfl rfl Tryd.func42 (by kernel_rfl) rfl #[.agg #[.int .i64 a0_0, .int .i64 a0_1], .agg #[.int .i64 a1_0, .int .i64 a1_1], .int .i64 a2] rfl (by (try simp only [List.map_toArray, List.map_cons, List.map_nil]); first | done | rfl | (simp only [List.length_drop, List.length_take]; rfl)) ?_; (with_reducible refine (ratio_Snap.calls a0_0 a0_1 a1_0 a1_1 a2 t104 t105 t106 _ A6.out).mono ?_); rintro e w18 ⟨rfl, hb⟩; refine ⟨_, rfl, ?_⟩; replace BK101 := ab hb BK101; replace BK102 := ab hb BK102; replace HB := hs hb HB; (try clear hb); (try clear hb2); (try clear hk); (try clear hi)) | ((with_reducible refine gate_dst (N := 7) rfl ?_); refine box_event ?hg (N := 7) ?hd (cs := #[.int .i64 0, .int .i64 0]) (t := 24) ?hr ?_; (case hd => rfl); (case hg => rfl); (case hr => first | (go_simp; done) | (go_simp; rfl)); intro gb107 hg w19 hbox hb; have BK107 := Aside0.mk (hbox); have GW107 := ag hg HB; have GE107 := ag hg HB; have NB101_107 := na hg BK101; have NB107_101 := nb hg BK101; have NB102_107 := na hg BK102; have NB107_102 := nb hg BK102; replace BK101 := ab hb BK101; replace BK102 := ab hb BK102; replace HB := hs hb HB; clear hb hbox hg; have hnb20 := NB107_101.out; have hnc20 := NB101_107.out; have hnb21 := NB107_102.out; have hnc21 := NB102_107.out; obtain ⟨hcz22_0, hcz22_1, hfz22_0, hfz22_1⟩ := k2 BK107.out; obtain ⟨hcz23_0, hcz23_1, hfz23_0, hfz23_1⟩ := k2 BK101.out; obtain ⟨hcz24_0, hcz24_1, hfz24_0, hfz24_1⟩ := k2 BK102.out) | ((with_reducible refine gate_callee (f := 43) rfl ?_); refine goesL_ (some 24) rfl rfl Tryd.func43 (by kernel_rfl) rfl #[.agg #[.int .i64 a0_0, .int .i64 a0_1], .agg #[.int .i64 a1_0, .int .i64 a1_1], .int .i64 a2] rfl (by (try simp only [List.map_toArray, List.map_cons, List.map_nil]); first | done | rfl | (simp only [List.length_drop, List.length_take]; rfl)) ?_; (with_reducible refine (surtitleref3_Snap.calls k a0_0 a0_1 a1_0 a1_1 a2 t108 t109 t110 _ A7.out).mono ?_); rintro e w25 ⟨rfl, hb⟩; refine ⟨_, rfl, ?_⟩; have n0_ := ab hb BK101; have n1_ := ab hb BK102; have n2_ := Aside0.mk (blk_below (g := gb107) (o := .cells #[.int .i64 t104, .int .i64 t105] 24 (0, 0)) (by refine bk ?_; refine blk_put (cs := #[.int .i64 t104, .int .i64 0]) ?_ 1 _ rfl; refine bk ?_; refine blk_put (cs := #[.int .i64 0, .int .i64 0]) ?_ 0 _ rfl; refine bk ?_; exact BK107.out) hb); have n3_ := hs hb HB; clear BK101; clear BK102; clear BK107; clear HB; have BK101 := n0_; have BK102 := n1_; have BK107 := n2_; have HB := n3_; clear n0_ n1_ n2_ n3_; (try clear hb); (try clear hb2); (try clear hk); (try clear hi)) | ((with_reducible refine gate_dst (N := 9) rfl ?_); refine box_event ?hg (N := 9) ?hd (cs := #[.int .i64 0, .int .i64 0]) (t := 24) ?hr ?_; (case hd => rfl); (case hg => rfl); (case hr => first | (go_simp; done) | (go_simp; rfl)); intro gb111 hg w26 hbox hb; have BK111 := Aside0.mk (hbox); have GW111 := ag hg HB; have GE111 := ag hg HB; have NB101_111 := na hg BK101; have NB111_101 := nb hg BK101; have NB102_111 := na hg BK102; have NB111_102 := nb hg BK102; have NB107_111 := na hg BK107; have NB111_107 := nb hg BK107; replace BK101 := ab hb BK101; replace BK102 := ab hb BK102; replace BK107 := ab hb BK107; replace HB := hs hb HB; clear hb hbox hg; have hnb27 := NB111_101.out; have hnc27 := NB101_111.out; have hnb28 := NB111_102.out; have hnc28 := NB102_111.out; have hnb29 := NB111_107.out; have hnc29 := NB107_111.out; obtain ⟨hcz30_0, hcz30_1, hfz30_0, hfz30_1⟩ := k2 BK111.out))
      have n0_ : Aside0 (((w26.setCell ⟨gb111, 0, none⟩ (.int .i64 t108)).setCell ⟨gb111, 1, none⟩ (.int .i64 t109)).heap[gb101]? = some (.cells #[.int .i64 a0_0, .int .i64 a0_1] 24 (0, 0))) := ⟨by refine bk ?_; exact BK101.out⟩
      have n1_ : Aside0 (((w26.setCell ⟨gb111, 0, none⟩ (.int .i64 t108)).setCell ⟨gb111, 1, none⟩ (.int .i64 t109)).heap[gb102]? = some (.cells #[.int .i64 a1_0, .int .i64 a1_1] 24 (0, 0))) := ⟨by refine bk ?_; exact BK102.out⟩
      have n2_ : Aside0 (((w26.setCell ⟨gb111, 0, none⟩ (.int .i64 t108)).setCell ⟨gb111, 1, none⟩ (.int .i64 t109)).heap[gb107]? = some (.cells #[.int .i64 t104, .int .i64 t105] 24 (0, 0))) := ⟨by refine bk ?_; exact BK107.out⟩
      have n3_ : Aside0 (((w26.setCell ⟨gb111, 0, none⟩ (.int .i64 t108)).setCell ⟨gb111, 1, none⟩ (.int .i64 t109)).heap[gb111]? = some (.cells #[.int .i64 t108, .int .i64 t109] 24 (0, 0))) := ⟨by refine bk ?_; refine blk_put (cs := #[.int .i64 t108, .int .i64 0]) ?_ 1 _ rfl; refine bk ?_; refine blk_put (cs := #[.int .i64 0, .int .i64 0]) ?_ 0 _ rfl; refine bk ?_; exact BK111.out⟩
      have n4_ : Aside0 (Below w.heap.size w ((w26.setCell ⟨gb111, 0, none⟩ (.int .i64 t108)).setCell ⟨gb111, 1, none⟩ (.int .i64 t109))) := ⟨by repeat (first | (with_reducible first | exact HB.out | apply below_alloc | apply pw_below_drewN | apply below_drew1 | refine below_set ?_ GE101.out | refine below_set ?_ GE102.out | refine below_set ?_ GE107.out | refine below_set ?_ GE111.out) | exact HB.out)⟩
      (try clear BK101)
      (try clear BK102)
      (try clear BK107)
      (try clear BK111)
      (try clear HB)
      generalize ((w26.setCell ⟨gb111, 0, none⟩ (.int .i64 t108)).setCell ⟨gb111, 1, none⟩ (.int .i64 t109)) = w31 at n0_ n1_ n2_ n3_ n4_ ⊢
      have BK101 := n0_
      have BK102 := n1_
      have BK107 := n2_
      have BK111 := n3_
      have HB := n4_
      clear n0_ n1_ n2_ n3_ n4_
      have n0_ := Aside0.mk (blk_drew BK101.out)
      have n1_ := Aside0.mk (blk_drew BK102.out)
      have n2_ := Aside0.mk (blk_drew BK107.out)
      have n3_ := Aside0.mk (blk_drew BK111.out)
      have n4_ := Aside0.mk (below_drew1 HB.out)
      clear BK101
      clear BK102
      clear BK107
      clear BK111
      clear HB
      have BK101 := n0_
      have BK102 := n1_
      have BK107 := n2_
      have BK111 := n3_
      have HB := n4_
      clear n0_ n1_ n2_ n3_ n4_
      refine start_ (n := 13) (S := fun w' => w'.cell? ⟨gb107, 0, none⟩ = some (.int .i64 t104) ∧ w'.cell? ⟨gb107, 1, none⟩ = some (.int .i64 t105) ∧ w'.cell? ⟨gb111, 0, none⟩ = some (.int .i64 t108) ∧ w'.cell? ⟨gb111, 1, none⟩ = some (.int .i64 t109) ∧ w'.cell? ⟨gb101, 0, none⟩ = some (.int .i64 a0_0) ∧ w'.cell? ⟨gb101, 1, none⟩ = some (.int .i64 a0_1)) (ds := []) #[false, false, false, false, false, false, false, false, false, false, false, false, false] (by kernel_rfl) rfl rfl ⟨c0 BK107.out, c1 BK107.out, c0 BK111.out, c1 BK111.out, c0 BK101.out, c1 BK101.out⟩ (fun hHeld => ?_); refine with_tabW surtitlelaw3_RatioSnaps.tab5 surtitlelaw3_RatioSnaps.bits5 (fun HT_ HW_ => ?_)
      generalize w31.drew = w32 at BK101 BK102 BK107 BK111 HB hHeld ⊢
      refine pure_ (i := 1) (N := some 28) (v := ?_) (a' := ?_) #[false, true, false, false, false, false, false, false, false, false, false, false, false] rfl rfl (any_of HT_.out (by kernel_rfl)) (fun _ _ _ h => h) (Or.inl ⟨by rfl, ?_⟩) ?_ ?_
      rotate_left
      · intro w'
        go_simp
        with_reducible rfl
      rotate_left
      · simp only [Act.put, List.setIfInBounds_toArray, List.set_cons_zero, List.set_cons_succ, i64_w, i32_w]
        rfl
      refine pure_ (i := 3) (N := some 30) (v := ?_) (a' := ?_) #[false, true, false, true, false, false, false, false, false, false, false, false, false] rfl rfl (any_of HT_.out (by kernel_rfl)) (fun _ _ _ h => h) (Or.inl ⟨by rfl, ?_⟩) ?_ ?_
      rotate_left
      · intro w'
        go_simp
        with_reducible rfl
      rotate_left
      · simp only [Act.put, List.setIfInBounds_toArray, List.set_cons_zero, List.set_cons_succ, i64_w, i32_w]
        rfl
      refine take_ (i := 0) (N := some 27) (v := ?_) (a' := ?_) #[true, true, false, true, false, false, false, false, false, false, false, false, false] rfl rfl (take_ofW HT_.out HW_.out (by kernel_rfl)) (fun _ _ _ h => h) (Or.inl ⟨by rfl, ?_⟩) hHeld ?_ ?_
      rotate_left
      · rintro w' ⟨s0, s1, s2, s3, s4, s5⟩
        go_simp
        with_reducible rfl
      rotate_left
      · simp only [Act.put, List.setIfInBounds_toArray, List.set_cons_zero, List.set_cons_succ, i64_w, i32_w]
        rfl
      refine take_ (i := 2) (N := some 29) (v := ?_) (a' := ?_) #[true, true, true, true, false, false, false, false, false, false, false, false, false] rfl rfl (take_ofW HT_.out HW_.out (by kernel_rfl)) (fun _ _ _ h => h) (Or.inl ⟨by rfl, ?_⟩) hHeld ?_ ?_
      rotate_left
      · rintro w' ⟨s0, s1, s2, s3, s4, s5⟩
        go_simp
        with_reducible rfl
      rotate_left
      · simp only [Act.put, List.setIfInBounds_toArray, List.set_cons_zero, List.set_cons_succ, i64_w, i32_w]
        rfl
      refine one_ (i := 4) (N := some 31) #[true, true, true, true, true, false, false, false, false, false, false, false, false] rfl rfl (one_of HT_.out (by kernel_rfl)) (by decide) (fun K hK => ?_)
      refine goes_ Tryd.func23 (by kernel_rfl) rfl #[.agg #[.int .i64 t104, .int .i64 t105], .int .i64 t106, .agg #[.int .i64 t108, .int .i64 t109], .int .i64 t110] (by rfl) rfl rfl (by (try simp only [List.map_toArray, List.map_cons, List.map_nil]); first | done | rfl | (simp only [List.length_drop, List.length_take]; rfl)) ?_
      with_reducible refine (surtitlelaw3_told.calls t104 t105 t106 t108 t109 t110 true _ A8.out).mono ?_
      rintro e w33 ⟨rfl, hb⟩
      refine ⟨_, rfl, ?_⟩
      have n0_ := ab hb BK101
      have n1_ := ab hb BK102
      have n2_ := ab hb BK107
      have n3_ := ab hb BK111
      have n4_ := hs hb HB
      clear BK101
      clear BK102
      clear BK107
      clear BK111
      clear HB
      have BK101 := n0_
      have BK102 := n1_
      have BK107 := n2_
      have BK111 := n3_
      have HB := n4_
      clear n0_ n1_ n2_ n3_ n4_
      (try clear hb)
      (try clear hb2)
      (try clear hk)
      (try clear hi)
      refine hK.out _ _ ⟨c0 BK107.out, c1 BK107.out, c0 BK111.out, c1 BK111.out, c0 BK101.out, c1 BK101.out⟩ (fun hHeld => ?_)
      clear hK K
      refine norm_ (a' := ?_) ?_ ?_
      rotate_left
      · show Act.put _ (some 31) _ = _
        simp only [Act.put, List.setIfInBounds_toArray, List.set_cons_zero, List.set_cons_succ, i64_w, i32_w]
        rfl
      refine pure_ (i := 5) (N := some 32) (v := ?_) (a' := ?_) #[true, true, true, true, true, true, false, false, false, false, false, false, false] rfl rfl (any_of HT_.out (by kernel_rfl)) (fun _ _ _ h => h) (Or.inl ⟨by rfl, ?_⟩) ?_ ?_
      rotate_left
      · intro w'
        go_simp
        with_reducible rfl
      rotate_left
      · simp only [Act.put, List.setIfInBounds_toArray, List.set_cons_zero, List.set_cons_succ, i64_w, i32_w]
        rfl
      refine take_ (i := 6) (N := some 33) (v := ?_) (a' := ?_) #[true, true, true, true, true, true, true, false, false, false, false, false, false] rfl rfl (take_ofW HT_.out HW_.out (by kernel_rfl)) (fun _ _ _ h => h) (Or.inl ⟨by rfl, ?_⟩) hHeld ?_ ?_
      rotate_left
      · rintro w' ⟨s0, s1, s2, s3, s4, s5⟩
        go_simp
        with_reducible rfl
      rotate_left
      · simp only [Act.put, List.setIfInBounds_toArray, List.set_cons_zero, List.set_cons_succ, i64_w, i32_w]
        rfl
      refine take_ (i := 8) (N := some 35) (v := ?_) (a' := ?_) #[true, true, true, true, true, true, true, false, true, false, false, false, false] rfl rfl (take_ofW HT_.out HW_.out (by kernel_rfl)) (fun _ _ _ h => h) (Or.inl ⟨by rfl, ?_⟩) hHeld ?_ ?_
      rotate_left
      · rintro w' ⟨s0, s1, s2, s3, s4, s5⟩
        go_simp
        with_reducible rfl
      rotate_left
      · simp only [Act.put, List.setIfInBounds_toArray, List.set_cons_zero, List.set_cons_succ, i64_w, i32_w]
        rfl
      refine one_ (i := 7) (N := some 34) #[true, true, true, true, true, true, true, true, true, false, false, false, false] rfl rfl (one_of HT_.out (by kernel_rfl)) (by decide) (fun K hK => ?_)
      refine goes_ Tryd.func44 (by kernel_rfl) rfl #[.agg #[.int .i64 a0_0, .int .i64 a0_1]] (by rfl) rfl rfl (by (try simp only [List.map_toArray, List.map_cons, List.map_nil]); first | done | rfl | (simp only [List.length_drop, List.length_take]; rfl)) ?_
      with_reducible refine (ratio_Time.calls a0_0 a0_1 t113 _ A10.out).mono ?_
      rintro e w34 ⟨rfl, hb⟩
      refine ⟨_, rfl, ?_⟩
      have n0_ := ab hb BK101
      have n1_ := ab hb BK102
      have n2_ := ab hb BK107
      have n3_ := ab hb BK111
      have n4_ := hs hb HB
      clear BK101
      clear BK102
      clear BK107
      clear BK111
      clear HB
      have BK101 := n0_
      have BK102 := n1_
      have BK107 := n2_
      have BK111 := n3_
      have HB := n4_
      clear n0_ n1_ n2_ n3_ n4_
      (try clear hb)
      (try clear hb2)
      (try clear hk)
      (try clear hi)
      refine hK.out _ _ ⟨c0 BK107.out, c1 BK107.out, c0 BK111.out, c1 BK111.out, c0 BK101.out, c1 BK101.out⟩ (fun hHeld => ?_)
      clear hK K
      refine norm_ (a' := ?_) ?_ ?_
      rotate_left
      · show Act.put _ (some 34) _ = _
        simp only [Act.put, List.setIfInBounds_toArray, List.set_cons_zero, List.set_cons_succ, i64_w, i32_w]
        rfl
      refine one_ (i := 9) (N := some 36) #[true, true, true, true, true, true, true, true, true, true, false, false, false] rfl rfl (one_of HT_.out (by kernel_rfl)) (by decide) (fun K hK => ?_)
      refine goes_ Tryd.func45 (by kernel_rfl) rfl #[.agg #[.int .i64 a0_0, .int .i64 a0_1]] (by rfl) rfl rfl (by (try simp only [List.map_toArray, List.map_cons, List.map_nil]); first | done | rfl | (simp only [List.length_drop, List.length_take]; rfl)) ?_
      with_reducible refine (surtitleref3_Time.calls k a0_0 a0_1 t114 _ A11.out).mono ?_
      rintro e w35 ⟨rfl, hb⟩
      refine ⟨_, rfl, ?_⟩
      have n0_ := ab hb BK101
      have n1_ := ab hb BK102
      have n2_ := ab hb BK107
      have n3_ := ab hb BK111
      have n4_ := hs hb HB
      clear BK101
      clear BK102
      clear BK107
      clear BK111
      clear HB
      have BK101 := n0_
      have BK102 := n1_
      have BK107 := n2_
      have BK111 := n3_
      have HB := n4_
      clear n0_ n1_ n2_ n3_ n4_
      (try clear hb)
      (try clear hb2)
      (try clear hk)
      (try clear hi)
      refine hK.out _ _ ⟨c0 BK107.out, c1 BK107.out, c0 BK111.out, c1 BK111.out, c0 BK101.out, c1 BK101.out⟩ (fun hHeld => ?_)
      clear hK K
      refine norm_ (a' := ?_) ?_ ?_
      rotate_left
      · show Act.put _ (some 36) _ = _
        simp only [Act.put, List.setIfInBounds_toArray, List.set_cons_zero, List.set_cons_succ, i64_w, i32_w]
        rfl
      refine pure_ (i := 10) (N := some 37) (v := ?_) (a' := ?_) #[true, true, true, true, true, true, true, true, true, true, true, false, false] rfl rfl (any_of HT_.out (by kernel_rfl)) (fun _ _ _ h => h) (Or.inl ⟨by rfl, ?_⟩) ?_ ?_
      rotate_left
      · intro w'
        go_simp
        with_reducible rfl
      rotate_left
      · simp only [Act.put, List.setIfInBounds_toArray, List.set_cons_zero, List.set_cons_succ, i64_w, i32_w]
        rfl
      refine pure_ (i := 11) (N := some 38) (v := ?_) (a' := ?_) #[true, true, true, true, true, true, true, true, true, true, true, true, false] rfl rfl (any_of HT_.out (by kernel_rfl)) (fun _ _ _ h => h) (Or.inl ⟨by rfl, ?_⟩) ?_ ?_
      rotate_left
      · intro w'
        go_simp
        with_reducible rfl
      rotate_left
      · simp only [Act.put, List.setIfInBounds_toArray, List.set_cons_zero, List.set_cons_succ, i64_w, i32_w]
        rfl
      refine pure_ (i := 12) (N := some 6) (v := ?_) (a' := ?_) #[true, true, true, true, true, true, true, true, true, true, true, true, true] rfl rfl (any_of HT_.out (by kernel_rfl)) (fun _ _ _ h => h) (Or.inl ⟨by rfl, ?_⟩) ?_ ?_
      rotate_left
      · intro w'
        go_simp
        with_reducible rfl
      rotate_left
      · simp only [Act.put, List.setIfInBounds_toArray, List.set_cons_zero, List.set_cons_succ, i64_w, i32_w]
        rfl
      refine done_ (done_of HT_.out (by kernel_rfl)) ?_
      try go_wp2
      go_ret
      exact ⟨by first | rfl | (simp [errW_none, errW_some] <;> rfl) | (simp [*, errW_none, errW_some] <;> rfl), by repeat (first | (with_reducible first | exact HB.out | apply below_alloc | apply pw_below_drewN | apply below_drew1 | refine below_set ?_ GE101.out | refine below_set ?_ GE102.out | refine below_set ?_ GE107.out | refine below_set ?_ GE111.out) | exact HB.out)⟩
    replace c9 := Bool.eq_false_iff.mpr c9
    subst c9
    have H1 : (some false) = some r := by rw [if_neg (show ¬ (false = true) by decide)] at H; exact H
    clear H
    have H := H1
    clear H1
    obtain rfl := Option.some.inj H
    go_enter Tryd.func13, Tryd.ntmps13
    try go_wp2_with (first | ((with_reducible refine gate_dst (N := 3) rfl ?_); refine box_event ?hg (N := 3) ?hd (cs := #[.int .i64 a0_0, .int .i64 a0_1]) (t := 24) ?hr ?_; (case hd => rfl); (case hg => rfl); (case hr => first | (go_simp; done) | (go_simp; rfl)); intro gb101 hg w36 hbox hb; have BK101 := Aside0.mk (hbox); have GW101 := ag hg HB; have GE101 := ag hg HB; replace HB := hs hb HB; clear hb hbox hg) | ((with_reducible refine gate_dst (N := 4) rfl ?_); refine box_event ?hg (N := 4) ?hd (cs := #[.int .i64 a1_0, .int .i64 a1_1]) (t := 24) ?hr ?_; (case hd => rfl); (case hg => rfl); (case hr => first | (go_simp; done) | (go_simp; rfl)); intro gb102 hg w37 hbox hb; have BK102 := Aside0.mk (hbox); have GW102 := ag hg HB; have GE102 := ag hg HB; have NB101_102 := na hg BK101; have NB102_101 := nb hg BK101; replace BK101 := ab hb BK101; replace HB := hs hb HB; clear hb hbox hg) | ((with_reducible refine gate_callee (f := 16) rfl ?_); refine goesL_ (some 11) rfl rfl Tryd.func16 (by kernel_rfl) rfl #[] rfl (by (try simp only [List.map_toArray, List.map_cons, List.map_nil]); first | done | rfl | (simp only [List.length_drop, List.length_take]; rfl)) ?_; (with_reducible refine (surtitlelaw3_known.calls  true _ A4.out).mono ?_); rintro e w38 ⟨rfl, hb⟩; refine ⟨_, rfl, ?_⟩; replace BK101 := ab hb BK101; replace BK102 := ab hb BK102; replace HB := hs hb HB; (try clear hb); (try clear hb2); (try clear hk); (try clear hi); have hnb39 := NB101_102.out; have hnc39 := NB102_101.out; obtain ⟨hcz40_0, hcz40_1, hfz40_0, hfz40_1⟩ := k2 BK101.out; obtain ⟨hcz41_0, hcz41_1, hfz41_0, hfz41_1⟩ := k2 BK102.out) | ((with_reducible refine gate_callee (f := 42) rfl ?_); refine goesL_ (some 17) rfl rfl Tryd.func42 (by kernel_rfl) rfl #[.agg #[.int .i64 a0_0, .int .i64 a0_1], .agg #[.int .i64 a1_0, .int .i64 a1_1], .int .i64 a2] rfl (by (try simp only [List.map_toArray, List.map_cons, List.map_nil]); first | done | rfl | (simp only [List.length_drop, List.length_take]; rfl)) ?_; (with_reducible refine (ratio_Snap.calls a0_0 a0_1 a1_0 a1_1 a2 t104 t105 t106 _ A6.out).mono ?_); rintro e w42 ⟨rfl, hb⟩; refine ⟨_, rfl, ?_⟩; replace BK101 := ab hb BK101; replace BK102 := ab hb BK102; replace HB := hs hb HB; (try clear hb); (try clear hb2); (try clear hk); (try clear hi)) | ((with_reducible refine gate_dst (N := 7) rfl ?_); refine box_event ?hg (N := 7) ?hd (cs := #[.int .i64 0, .int .i64 0]) (t := 24) ?hr ?_; (case hd => rfl); (case hg => rfl); (case hr => first | (go_simp; done) | (go_simp; rfl)); intro gb107 hg w43 hbox hb; have BK107 := Aside0.mk (hbox); have GW107 := ag hg HB; have GE107 := ag hg HB; have NB101_107 := na hg BK101; have NB107_101 := nb hg BK101; have NB102_107 := na hg BK102; have NB107_102 := nb hg BK102; replace BK101 := ab hb BK101; replace BK102 := ab hb BK102; replace HB := hs hb HB; clear hb hbox hg; have hnb44 := NB107_101.out; have hnc44 := NB101_107.out; have hnb45 := NB107_102.out; have hnc45 := NB102_107.out; obtain ⟨hcz46_0, hcz46_1, hfz46_0, hfz46_1⟩ := k2 BK107.out; obtain ⟨hcz47_0, hcz47_1, hfz47_0, hfz47_1⟩ := k2 BK101.out; obtain ⟨hcz48_0, hcz48_1, hfz48_0, hfz48_1⟩ := k2 BK102.out) | ((with_reducible refine gate_callee (f := 43) rfl ?_); refine goesL_ (some 24) rfl rfl Tryd.func43 (by kernel_rfl) rfl #[.agg #[.int .i64 a0_0, .int .i64 a0_1], .agg #[.int .i64 a1_0, .int .i64 a1_1], .int .i64 a2] rfl (by (try simp only [List.map_toArray, List.map_cons, List.map_nil]); first | done | rfl | (simp only [List.length_drop, List.length_take]; rfl)) ?_; (with_reducible refine (surtitleref3_Snap.calls k a0_0 a0_1 a1_0 a1_1 a2 t108 t109 t110 _ A7.out).mono ?_); rintro e w49 ⟨rfl, hb⟩; refine ⟨_, rfl, ?_⟩; have n0_ := ab hb BK101; have n1_ := ab hb BK102; have n2_ := Aside0.mk (blk_below (g := gb107) (o := .cells #[.int .i64 t104, .int .i64 t105] 24 (0, 0)) (by refine bk ?_; refine blk_put (cs := #[.int .i64 t104, .int .i64 0]) ?_ 1 _ rfl; refine bk ?_; refine blk_put (cs := #[.int .i64 0, .int .i64 0]) ?_ 0 _ rfl; refine bk ?_; exact BK107.out) hb); have n3_ := hs hb HB; clear BK101; clear BK102; clear BK107; clear HB; have BK101 := n0_; have BK102 := n1_; have BK107 := n2_; have HB := n3_; clear n0_ n1_ n2_ n3_; (try clear hb); (try clear hb2); (try clear hk); (try clear hi)) | ((with_reducible refine gate_dst (N := 9) rfl ?_); refine box_event ?hg (N := 9) ?hd (cs := #[.int .i64 0, .int .i64 0]) (t := 24) ?hr ?_; (case hd => rfl); (case hg => rfl); (case hr => first | (go_simp; done) | (go_simp; rfl)); intro gb111 hg w50 hbox hb; have BK111 := Aside0.mk (hbox); have GW111 := ag hg HB; have GE111 := ag hg HB; have NB101_111 := na hg BK101; have NB111_101 := nb hg BK101; have NB102_111 := na hg BK102; have NB111_102 := nb hg BK102; have NB107_111 := na hg BK107; have NB111_107 := nb hg BK107; replace BK101 := ab hb BK101; replace BK102 := ab hb BK102; replace BK107 := ab hb BK107; replace HB := hs hb HB; clear hb hbox hg; have hnb51 := NB111_101.out; have hnc51 := NB101_111.out; have hnb52 := NB111_102.out; have hnc52 := NB102_111.out; have hnb53 := NB111_107.out; have hnc53 := NB107_111.out; obtain ⟨hcz54_0, hcz54_1, hfz54_0, hfz54_1⟩ := k2 BK111.out))
    have n0_ : Aside0 (((w50.setCell ⟨gb111, 0, none⟩ (.int .i64 t108)).setCell ⟨gb111, 1, none⟩ (.int .i64 t109)).heap[gb101]? = some (.cells #[.int .i64 a0_0, .int .i64 a0_1] 24 (0, 0))) := ⟨by refine bk ?_; exact BK101.out⟩
    have n1_ : Aside0 (((w50.setCell ⟨gb111, 0, none⟩ (.int .i64 t108)).setCell ⟨gb111, 1, none⟩ (.int .i64 t109)).heap[gb102]? = some (.cells #[.int .i64 a1_0, .int .i64 a1_1] 24 (0, 0))) := ⟨by refine bk ?_; exact BK102.out⟩
    have n2_ : Aside0 (((w50.setCell ⟨gb111, 0, none⟩ (.int .i64 t108)).setCell ⟨gb111, 1, none⟩ (.int .i64 t109)).heap[gb107]? = some (.cells #[.int .i64 t104, .int .i64 t105] 24 (0, 0))) := ⟨by refine bk ?_; exact BK107.out⟩
    have n3_ : Aside0 (((w50.setCell ⟨gb111, 0, none⟩ (.int .i64 t108)).setCell ⟨gb111, 1, none⟩ (.int .i64 t109)).heap[gb111]? = some (.cells #[.int .i64 t108, .int .i64 t109] 24 (0, 0))) := ⟨by refine bk ?_; refine blk_put (cs := #[.int .i64 t108, .int .i64 0]) ?_ 1 _ rfl; refine bk ?_; refine blk_put (cs := #[.int .i64 0, .int .i64 0]) ?_ 0 _ rfl; refine bk ?_; exact BK111.out⟩
    have n4_ : Aside0 (Below w.heap.size w ((w50.setCell ⟨gb111, 0, none⟩ (.int .i64 t108)).setCell ⟨gb111, 1, none⟩ (.int .i64 t109))) := ⟨by repeat (first | (with_reducible first | exact HB.out | apply below_alloc | apply pw_below_drewN | apply below_drew1 | refine below_set ?_ GE101.out | refine below_set ?_ GE102.out | refine below_set ?_ GE107.out | refine below_set ?_ GE111.out) | exact HB.out)⟩
    (try clear BK101)
    (try clear BK102)
    (try clear BK107)
    (try clear BK111)
    (try clear HB)
    generalize ((w50.setCell ⟨gb111, 0, none⟩ (.int .i64 t108)).setCell ⟨gb111, 1, none⟩ (.int .i64 t109)) = w55 at n0_ n1_ n2_ n3_ n4_ ⊢
    have BK101 := n0_
    have BK102 := n1_
    have BK107 := n2_
    have BK111 := n3_
    have HB := n4_
    clear n0_ n1_ n2_ n3_ n4_
    have n0_ := Aside0.mk (blk_drew BK101.out)
    have n1_ := Aside0.mk (blk_drew BK102.out)
    have n2_ := Aside0.mk (blk_drew BK107.out)
    have n3_ := Aside0.mk (blk_drew BK111.out)
    have n4_ := Aside0.mk (below_drew1 HB.out)
    clear BK101
    clear BK102
    clear BK107
    clear BK111
    clear HB
    have BK101 := n0_
    have BK102 := n1_
    have BK107 := n2_
    have BK111 := n3_
    have HB := n4_
    clear n0_ n1_ n2_ n3_ n4_
    refine start_ (n := 13) (S := fun w' => w'.cell? ⟨gb107, 0, none⟩ = some (.int .i64 t104) ∧ w'.cell? ⟨gb107, 1, none⟩ = some (.int .i64 t105) ∧ w'.cell? ⟨gb111, 0, none⟩ = some (.int .i64 t108) ∧ w'.cell? ⟨gb111, 1, none⟩ = some (.int .i64 t109)) (ds := []) #[false, false, false, false, false, false, false, false, false, false, false, false, false] (by kernel_rfl) rfl rfl ⟨c0 BK107.out, c1 BK107.out, c0 BK111.out, c1 BK111.out⟩ (fun hHeld => ?_); refine with_tabW surtitlelaw3_RatioSnaps.tab5 surtitlelaw3_RatioSnaps.bits5 (fun HT_ HW_ => ?_)
    generalize w55.drew = w56 at BK101 BK102 BK107 BK111 HB hHeld ⊢
    refine pure_ (i := 1) (N := some 28) (v := ?_) (a' := ?_) #[false, true, false, false, false, false, false, false, false, false, false, false, false] rfl rfl (any_of HT_.out (by kernel_rfl)) (fun _ _ _ h => h) (Or.inl ⟨by rfl, ?_⟩) ?_ ?_
    rotate_left
    · intro w'
      go_simp
      with_reducible rfl
    rotate_left
    · simp only [Act.put, List.setIfInBounds_toArray, List.set_cons_zero, List.set_cons_succ, i64_w, i32_w]
      rfl
    refine pure_ (i := 3) (N := some 30) (v := ?_) (a' := ?_) #[false, true, false, true, false, false, false, false, false, false, false, false, false] rfl rfl (any_of HT_.out (by kernel_rfl)) (fun _ _ _ h => h) (Or.inl ⟨by rfl, ?_⟩) ?_ ?_
    rotate_left
    · intro w'
      go_simp
      with_reducible rfl
    rotate_left
    · simp only [Act.put, List.setIfInBounds_toArray, List.set_cons_zero, List.set_cons_succ, i64_w, i32_w]
      rfl
    refine take_ (i := 0) (N := some 27) (v := ?_) (a' := ?_) #[true, true, false, true, false, false, false, false, false, false, false, false, false] rfl rfl (take_ofW HT_.out HW_.out (by kernel_rfl)) (fun _ _ _ h => h) (Or.inl ⟨by rfl, ?_⟩) hHeld ?_ ?_
    rotate_left
    · rintro w' ⟨s0, s1, s2, s3⟩
      go_simp
      with_reducible rfl
    rotate_left
    · simp only [Act.put, List.setIfInBounds_toArray, List.set_cons_zero, List.set_cons_succ, i64_w, i32_w]
      rfl
    refine take_ (i := 2) (N := some 29) (v := ?_) (a' := ?_) #[true, true, true, true, false, false, false, false, false, false, false, false, false] rfl rfl (take_ofW HT_.out HW_.out (by kernel_rfl)) (fun _ _ _ h => h) (Or.inl ⟨by rfl, ?_⟩) hHeld ?_ ?_
    rotate_left
    · rintro w' ⟨s0, s1, s2, s3⟩
      go_simp
      with_reducible rfl
    rotate_left
    · simp only [Act.put, List.setIfInBounds_toArray, List.set_cons_zero, List.set_cons_succ, i64_w, i32_w]
      rfl
    refine one_ (i := 4) (N := some 31) #[true, true, true, true, true, false, false, false, false, false, false, false, false] rfl rfl (one_of HT_.out (by kernel_rfl)) (by decide) (fun K hK => ?_)
    refine goes_ Tryd.func23 (by kernel_rfl) rfl #[.agg #[.int .i64 t104, .int .i64 t105], .int .i64 t106, .agg #[.int .i64 t108, .int .i64 t109], .int .i64 t110] (by rfl) rfl rfl (by (try simp only [List.map_toArray, List.map_cons, List.map_nil]); first | done | rfl | (simp only [List.length_drop, List.length_take]; rfl)) ?_
    with_reducible refine (surtitlelaw3_told.calls t104 t105 t106 t108 t109 t110 false _ A8.out).mono ?_
    rintro e w57 ⟨rfl, hb⟩
    refine ⟨_, rfl, ?_⟩
    have n0_ := ab hb BK101
    have n1_ := ab hb BK102
    have n2_ := ab hb BK107
    have n3_ := ab hb BK111
    have n4_ := hs hb HB
    clear BK101
    clear BK102
    clear BK107
    clear BK111
    clear HB
    have BK101 := n0_
    have BK102 := n1_
    have BK107 := n2_
    have BK111 := n3_
    have HB := n4_
    clear n0_ n1_ n2_ n3_ n4_
    (try clear hb)
    (try clear hb2)
    (try clear hk)
    (try clear hi)
    refine hK.out _ _ ⟨c0 BK107.out, c1 BK107.out, c0 BK111.out, c1 BK111.out⟩ (fun hHeld => ?_)
    clear hK K
    refine norm_ (a' := ?_) ?_ ?_
    rotate_left
    · show Act.put _ (some 31) _ = _
      simp only [Act.put, List.setIfInBounds_toArray, List.set_cons_zero, List.set_cons_succ, i64_w, i32_w]
      rfl
    refine pure_ (i := 5) (N := some 32) (v := ?_) (a' := ?_) #[true, true, true, true, true, true, false, false, false, false, false, false, false] rfl rfl (any_of HT_.out (by kernel_rfl)) (fun _ _ _ h => h) (Or.inl ⟨by rfl, ?_⟩) ?_ ?_
    rotate_left
    · intro w'
      go_simp
      with_reducible rfl
    rotate_left
    · simp only [Act.put, List.setIfInBounds_toArray, List.set_cons_zero, List.set_cons_succ, i64_w, i32_w]
      rfl
    refine pure_ (i := 6) (N := some 33) (v := undef) (a' := ?_) #[true, true, true, true, true, true, true, false, false, false, false, false, false] rfl rfl (any_of HT_.out (by kernel_rfl)) (fun _ _ _ h => h) (Or.inr ⟨by rfl, rfl⟩) ?_ ?_
    rotate_left
    · simp only [Act.put, List.setIfInBounds_toArray, List.set_cons_zero, List.set_cons_succ, i64_w, i32_w]
      rfl
    refine pure_ (i := 7) (N := some 34) (v := undef) (a' := ?_) #[true, true, true, true, true, true, true, true, false, false, false, false, false] rfl rfl (any_of HT_.out (by kernel_rfl)) (fun _ _ _ h => h) (Or.inr ⟨by rfl, rfl⟩) ?_ ?_
    rotate_left
    · simp only [Act.put, List.setIfInBounds_toArray, List.set_cons_zero, List.set_cons_succ, i64_w, i32_w]
      rfl
    refine pure_ (i := 8) (N := some 35) (v := undef) (a' := ?_) #[true, true, true, true, true, true, true, true, true, false, false, false, false] rfl rfl (any_of HT_.out (by kernel_rfl)) (fun _ _ _ h => h) (Or.inr ⟨by rfl, rfl⟩) ?_ ?_
    rotate_left
    · simp only [Act.put, List.setIfInBounds_toArray, List.set_cons_zero, List.set_cons_succ, i64_w, i32_w]
      rfl
    refine pure_ (i := 9) (N := some 36) (v := undef) (a' := ?_) #[true, true, true, true, true, true, true, true, true, true, false, false, false] rfl rfl (any_of HT_.out (by kernel_rfl)) (fun _ _ _ h => h) (Or.inr ⟨by rfl, rfl⟩) ?_ ?_
    rotate_left
    · simp only [Act.put, List.setIfInBounds_toArray, List.set_cons_zero, List.set_cons_succ, i64_w, i32_w]
      rfl
    refine pure_ (i := 10) (N := some 37) (v := undef) (a' := ?_) #[true, true, true, true, true, true, true, true, true, true, true, false, false] rfl rfl (any_of HT_.out (by kernel_rfl)) (fun _ _ _ h => h) (Or.inr ⟨by rfl, rfl⟩) ?_ ?_
    rotate_left
    · simp only [Act.put, List.setIfInBounds_toArray, List.set_cons_zero, List.set_cons_succ, i64_w, i32_w]
      rfl
    refine pure_ (i := 11) (N := some 38) (v := ?_) (a' := ?_) #[true, true, true, true, true, true, true, true, true, true, true, true, false] rfl rfl (any_of HT_.out (by kernel_rfl)) (fun _ _ _ h => h) (Or.inl ⟨by rfl, ?_⟩) ?_ ?_
    rotate_left
    · intro w'
      go_simp
      with_reducible rfl
    rotate_left
    · simp only [Act.put, List.setIfInBounds_toArray, List.set_cons_zero, List.set_cons_succ, i64_w, i32_w]
      rfl
    refine pure_ (i := 12) (N := some 6) (v := ?_) (a' := ?_) #[true, true, true, true, true, true, true, true, true, true, true, true, true] rfl rfl (any_of HT_.out (by kernel_rfl)) (fun _ _ _ h => h) (Or.inl ⟨by rfl, ?_⟩) ?_ ?_
    rotate_left
    · intro w'
      go_simp
      with_reducible rfl
    rotate_left
    · simp only [Act.put, List.setIfInBounds_toArray, List.set_cons_zero, List.set_cons_succ, i64_w, i32_w]
      rfl
    refine done_ (done_of HT_.out (by kernel_rfl)) ?_
    try go_wp2
    go_ret
    exact ⟨by first | rfl | (simp [errW_none, errW_some] <;> rfl) | (simp [*, errW_none, errW_some] <;> rfl), by repeat (first | (with_reducible first | exact HB.out | apply below_alloc | apply pw_below_drewN | apply below_drew1 | refine below_set ?_ GE101.out | refine below_set ?_ GE102.out | refine below_set ?_ GE107.out | refine below_set ?_ GE111.out) | exact HB.out)⟩
  replace c5 := Bool.eq_false_iff.mpr c5
  subst c5
  have H1 : (some false) = some r := by rw [if_neg (show ¬ (false = true) by decide)] at H; exact H
  clear H
  have H := H1
  clear H1
  obtain rfl := Option.some.inj H
  go_enter Tryd.func13, Tryd.ntmps13
  go_wp2_with (first | ((with_reducible refine gate_dst (N := 3) rfl ?_); refine box_event ?hg (N := 3) ?hd (cs := #[.int .i64 a0_0, .int .i64 a0_1]) (t := 24) ?hr ?_; (case hd => rfl); (case hg => rfl); (case hr => first | (go_simp; done) | (go_simp; rfl)); intro gb101 hg w58 hbox hb; have BK101 := Aside0.mk (hbox); have GW101 := ag hg HB; have GE101 := ag hg HB; replace HB := hs hb HB; clear hb hbox hg) | ((with_reducible refine gate_dst (N := 4) rfl ?_); refine box_event ?hg (N := 4) ?hd (cs := #[.int .i64 a1_0, .int .i64 a1_1]) (t := 24) ?hr ?_; (case hd => rfl); (case hg => rfl); (case hr => first | (go_simp; done) | (go_simp; rfl)); intro gb102 hg w59 hbox hb; have BK102 := Aside0.mk (hbox); have GW102 := ag hg HB; have GE102 := ag hg HB; have NB101_102 := na hg BK101; have NB102_101 := nb hg BK101; replace BK101 := ab hb BK101; replace HB := hs hb HB; clear hb hbox hg) | ((with_reducible refine gate_callee (f := 16) rfl ?_); refine goesL_ (some 11) rfl rfl Tryd.func16 (by kernel_rfl) rfl #[] rfl (by (try simp only [List.map_toArray, List.map_cons, List.map_nil]); first | done | rfl | (simp only [List.length_drop, List.length_take]; rfl)) ?_; (with_reducible refine (surtitlelaw3_known.calls  false _ A4.out).mono ?_); rintro e w60 ⟨rfl, hb⟩; refine ⟨_, rfl, ?_⟩; replace BK101 := ab hb BK101; replace BK102 := ab hb BK102; replace HB := hs hb HB; (try clear hb); (try clear hb2); (try clear hk); (try clear hi)))
  go_ret
  exact ⟨by first | rfl | (simp [errW_none, errW_some] <;> rfl) | (simp [*, errW_none, errW_some] <;> rfl), by repeat (first | (with_reducible first | exact HB.out | apply below_alloc | apply pw_below_drewN | apply below_drew1 | refine below_set ?_ GE101.out | refine below_set ?_ GE102.out) | exact HB.out)⟩

end Go.Proofs.YtofndakpenpkbaaDoor.LSnaps
