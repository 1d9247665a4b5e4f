-- made by wip/pp2.py out of the translation, over contracts of my own
import Derived.Test.YtofndakpenpkbaaDoorProg
import Derived.Below
import Derived.Deep.Draws
import Derived.Deep.AppendLies
import Derived.Maps.AppendAt
import Derived.OwnWalk
import Derived.Laws.BytesArg
import Derived.Laws.MakeOwn
import Derived.Laws.OwnMore
import Derived.Deep.OwnRows
import Derived.Tactics
import Derived.Lib.ConvBytes
import Derived.Laws.Slices
import Derived.WalkKit
import Derived.KernelRfl
import Derived.RowKit3
import Derived.Deep.LoopGhost
import Derived.Deep.QuietTactic
import Derived.BigQuiet
import Derived.WideLaws
import Derived.Deep.DeepCutAuto
import Derived.Deep.CutBlock
import Derived.Deep.RegionHeld3
import Derived.Laws.Rows
import Derived.Lib.AppendStr
import Derived.ArgAppend
import Derived.Laws.IdiomCopy
import Derived.OrdersHeld
import Derived.Laws.BitsLemmas
import Derived.RowKit
import Derived.Test.YtofndakpenpkbaaDoorRefF
import Derived.Test.YtofndakpenpkbaaDoorRefO
import Derived.Test.YtofndakpenpkbaaDoorXW
namespace Go.Proofs.YtofndakpenpkbaaDoor.PI
open Go.Proofs.YtofndakpenpkbaaDoor.PA Go.Proofs.YtofndakpenpkbaaDoor.PR Go.Proofs.YtofndakpenpkbaaDoor.PO Go.Proofs.YtofndakpenpkbaaDoor.PP Go.Proofs.YtofndakpenpkbaaDoor.PF
open Go.RowKit Go.Proofs.YtofndakpenpkbaaDoorW.PrintWords Go.Proofs.YtofndakpenpkbaaDoorW.PrintLast Go.Proofs.YtofndakpenpkbaaDoorW.PrintMore
set_option linter.unusedVariables false
set_option linter.unusedSimpArgs false



def errW : Option Int → Value
  | none => .nilIface
  | some c => .iface 0 (.int .i64 c)
theorem errW_none : errW none = .nilIface := rfl
theorem errW_some (c : Int) : errW (some c) = .iface 0 (.int .i64 c) := rfl

-- the values' own types
/-! #### struct type 74 -/
structure S74 where
  f0 : Bool
  f1 : Int
  f2 : Int
def z74 : S74 := ⟨false, (0 : Int), (0 : Int)⟩
def k74 : Kd S74 := Kd.iso (Kd.pair Kd.bool (Kd.pair (Kd.int .u64) (Kd.int .u64))) (fun x : S74 => (x.f0, x.f1, x.f2))
theorem k74_open {w : World} {x : S74} {cs : List Value} (h : k74.K w x cs) : cs = [.bool x.f0, .int .u64 x.f1, .int .u64 x.f2] := by
  obtain ⟨_, _, rfl, rfl, ⟨_, _, rfl, rfl, rfl⟩⟩ := h
  exact rfl
theorem k74_openM {w : World} {base : Nat} {ok : Nat → Prop} {x : S74} {cs : List Value} (h : k74.M w base ok x cs) : cs = [.bool x.f0, .int .u64 x.f1, .int .u64 x.f2] := by
  obtain ⟨_, _, rfl, rfl, ⟨_, _, rfl, rfl, rfl⟩⟩ := h
  exact rfl
theorem k74_mk (w : World) (x : S74)  : k74.K w x [.bool x.f0, .int .u64 x.f1, .int .u64 x.f2] := ⟨[.bool x.f0], [.int .u64 x.f1, .int .u64 x.f2], rfl, rfl, ⟨[.int .u64 x.f1], [.int .u64 x.f2], rfl, rfl, rfl⟩⟩
theorem k74_mkM (w : World) (base : Nat) (ok : Nat → Prop) (x : S74)  : k74.M w base ok x [.bool x.f0, .int .u64 x.f1, .int .u64 x.f2] := ⟨[.bool x.f0], [.int .u64 x.f1, .int .u64 x.f2], rfl, rfl, ⟨[.int .u64 x.f1], [.int .u64 x.f2], rfl, rfl, rfl⟩⟩
def rd_T74 (xs : List S74) (i : Int) : S74 := xs.getD i.toNat z74
theorem at_T74 {w : World} {A : Option Addr} {n : Nat} {xs : List S74} (h : Kd.C k74 w A n xs) (i : Int) (h0 : 0 ≤ i) (h1 : i < n) : ∃ ad , A = some ad ∧ w.cell? (ad.add (i.toNat * 3)) = some (.bool (rd_T74 xs i).f0) ∧ w.cell? ⟨(ad.add (i.toNat * 3)).block, (ad.add (i.toNat * 3)).off + 1, none⟩ = some (.int .u64 (rd_T74 xs i).f1) ∧ w.cell? ⟨(ad.add (i.toNat * 3)).block, (ad.add (i.toNat * 3)).off + 2, none⟩ = some (.int .u64 (rd_T74 xs i).f2) := by
  obtain ⟨ad, c, e, _, hK, hc0⟩ := Kd.C_get h z74 i h0 h1
  have hc : ∀ j u, c[j]? = some u → w.cell? (ad.add (i.toNat * 3 + j)) = some u := hc0
  obtain rfl := k74_open hK
  exact ⟨ad, e, hc 0 _ rfl, by rw [← add_field _ _ 1 (by omega)]; exact hc 1 _ rfl, by rw [← add_field _ _ 2 (by omega)]; exact hc 2 _ rfl⟩

/-! #### struct type 24 -/
structure S24 where
  f0 : Int
  f1 : Int
def z24 : S24 := ⟨(0 : Int), (0 : Int)⟩
def k24 : Kd S24 := Kd.iso (Kd.pair (Kd.int .i64) (Kd.int .i64)) (fun x : S24 => (x.f0, x.f1))
theorem k24_open {w : World} {x : S24} {cs : List Value} (h : k24.K w x cs) : cs = [.int .i64 x.f0, .int .i64 x.f1] := by
  obtain ⟨_, _, rfl, rfl, rfl⟩ := h
  exact rfl
theorem k24_openM {w : World} {base : Nat} {ok : Nat → Prop} {x : S24} {cs : List Value} (h : k24.M w base ok x cs) : cs = [.int .i64 x.f0, .int .i64 x.f1] := by
  obtain ⟨_, _, rfl, rfl, rfl⟩ := h
  exact rfl
theorem k24_mk (w : World) (x : S24)  : k24.K w x [.int .i64 x.f0, .int .i64 x.f1] := ⟨[.int .i64 x.f0], [.int .i64 x.f1], rfl, rfl, rfl⟩
theorem k24_mkM (w : World) (base : Nat) (ok : Nat → Prop) (x : S24)  : k24.M w base ok x [.int .i64 x.f0, .int .i64 x.f1] := ⟨[.int .i64 x.f0], [.int .i64 x.f1], rfl, rfl, rfl⟩
def rd_T24 (xs : List S24) (i : Int) : S24 := xs.getD i.toNat z24
theorem at_T24 {w : World} {A : Option Addr} {n : Nat} {xs : List S24} (h : Kd.C k24 w A n xs) (i : Int) (h0 : 0 ≤ i) (h1 : i < n) : ∃ ad , A = some ad ∧ w.cell? (ad.add (i.toNat * 2)) = some (.int .i64 (rd_T24 xs i).f0) ∧ w.cell? ⟨(ad.add (i.toNat * 2)).block, (ad.add (i.toNat * 2)).off + 1, none⟩ = some (.int .i64 (rd_T24 xs i).f1) := by
  obtain ⟨ad, c, e, _, hK, hc0⟩ := Kd.C_get h z24 i h0 h1
  have hc : ∀ j u, c[j]? = some u → w.cell? (ad.add (i.toNat * 2 + j)) = some u := hc0
  obtain rfl := k24_open hK
  exact ⟨ad, e, hc 0 _ rfl, by rw [← add_field _ _ 1 (by omega)]; exact hc 1 _ rfl⟩

end Go.Proofs.YtofndakpenpkbaaDoor.PI

namespace Go.Proofs.YtofndakpenpkbaaDoor.PI
open Go.Proofs.YtofndakpenpkbaaDoor.PA Go.Proofs.YtofndakpenpkbaaDoor.PR Go.Proofs.YtofndakpenpkbaaDoor.PO Go.Proofs.YtofndakpenpkbaaDoor.PP Go.Proofs.YtofndakpenpkbaaDoor.PF
open Go.RowKit Go.Proofs.YtofndakpenpkbaaDoorW.PrintWords Go.Proofs.YtofndakpenpkbaaDoorW.PrintLast Go.Proofs.YtofndakpenpkbaaDoorW.PrintMore
set_option linter.unusedVariables false
set_option linter.unusedSimpArgs false

/-! ### surtitleref3_Times: function 52: told elsewhere -/

/-! ### surtitleref3_lowest: function 53: told elsewhere -/

/-! ### surtitleref3_both: function 62: told elsewhere -/

/-! ### surtitleref3_whole: function 68: told elsewhere -/

/-! ### surtitleref3_fits: function 69: told elsewhere -/

/-! ### surtitleref3_number: function 70: told elsewhere -/

end Go.Proofs.YtofndakpenpkbaaDoor.PI

namespace Go.Proofs.YtofndakpenpkbaaDoor.PI
open Go.Proofs.YtofndakpenpkbaaDoor.PA Go.Proofs.YtofndakpenpkbaaDoor.PR Go.Proofs.YtofndakpenpkbaaDoor.PO Go.Proofs.YtofndakpenpkbaaDoor.PP Go.Proofs.YtofndakpenpkbaaDoor.PF
open Go.RowKit Go.Proofs.YtofndakpenpkbaaDoorW.PrintWords Go.Proofs.YtofndakpenpkbaaDoorW.PrintLast Go.Proofs.YtofndakpenpkbaaDoorW.PrintMore
set_option linter.unusedVariables false
set_option linter.unusedSimpArgs false

/-! ### surtitleref3_Snap: function 43 -/
def surtitleref3_Snap.j0 : Nat → Int → Bool → Int → Int → Int → Int → Option (Int × Int × Int)
  | 0, _, _, _, _, _, _ => none
  | k + 1, x2, x23, x102000, x102001, x103000, x103001 => if x23 = true then (some (0, 0, 1)) else ((surtitleref3_Times.f x102000 x103001).bind fun bt105 => ((surtitleref3_Times.f x102001 x103000).bind fun bt108 => ((surtitleref3_whole.f k bt105.1 bt105.2.1 bt105.2.2 bt108.1 bt108.2.1 bt108.2.2 x2).bind fun bt111 => ((surtitleref3_fits.f bt111.1 bt111.2.1 bt111.2.2).bind fun t115 => (if t115 = true then ((surtitleref3_number.f bt111.1 bt111.2.1 bt111.2.2).bind fun t116 => ((surtitleref3_Times.f t116 x103000).bind fun bt117 => ((surtitleref3_Times.f x103001 1).bind fun bt120 => ((surtitleref3_lowest.f bt117.1 bt117.2.1 bt117.2.2 bt120.1 bt120.2.1 bt120.2.2).bind fun bt123 => (some (bt123.1, bt123.2.1, bt123.2.2)))))) else (some (0, 0, 12)))))))
def surtitleref3_Snap.f (k : Nat) (a0_0 : Int) (a0_1 : Int) (a1_0 : Int) (a1_1 : Int) (a2 : Int) : Option (Int × Int × Int) := (surtitleref3_both.f k a0_0 a0_1 a1_0 a1_1).bind fun t104 => (if t104 = true then (if a1_0 ≤ 0 then (some (0, 0, 11)) else (if a2 < 1 then (surtitleref3_Snap.j0 k a2 true a0_0 a0_1 a1_0 a1_1) else (surtitleref3_Snap.j0 k a2 (decide (a2 > 3)) a0_0 a0_1 a1_0 a1_1))) else (some (0, 0, 12)))
def surtitleref3_Snap.T7 : Bool × List (List Nat × List Nat) := (true, [([], []), ([0], [0]), ([], []), ([2], [2]), ([1, 3], [1, 3]), ([], []), ([5], [5]), ([], []), ([7], [7]), ([6, 8, 4], [6, 8]), ([], []), ([4, 9, 10, 9], [4, 9, 10]), ([], []), ([12, 11, 11, 0, 1, 2, 3, 4, 5, 6, 7, 8, 9, 10, 11, 12], [11, 12])])
def surtitleref3_Snap.B7 : List Nat := [0, 1, 0, 4, 15, 0, 32, 0, 128, 511, 0, 2047, 0, 8191]
theorem surtitleref3_Snap.tab7 : rtab .any (opsOf Tryd.f43 7) = surtitleref3_Snap.T7 := by kernel_rfl
theorem surtitleref3_Snap.bits7 : waitsOk surtitleref3_Snap.T7.2 surtitleref3_Snap.B7 = true := by kernel_rfl
def surtitleref3_Snap.T10 : Bool × List (List Nat × List Nat) := (true, [([], []), ([0], [0]), ([], []), ([2], [2]), ([1, 3, 1], [1, 3]), ([], []), ([5], [5]), ([6, 4], [6]), ([4, 7, 7], [4, 7]), ([8], [8]), ([8], [8]), ([9, 8, 0, 1, 2, 3, 4, 5, 6, 7, 8, 9, 10], [9]), ([10, 11, 0, 1, 2, 3, 4, 5, 6, 7, 8, 9, 10, 11], [10])])
def surtitleref3_Snap.B10 : List Nat := [0, 1, 0, 4, 15, 0, 32, 127, 255, 511, 511, 2047, 4095]
theorem surtitleref3_Snap.tab10 : rtab .any (opsOf Tryd.f43 10) = surtitleref3_Snap.T10 := by kernel_rfl
theorem surtitleref3_Snap.bits10 : waitsOk surtitleref3_Snap.T10.2 surtitleref3_Snap.B10 = true := by kernel_rfl
set_option maxHeartbeats 8000000 in
set_option maxRecDepth 100000 in
theorem surtitleref3_Snap.calls (k : Nat) (a0_0 : Int) (a0_1 : Int) (a1_0 : Int) (a1_1 : Int) (a2 : Int) (r1 : Int) (r2 : Int) (r3 : Int) (w : World) (h : surtitleref3_Snap.f k a0_0 a0_1 a1_0 a1_1 a2 = some (r1, r2, r3)) :
    Calls Tryd.prog 43 #[.agg #[.int .i64 a0_0, .int .i64 a0_1], .agg #[.int .i64 a1_0, .int .i64 a1_1], .int .i64 a2] w fun e w' => e = .returned (.tuple #[.agg #[.int .i64 r1, .int .i64 r2], .int .i64 r3]) ∧ Below w.heap.size w w' := by
  have hu24 := Tryd.underlying24
  have hu74 := Tryd.underlying74
  have HB := Aside0.mk (Below.refl w.heap.size w)
  have H : ((surtitleref3_both.f k a0_0 a0_1 a1_0 a1_1).bind fun t104 => (if t104 = true then (if a1_0 ≤ 0 then (some (0, 0, 11)) else (if a2 < 1 then (surtitleref3_Snap.j0 k a2 true a0_0 a0_1 a1_0 a1_1) else (surtitleref3_Snap.j0 k a2 (decide (a2 > 3)) a0_0 a0_1 a1_0 a1_1))) else (some (0, 0, 12)))) = some (r1, r2, r3) := h
  clear h
  replace H := Option.bind_eq_some_iff.mp H
  obtain ⟨t104, A40, H⟩ := H
  replace H : (if t104 = true then (if a1_0 ≤ 0 then (some (0, 0, 11)) else (if a2 < 1 then (surtitleref3_Snap.j0 k a2 true a0_0 a0_1 a1_0 a1_1) else (surtitleref3_Snap.j0 k a2 (decide (a2 > 3)) a0_0 a0_1 a1_0 a1_1))) else (some (0, 0, 12))) = some (r1, r2, r3) := H
  have A4 := Aside0.mk A40
  clear A40
  by_cases c5 : t104 = true
  · subst c5
    have H1 : (if a1_0 ≤ 0 then (some (0, 0, 11)) else (if a2 < 1 then (surtitleref3_Snap.j0 k a2 true a0_0 a0_1 a1_0 a1_1) else (surtitleref3_Snap.j0 k a2 (decide (a2 > 3)) a0_0 a0_1 a1_0 a1_1))) = some (r1, r2, r3) := by rw [if_pos rfl] at H; exact H
    clear H
    have H := H1
    clear H1
    by_cases c6 : a1_0 ≤ 0
    · rw [if_pos c6] at H
      have c6b0 : decide (a1_0 ≤ 0) = true := decide_eq_true c6
      clear c6
      simp only [Option.some.injEq, Prod.mk.injEq] at H
      obtain ⟨rfl, rfl, rfl⟩ := H
      go_enter Tryd.func43, Tryd.ntmps43
      go_wp2_with (first | ((with_reducible refine gate_dst (N := 3) rfl ?_); refine box_event ?hg (N := 3) ?hd (cs := #[.int .i64 a0_0, .int .i64 a0_1]) (t := 24) ?hr ?_; (case hd => rfl); (case hg => rfl); (case hr => first | (go_simp; done) | (go_simp; rfl)); intro gb101 hg w7 hbox hb; have BK101 := Aside0.mk (hbox); have GW101 := ag hg HB; have GE101 := ag hg HB; replace HB := hs hb HB; clear hb hbox hg) | ((with_reducible refine gate_dst (N := 4) rfl ?_); refine box_event ?hg (N := 4) ?hd (cs := #[.int .i64 a1_0, .int .i64 a1_1]) (t := 24) ?hr ?_; (case hd => rfl); (case hg => rfl); (case hr => first | (go_simp; done) | (go_simp; rfl)); intro gb102 hg w8 hbox hb; have BK102 := Aside0.mk (hbox); have GW102 := ag hg HB; have GE102 := ag hg HB; have NB101_102 := na hg BK101; have NB102_101 := nb hg BK101; replace BK101 := ab hb BK101; replace HB := hs hb HB; clear hb hbox hg) | ((with_reducible refine gate_dst (N := 6) rfl ?_); refine box_event ?hg (N := 6) ?hd (cs := #[.int .i64 0, .int .i64 0]) (t := 24) ?hr ?_; (case hd => rfl); (case hg => rfl); (case hr => first | (go_simp; done) | (go_simp; rfl)); intro gb103 hg w9 hbox hb; have BK103 := Aside0.mk (hbox); have GW103 := ag hg HB; have GE103 := ag hg HB; have NB101_103 := na hg BK101; have NB103_101 := nb hg BK101; have NB102_103 := na hg BK102; have NB103_102 := nb hg BK102; replace BK101 := ab hb BK101; replace BK102 := ab hb BK102; replace HB := hs hb HB; clear hb hbox hg; have hnb10 := NB101_102.out; have hnc10 := NB102_101.out; have hnb11 := NB101_103.out; have hnc11 := NB103_101.out; obtain ⟨hcz12_0, hcz12_1, hfz12_0, hfz12_1⟩ := k2 BK101.out; have hnb13 := NB102_103.out; have hnc13 := NB103_102.out; obtain ⟨hcz14_0, hcz14_1, hfz14_0, hfz14_1⟩ := k2 BK102.out) | ((with_reducible refine gate_callee (f := 62) rfl ?_); refine goesL_ (some 11) rfl rfl Tryd.func62 (by kernel_rfl) rfl #[.agg #[.int .i64 a0_0, .int .i64 a0_1], .agg #[.int .i64 a1_0, .int .i64 a1_1]] rfl (by (try simp only [List.map_toArray, List.map_cons, List.map_nil]); first | done | rfl | (simp only [List.length_drop, List.length_take]; rfl)) ?_; (with_reducible refine (surtitleref3_both.calls k a0_0 a0_1 a1_0 a1_1 true _ A4.out).mono ?_); rintro e w15 ⟨rfl, hb⟩; refine ⟨_, rfl, ?_⟩; replace BK101 := ab hb BK101; replace BK102 := ab hb BK102; replace BK103 := ab hb BK103; replace HB := hs hb HB; (try clear hb); (try clear hb2); (try clear hk); (try clear hi); obtain ⟨hcz16_0, hcz16_1, hfz16_0, hfz16_1⟩ := k2 BK102.out; obtain ⟨hcz17_0, hcz17_1, hfz17_0, hfz17_1⟩ := k2 BK103.out))
      refine bodyPost_ret (results_ct rfl _ _ gb103 24 #[.int .i64 0, .int .i64 0] (0, 0) _ rfl (by refine bk ?_; refine blk_put (cs := #[.int .i64 0, .int .i64 0]) ?_ 1 _ rfl; refine bk ?_; refine blk_put (cs := #[.int .i64 0, .int .i64 0]) ?_ 0 _ rfl; refine bk ?_; exact BK103.out) Tryd.underlying24 rfl (by kernel_rfl)) rfl ?_
      exact ⟨by first | rfl | (simp [errW_none, errW_some] <;> rfl) | (simp [*, errW_none, errW_some] <;> rfl), by repeat (first | (with_reducible first | exact HB.out | apply below_alloc | apply pw_below_drewN | apply below_drew1 | refine below_set ?_ GE101.out | refine below_set ?_ GE102.out | refine below_set ?_ GE103.out) | exact HB.out)⟩
    rw [if_neg c6] at H
    have c6b0 : decide (a1_0 ≤ 0) = false := decide_eq_false c6
    clear c6
    have HC18 := Aside0.mk H
    clear H
    go_enter Tryd.func43, Tryd.ntmps43
    go_upto_region 5 with (first | ((with_reducible refine gate_dst (N := 3) rfl ?_); refine box_event ?hg (N := 3) ?hd (cs := #[.int .i64 a0_0, .int .i64 a0_1]) (t := 24) ?hr ?_; (case hd => rfl); (case hg => rfl); (case hr => first | (go_simp; done) | (go_simp; rfl)); intro gb101 hg w19 hbox hb; have BK101 := Aside0.mk (hbox); have GW101 := ag hg HB; have GE101 := ag hg HB; replace HB := hs hb HB; clear hb hbox hg) | ((with_reducible refine gate_dst (N := 4) rfl ?_); refine box_event ?hg (N := 4) ?hd (cs := #[.int .i64 a1_0, .int .i64 a1_1]) (t := 24) ?hr ?_; (case hd => rfl); (case hg => rfl); (case hr => first | (go_simp; done) | (go_simp; rfl)); intro gb102 hg w20 hbox hb; have BK102 := Aside0.mk (hbox); have GW102 := ag hg HB; have GE102 := ag hg HB; have NB101_102 := na hg BK101; have NB102_101 := nb hg BK101; replace BK101 := ab hb BK101; replace HB := hs hb HB; clear hb hbox hg) | ((with_reducible refine gate_dst (N := 6) rfl ?_); refine box_event ?hg (N := 6) ?hd (cs := #[.int .i64 0, .int .i64 0]) (t := 24) ?hr ?_; (case hd => rfl); (case hg => rfl); (case hr => first | (go_simp; done) | (go_simp; rfl)); intro gb103 hg w21 hbox hb; have BK103 := Aside0.mk (hbox); have GW103 := ag hg HB; have GE103 := ag hg HB; have NB101_103 := na hg BK101; have NB103_101 := nb hg BK101; have NB102_103 := na hg BK102; have NB103_102 := nb hg BK102; replace BK101 := ab hb BK101; replace BK102 := ab hb BK102; replace HB := hs hb HB; clear hb hbox hg; have hnb22 := NB101_102.out; have hnc22 := NB102_101.out; have hnb23 := NB101_103.out; have hnc23 := NB103_101.out; obtain ⟨hcz24_0, hcz24_1, hfz24_0, hfz24_1⟩ := k2 BK101.out; have hnb25 := NB102_103.out; have hnc25 := NB103_102.out; obtain ⟨hcz26_0, hcz26_1, hfz26_0, hfz26_1⟩ := k2 BK102.out) | ((with_reducible refine gate_callee (f := 62) rfl ?_); refine goesL_ (some 11) rfl rfl Tryd.func62 (by kernel_rfl) rfl #[.agg #[.int .i64 a0_0, .int .i64 a0_1], .agg #[.int .i64 a1_0, .int .i64 a1_1]] rfl (by (try simp only [List.map_toArray, List.map_cons, List.map_nil]); first | done | rfl | (simp only [List.length_drop, List.length_take]; rfl)) ?_; (with_reducible refine (surtitleref3_both.calls k a0_0 a0_1 a1_0 a1_1 true _ A4.out).mono ?_); rintro e w27 ⟨rfl, hb⟩; refine ⟨_, rfl, ?_⟩; replace BK101 := ab hb BK101; replace BK102 := ab hb BK102; replace BK103 := ab hb BK103; replace HB := hs hb HB; (try clear hb); (try clear hb2); (try clear hk); (try clear hi); obtain ⟨hcz28_0, hcz28_1, hfz28_0, hfz28_1⟩ := k2 BK102.out))
    (try simp only [Act.put, List.setIfInBounds_toArray, List.set_cons_zero, List.set_cons_succ])
    go_cut [23] (fun v23 wc => ∃ (kq : Nat) (x23_17 : Bool), v23 = .bool x23_17 ∧ Aside0 (surtitleref3_Snap.j0 kq a2 x23_17 a0_0 a0_1 a1_0 a1_1 = some (r1, r2, r3)) ∧ Aside0 (kq ≤ k) ∧ Aside0 (wc.heap[gb101]? = some (.cells #[.int .i64 a0_0, .int .i64 a0_1] 24 (0, 0))) ∧ Aside0 (wc.heap[gb102]? = some (.cells #[.int .i64 a1_0, .int .i64 a1_1] 24 (0, 0))) ∧ Aside0 (wc.heap[gb103]? = some (.cells #[.int .i64 0, .int .i64 0] 24 (0, 0))) ∧ Aside0 (Below w.heap.size w wc))
    case first =>
      have H := HC18.out
      clear HC18
      by_cases c29 : a2 < 1
      · rw [if_pos c29] at H
        have c29b0 : decide (a2 < 1) = true := decide_eq_true c29
        clear c29
        (first | rw [c29b0] | (simp only [i64_w, i32_w]; rw [c29b0]) | skip)
        have H' := Aside0.mk H
        clear H
        go_wp2
        go_meet
        case rel => exact ⟨_, (true), (by first | rfl | (simp; done) | (simp [*]; done)), H', ⟨by first | omega | exact Nat.le_refl _⟩, ⟨by refine bk ?_; exact BK101.out⟩, ⟨by refine bk ?_; exact BK102.out⟩, ⟨by refine bk ?_; exact BK103.out⟩, ⟨by repeat (first | (with_reducible first | exact HB.out | apply below_alloc | apply pw_below_drewN | apply below_drew1 | refine below_set ?_ GE101.out | refine below_set ?_ GE102.out | refine below_set ?_ GE103.out) | exact HB.out)⟩⟩
      rw [if_neg c29] at H
      have c29b0 : decide (a2 < 1) = false := decide_eq_false c29
      clear c29
      (first | rw [c29b0] | (simp only [i64_w, i32_w]; rw [c29b0]) | skip)
      have H' := Aside0.mk H
      clear H
      go_wp2
      go_meet
      case rel => exact ⟨_, (decide (a2 > 3)), (by first | rfl | (simp; done) | (simp [*]; done)), H', ⟨by first | omega | exact Nat.le_refl _⟩, ⟨by refine bk ?_; exact BK101.out⟩, ⟨by refine bk ?_; exact BK102.out⟩, ⟨by refine bk ?_; exact BK103.out⟩, ⟨by repeat (first | (with_reducible first | exact HB.out | apply below_alloc | apply pw_below_drewN | apply below_drew1 | refine below_set ?_ GE101.out | refine below_set ?_ GE102.out | refine below_set ?_ GE103.out) | exact HB.out)⟩⟩
    clear HC18
    try clear c5
    try clear c6
    try clear c6b0
    try clear hcz24_0
    try clear hcz24_1
    try clear hcz26_0
    try clear hcz26_1
    try clear hcz28_0
    try clear hcz28_1
    try clear hfz24_0
    try clear hfz24_1
    try clear hfz26_0
    try clear hfz26_1
    try clear hfz28_0
    try clear hfz28_1
    obtain ⟨kq, x23_17, rfl, HA, HJ17, BK101, BK102, BK103, HB⟩ := hcut
    obtain _ | kj17 := kq
    · exact absurd HA.out (by simp [surtitleref3_Snap.j0])
    have H := HA.out
    clear HA
    simp only [surtitleref3_Snap.j0] at H
    by_cases c30 : x23_17 = true
    · subst c30
      have H1 : (some (0, 0, 1)) = some (r1, r2, r3) := by rw [if_pos rfl] at H; exact H
      clear H
      have H := H1
      clear H1
      simp only [Option.some.injEq, Prod.mk.injEq] at H
      obtain ⟨rfl, rfl, rfl⟩ := H
      have hnb31 := NB103_101.out
      have hnc31 := NB101_103.out
      have hnb32 := NB103_102.out
      have hnc32 := NB102_103.out
      obtain ⟨hcz33_0, hcz33_1, hfz33_0, hfz33_1⟩ := k2 BK103.out
      go_wp2
      refine bodyPost_ret (results_ct rfl _ _ gb103 24 #[.int .i64 0, .int .i64 0] (0, 0) _ rfl (by refine bk ?_; refine blk_put (cs := #[.int .i64 0, .int .i64 0]) ?_ 1 _ rfl; refine bk ?_; refine blk_put (cs := #[.int .i64 0, .int .i64 0]) ?_ 0 _ rfl; refine bk ?_; exact BK103.out) Tryd.underlying24 rfl (by kernel_rfl)) rfl ?_
      exact ⟨by first | rfl | (simp [errW_none, errW_some] <;> rfl) | (simp [*, errW_none, errW_some] <;> rfl), by repeat (first | (with_reducible first | exact HB.out | apply below_alloc | apply pw_below_drewN | apply below_drew1 | refine below_set ?_ GE101.out | refine below_set ?_ GE102.out | refine below_set ?_ GE103.out) | exact HB.out)⟩
    replace c30 := Bool.eq_false_iff.mpr c30
    subst c30
    have H1 : ((surtitleref3_Times.f a0_0 a1_1).bind fun bt105 => ((surtitleref3_Times.f a0_1 a1_0).bind fun bt108 => ((surtitleref3_whole.f kj17 bt105.1 bt105.2.1 bt105.2.2 bt108.1 bt108.2.1 bt108.2.2 a2).bind fun bt111 => ((surtitleref3_fits.f bt111.1 bt111.2.1 bt111.2.2).bind fun t115 => (if t115 = true then ((surtitleref3_number.f bt111.1 bt111.2.1 bt111.2.2).bind fun t116 => ((surtitleref3_Times.f t116 a1_0).bind fun bt117 => ((surtitleref3_Times.f a1_1 1).bind fun bt120 => ((surtitleref3_lowest.f bt117.1 bt117.2.1 bt117.2.2 bt120.1 bt120.2.1 bt120.2.2).bind fun bt123 => (some (bt123.1, bt123.2.1, bt123.2.2)))))) else (some (0, 0, 12))))))) = some (r1, r2, r3) := by rw [if_neg (show ¬ (false = true) by decide)] at H; exact H
    clear H
    have H := H1
    clear H1
    replace H := Option.bind_eq_some_iff.mp H
    obtain ⟨⟨t105, t106, t107⟩, A340, H⟩ := H
    replace H : ((surtitleref3_Times.f a0_1 a1_0).bind fun bt108 => ((surtitleref3_whole.f kj17 t105 t106 t107 bt108.1 bt108.2.1 bt108.2.2 a2).bind fun bt111 => ((surtitleref3_fits.f bt111.1 bt111.2.1 bt111.2.2).bind fun t115 => (if t115 = true then ((surtitleref3_number.f bt111.1 bt111.2.1 bt111.2.2).bind fun t116 => ((surtitleref3_Times.f t116 a1_0).bind fun bt117 => ((surtitleref3_Times.f a1_1 1).bind fun bt120 => ((surtitleref3_lowest.f bt117.1 bt117.2.1 bt117.2.2 bt120.1 bt120.2.1 bt120.2.2).bind fun bt123 => (some (bt123.1, bt123.2.1, bt123.2.2)))))) else (some (0, 0, 12)))))) = some (r1, r2, r3) := H
    have A34 := Aside0.mk A340
    clear A340
    replace H := Option.bind_eq_some_iff.mp H
    obtain ⟨⟨t108, t109, t110⟩, A350, H⟩ := H
    replace H : ((surtitleref3_whole.f kj17 t105 t106 t107 t108 t109 t110 a2).bind fun bt111 => ((surtitleref3_fits.f bt111.1 bt111.2.1 bt111.2.2).bind fun t115 => (if t115 = true then ((surtitleref3_number.f bt111.1 bt111.2.1 bt111.2.2).bind fun t116 => ((surtitleref3_Times.f t116 a1_0).bind fun bt117 => ((surtitleref3_Times.f a1_1 1).bind fun bt120 => ((surtitleref3_lowest.f bt117.1 bt117.2.1 bt117.2.2 bt120.1 bt120.2.1 bt120.2.2).bind fun bt123 => (some (bt123.1, bt123.2.1, bt123.2.2)))))) else (some (0, 0, 12))))) = some (r1, r2, r3) := H
    have A35 := Aside0.mk A350
    clear A350
    replace H := Option.bind_eq_some_iff.mp H
    obtain ⟨⟨t111, t112, t113⟩, A360, H⟩ := H
    replace H : ((surtitleref3_fits.f t111 t112 t113).bind fun t115 => (if t115 = true then ((surtitleref3_number.f t111 t112 t113).bind fun t116 => ((surtitleref3_Times.f t116 a1_0).bind fun bt117 => ((surtitleref3_Times.f a1_1 1).bind fun bt120 => ((surtitleref3_lowest.f bt117.1 bt117.2.1 bt117.2.2 bt120.1 bt120.2.1 bt120.2.2).bind fun bt123 => (some (bt123.1, bt123.2.1, bt123.2.2)))))) else (some (0, 0, 12)))) = some (r1, r2, r3) := H
    have A36 := Aside0.mk A360
    clear A360
    replace H := Option.bind_eq_some_iff.mp H
    obtain ⟨t115, A370, H⟩ := H
    replace H : (if t115 = true then ((surtitleref3_number.f t111 t112 t113).bind fun t116 => ((surtitleref3_Times.f t116 a1_0).bind fun bt117 => ((surtitleref3_Times.f a1_1 1).bind fun bt120 => ((surtitleref3_lowest.f bt117.1 bt117.2.1 bt117.2.2 bt120.1 bt120.2.1 bt120.2.2).bind fun bt123 => (some (bt123.1, bt123.2.1, bt123.2.2)))))) else (some (0, 0, 12))) = some (r1, r2, r3) := H
    have A37 := Aside0.mk A370
    clear A370
    by_cases c38 : t115 = true
    · subst c38
      have H1 : ((surtitleref3_number.f t111 t112 t113).bind fun t116 => ((surtitleref3_Times.f t116 a1_0).bind fun bt117 => ((surtitleref3_Times.f a1_1 1).bind fun bt120 => ((surtitleref3_lowest.f bt117.1 bt117.2.1 bt117.2.2 bt120.1 bt120.2.1 bt120.2.2).bind fun bt123 => (some (bt123.1, bt123.2.1, bt123.2.2)))))) = some (r1, r2, r3) := by rw [if_pos rfl] at H; exact H
      clear H
      have H := H1
      clear H1
      replace H := Option.bind_eq_some_iff.mp H
      obtain ⟨t116, A390, H⟩ := H
      replace H : ((surtitleref3_Times.f t116 a1_0).bind fun bt117 => ((surtitleref3_Times.f a1_1 1).bind fun bt120 => ((surtitleref3_lowest.f bt117.1 bt117.2.1 bt117.2.2 bt120.1 bt120.2.1 bt120.2.2).bind fun bt123 => (some (bt123.1, bt123.2.1, bt123.2.2))))) = some (r1, r2, r3) := H
      have A39 := Aside0.mk A390
      clear A390
      replace H := Option.bind_eq_some_iff.mp H
      obtain ⟨⟨t117, t118, t119⟩, A400, H⟩ := H
      replace H : ((surtitleref3_Times.f a1_1 1).bind fun bt120 => ((surtitleref3_lowest.f t117 t118 t119 bt120.1 bt120.2.1 bt120.2.2).bind fun bt123 => (some (bt123.1, bt123.2.1, bt123.2.2)))) = some (r1, r2, r3) := H
      have A40 := Aside0.mk A400
      clear A400
      replace H := Option.bind_eq_some_iff.mp H
      obtain ⟨⟨t120, t121, t122⟩, A410, H⟩ := H
      replace H : ((surtitleref3_lowest.f t117 t118 t119 t120 t121 t122).bind fun bt123 => (some (bt123.1, bt123.2.1, bt123.2.2))) = some (r1, r2, r3) := H
      have A41 := Aside0.mk A410
      clear A410
      replace H := Option.bind_eq_some_iff.mp H
      obtain ⟨⟨t123, t124, t125⟩, A420, H⟩ := H
      replace H : (some (t123, t124, t125)) = some (r1, r2, r3) := H
      have A42 := Aside0.mk A420
      clear A420
      simp only [Option.some.injEq, Prod.mk.injEq] at H
      obtain ⟨rfl, rfl, rfl⟩ := H
      try go_wp2
      have n0_ := Aside0.mk (blk_drew BK101.out)
      have n1_ := Aside0.mk (blk_drew BK102.out)
      have n2_ := Aside0.mk (blk_drew BK103.out)
      have n3_ := Aside0.mk (below_drew1 HB.out)
      clear BK101
      clear BK102
      clear BK103
      clear HB
      have BK101 := n0_
      have BK102 := n1_
      have BK103 := n2_
      have HB := n3_
      clear n0_ n1_ n2_ n3_
      refine start_ (n := 14) (S := fun w' => w'.cell? ⟨gb101, 0, none⟩ = some (.int .i64 a0_0) ∧ w'.cell? ⟨gb101, 1, none⟩ = some (.int .i64 a0_1) ∧ w'.cell? ⟨gb102, 0, none⟩ = some (.int .i64 a1_0) ∧ w'.cell? ⟨gb102, 1, none⟩ = some (.int .i64 a1_1)) (ds := []) #[false, false, false, false, false, false, false, false, false, false, false, false, false, false] (by kernel_rfl) rfl rfl ⟨c0 BK101.out, c1 BK101.out, c0 BK102.out, c1 BK102.out⟩ (fun hHeld => ?_); refine with_tabW surtitleref3_Snap.tab7 surtitleref3_Snap.bits7 (fun HT_ HW_ => ?_)
      generalize wc.drew = w43 at BK101 BK102 BK103 HB hHeld ⊢
      refine pure_ (i := 0) (N := some 25) (v := ?_) (a' := ?_) #[true, false, false, false, false, false, false, false, false, false, false, false, false, false] rfl rfl (any_of HT_.out (by kernel_rfl)) (fun _ _ _ h => h) (Or.inl ⟨by rfl, ?_⟩) ?_ ?_
      rotate_left
      · intro w'
        go_simp
        with_reducible rfl
      rotate_left
      · simp only [Act.put, List.setIfInBounds_toArray, List.set_cons_zero, List.set_cons_succ, i64_w, i32_w]
        rfl
      refine pure_ (i := 2) (N := some 27) (v := ?_) (a' := ?_) #[true, false, true, false, false, false, false, false, false, false, false, false, false, false] rfl rfl (any_of HT_.out (by kernel_rfl)) (fun _ _ _ h => h) (Or.inl ⟨by rfl, ?_⟩) ?_ ?_
      rotate_left
      · intro w'
        go_simp
        with_reducible rfl
      rotate_left
      · simp only [Act.put, List.setIfInBounds_toArray, List.set_cons_zero, List.set_cons_succ, i64_w, i32_w]
        rfl
      refine pure_ (i := 5) (N := some 30) (v := ?_) (a' := ?_) #[true, false, true, false, false, true, false, false, false, false, false, false, false, false] rfl rfl (any_of HT_.out (by kernel_rfl)) (fun _ _ _ h => h) (Or.inl ⟨by rfl, ?_⟩) ?_ ?_
      rotate_left
      · intro w'
        go_simp
        with_reducible rfl
      rotate_left
      · simp only [Act.put, List.setIfInBounds_toArray, List.set_cons_zero, List.set_cons_succ, i64_w, i32_w]
        rfl
      refine pure_ (i := 7) (N := some 32) (v := ?_) (a' := ?_) #[true, false, true, false, false, true, false, true, false, false, false, false, false, false] rfl rfl (any_of HT_.out (by kernel_rfl)) (fun _ _ _ h => h) (Or.inl ⟨by rfl, ?_⟩) ?_ ?_
      rotate_left
      · intro w'
        go_simp
        with_reducible rfl
      rotate_left
      · simp only [Act.put, List.setIfInBounds_toArray, List.set_cons_zero, List.set_cons_succ, i64_w, i32_w]
        rfl
      refine pure_ (i := 10) (N := some 35) (v := ?_) (a' := ?_) #[true, false, true, false, false, true, false, true, false, false, true, false, false, false] rfl rfl (any_of HT_.out (by kernel_rfl)) (fun _ _ _ h => h) (Or.inl ⟨by rfl, ?_⟩) ?_ ?_
      rotate_left
      · intro w'
        go_simp
        with_reducible rfl
      rotate_left
      · simp only [Act.put, List.setIfInBounds_toArray, List.set_cons_zero, List.set_cons_succ, i64_w, i32_w]
        rfl
      refine take_ (i := 1) (N := some 26) (v := ?_) (a' := ?_) #[true, true, true, false, false, true, false, true, false, false, true, false, false, false] rfl rfl (take_ofW HT_.out HW_.out (by kernel_rfl)) (fun _ _ _ h => h) (Or.inl ⟨by rfl, ?_⟩) hHeld ?_ ?_
      rotate_left
      · rintro w' ⟨s0, s1, s2, s3⟩
        go_simp
        with_reducible rfl
      rotate_left
      · simp only [Act.put, List.setIfInBounds_toArray, List.set_cons_zero, List.set_cons_succ, i64_w, i32_w]
        rfl
      refine take_ (i := 3) (N := some 28) (v := ?_) (a' := ?_) #[true, true, true, true, false, true, false, true, false, false, true, false, false, false] rfl rfl (take_ofW HT_.out HW_.out (by kernel_rfl)) (fun _ _ _ h => h) (Or.inl ⟨by rfl, ?_⟩) hHeld ?_ ?_
      rotate_left
      · rintro w' ⟨s0, s1, s2, s3⟩
        go_simp
        with_reducible rfl
      rotate_left
      · simp only [Act.put, List.setIfInBounds_toArray, List.set_cons_zero, List.set_cons_succ, i64_w, i32_w]
        rfl
      refine take_ (i := 6) (N := some 31) (v := ?_) (a' := ?_) #[true, true, true, true, false, true, true, true, false, false, true, false, false, false] rfl rfl (take_ofW HT_.out HW_.out (by kernel_rfl)) (fun _ _ _ h => h) (Or.inl ⟨by rfl, ?_⟩) hHeld ?_ ?_
      rotate_left
      · rintro w' ⟨s0, s1, s2, s3⟩
        go_simp
        with_reducible rfl
      rotate_left
      · simp only [Act.put, List.setIfInBounds_toArray, List.set_cons_zero, List.set_cons_succ, i64_w, i32_w]
        rfl
      refine take_ (i := 8) (N := some 33) (v := ?_) (a' := ?_) #[true, true, true, true, false, true, true, true, true, false, true, false, false, false] rfl rfl (take_ofW HT_.out HW_.out (by kernel_rfl)) (fun _ _ _ h => h) (Or.inl ⟨by rfl, ?_⟩) hHeld ?_ ?_
      rotate_left
      · rintro w' ⟨s0, s1, s2, s3⟩
        go_simp
        with_reducible rfl
      rotate_left
      · simp only [Act.put, List.setIfInBounds_toArray, List.set_cons_zero, List.set_cons_succ, i64_w, i32_w]
        rfl
      refine join_ (σ := Nat) 1 #[true, true, true, true, true, true, true, true, true, true, true, true, true, false] (fun s_ => [(29, .agg #[.bool t105, .int .u64 t106, .int .u64 t107]), (34, .agg #[.bool t108, .int .u64 t109, .int .u64 t110]), (36, .agg #[.bool t111, .int .u64 t112, .int .u64 t113]), (8, .pointer (some ⟨s_, 0, none⟩))]) (fun s_ w' => (w'.cell? ⟨gb101, 0, none⟩ = some (.int .i64 a0_0) ∧ w'.cell? ⟨gb101, 1, none⟩ = some (.int .i64 a0_1) ∧ w'.cell? ⟨gb102, 0, none⟩ = some (.int .i64 a1_0) ∧ w'.cell? ⟨gb102, 1, none⟩ = some (.int .i64 a1_1)) ∧ (w'.heap[gb101]? = some (.cells #[.int .i64 a0_0, .int .i64 a0_1] 24 (0, 0))) ∧ (w'.heap[gb102]? = some (.cells #[.int .i64 a1_0, .int .i64 a1_1] 24 (0, 0))) ∧ (w'.heap[gb103]? = some (.cells #[.int .i64 0, .int .i64 0] 24 (0, 0))) ∧ (w'.heap[s_]? = some (.cells #[.bool false, .int .u64 0, .int .u64 0] 74 (0, 0))) ∧ (w.heap.size ≤ s_) ∧ (w.heap.size ≤ s_) ∧ (gb101 ≠ s_) ∧ (s_ ≠ gb101) ∧ (gb102 ≠ s_) ∧ (s_ ≠ gb102) ∧ (gb103 ≠ s_) ∧ (s_ ≠ gb103) ∧ (Below w.heap.size w w')) ?_ ?_
      rotate_left
      · intro hCont
        refine two_ (i := 4) (j := 12) (Ni := some 29) (Nj := some 8) #[true, true, true, true, true, true, true, true, true, false, true, false, false, false] #[true, true, true, true, false, true, true, true, true, false, true, false, true, false] rfl rfl rfl rfl (two_of HT_.out (by kernel_rfl)) (by decide) (by decide) (fun K hK => ?_) (fun K hK => ?_)
        · skip
          refine goes_ Tryd.func52 (by kernel_rfl) rfl #[.int .i64 a0_0, .int .i64 a1_1] (by rfl) rfl rfl (by (try simp only [List.map_toArray, List.map_cons, List.map_nil]); first | done | rfl | (simp only [List.length_drop, List.length_take]; rfl)) ?_
          with_reducible refine (surtitleref3_Times.calls a0_0 a1_1 t105 t106 t107 _ A34.out).mono ?_
          rintro e w44 ⟨rfl, hb⟩
          refine ⟨_, rfl, ?_⟩
          have n0_ := ab hb BK101
          have n1_ := ab hb BK102
          have n2_ := ab hb BK103
          have n3_ := hs hb HB
          clear BK101
          clear BK102
          clear BK103
          clear HB
          have BK101 := n0_
          have BK102 := n1_
          have BK103 := n2_
          have HB := n3_
          clear n0_ n1_ n2_ n3_
          (try clear hb)
          (try clear hb2)
          (try clear hk)
          (try clear hi)
          refine hK.out _ _ ⟨c0 BK101.out, c1 BK101.out, c0 BK102.out, c1 BK102.out⟩ (fun hHeld => ?_)
          clear hK K
          refine norm_ (a' := ?_) ?_ ?_
          rotate_left
          · show Act.put _ (some 29) _ = _
            simp only [Act.put, List.setIfInBounds_toArray, List.set_cons_zero, List.set_cons_succ, i64_w, i32_w]
            rfl
          refine two_ (i := 9) (j := 12) (Ni := some 34) (Nj := some 8) #[true, true, true, true, true, true, true, true, true, true, true, false, false, false] #[true, true, true, true, true, true, true, true, true, false, true, false, true, false] rfl rfl rfl rfl (two_of HT_.out (by kernel_rfl)) (by decide) (by decide) (fun K hK => ?_) (fun K hK => ?_)
          · skip
            refine goes_ Tryd.func52 (by kernel_rfl) rfl #[.int .i64 a0_1, .int .i64 a1_0] (by rfl) rfl rfl (by (try simp only [List.map_toArray, List.map_cons, List.map_nil]); first | done | rfl | (simp only [List.length_drop, List.length_take]; rfl)) ?_
            with_reducible refine (surtitleref3_Times.calls a0_1 a1_0 t108 t109 t110 _ A35.out).mono ?_
            rintro e w45 ⟨rfl, hb⟩
            refine ⟨_, rfl, ?_⟩
            have n0_ := ab hb BK101
            have n1_ := ab hb BK102
            have n2_ := ab hb BK103
            have n3_ := hs hb HB
            clear BK101
            clear BK102
            clear BK103
            clear HB
            have BK101 := n0_
            have BK102 := n1_
            have BK103 := n2_
            have HB := n3_
            clear n0_ n1_ n2_ n3_
            (try clear hb)
            (try clear hb2)
            (try clear hk)
            (try clear hi)
            refine hK.out _ _ ⟨c0 BK101.out, c1 BK101.out, c0 BK102.out, c1 BK102.out⟩ (fun hHeld => ?_)
            clear hK K
            refine norm_ (a' := ?_) ?_ ?_
            rotate_left
            · show Act.put _ (some 34) _ = _
              simp only [Act.put, List.setIfInBounds_toArray, List.set_cons_zero, List.set_cons_succ, i64_w, i32_w]
              rfl
            refine two_ (i := 11) (j := 12) (Ni := some 36) (Nj := some 8) #[true, true, true, true, true, true, true, true, true, true, true, true, false, false] #[true, true, true, true, true, true, true, true, true, true, true, false, true, false] rfl rfl rfl rfl (two_of HT_.out (by kernel_rfl)) (by decide) (by decide) (fun K hK => ?_) (fun K hK => ?_)
            · skip
              refine goes_ Tryd.func68 (by kernel_rfl) rfl #[.agg #[.bool t105, .int .u64 t106, .int .u64 t107], .agg #[.bool t108, .int .u64 t109, .int .u64 t110], .int .i64 a2] (by rfl) rfl rfl (by (try simp only [List.map_toArray, List.map_cons, List.map_nil]); first | done | rfl | (simp only [List.length_drop, List.length_take]; rfl)) ?_
              with_reducible refine (surtitleref3_whole.calls kj17 t105 t106 t107 t108 t109 t110 a2 t111 t112 t113 _ A36.out).mono ?_
              rintro e w46 ⟨rfl, hb⟩
              refine ⟨_, rfl, ?_⟩
              have n0_ := ab hb BK101
              have n1_ := ab hb BK102
              have n2_ := ab hb BK103
              have n3_ := hs hb HB
              clear BK101
              clear BK102
              clear BK103
              clear HB
              have BK101 := n0_
              have BK102 := n1_
              have BK103 := n2_
              have HB := n3_
              clear n0_ n1_ n2_ n3_
              (try clear hb)
              (try clear hb2)
              (try clear hk)
              (try clear hi)
              refine hK.out _ _ ⟨c0 BK101.out, c1 BK101.out, c0 BK102.out, c1 BK102.out⟩ (fun hHeld => ?_)
              clear hK K
              refine norm_ (a' := ?_) ?_ ?_
              rotate_left
              · show Act.put _ (some 36) _ = _
                simp only [Act.put, List.setIfInBounds_toArray, List.set_cons_zero, List.set_cons_succ, i64_w, i32_w]
                rfl
              refine one_ (i := 12) (N := some 8) #[true, true, true, true, true, true, true, true, true, true, true, true, true, false] rfl rfl (one_of HT_.out (by kernel_rfl)) (by decide) (fun K hK => ?_)
              refine box_step ?hg (N := 8) ?hd (cs := #[.bool false, .int .u64 0, .int .u64 0]) (t := 74) ?hr ?_; (case hd => rfl); (case hg => rfl); (case hr => first | (go_simp; done) | (go_simp; rfl))
              intro gb114 hg w47 hbox hb
              have n0_ := ab hb BK101
              have n1_ := ab hb BK102
              have n2_ := ab hb BK103
              have n3_ := hs hb HB
              have n4_ := Aside0.mk (hbox)
              have n5_ := ag hg HB
              have n6_ := ag hg HB
              have n7_ := na hg BK101
              have n8_ := nb hg BK101
              have n9_ := na hg BK102
              have n10_ := nb hg BK102
              have n11_ := na hg BK103
              have n12_ := nb hg BK103
              clear BK101
              clear BK102
              clear BK103
              clear HB
              have BK101 := n0_
              have BK102 := n1_
              have BK103 := n2_
              have HB := n3_
              have BK114 := n4_
              have GW114 := n5_
              have GE114 := n6_
              have NB101_114 := n7_
              have NB114_101 := n8_
              have NB102_114 := n9_
              have NB114_102 := n10_
              have NB103_114 := n11_
              have NB114_103 := n12_
              clear n0_ n1_ n2_ n3_ n4_ n5_ n6_ n7_ n8_ n9_ n10_ n11_ n12_
              clear hb hbox hg
              refine hK.out _ _ ⟨c0 BK101.out, c1 BK101.out, c0 BK102.out, c1 BK102.out⟩ (fun hHeld => ?_)
              clear hK K
              refine norm_ (a' := ?_) ?_ ?_
              rotate_left
              · show Act.put _ (some 8) _ = _
                simp only [Act.put, List.setIfInBounds_toArray, List.set_cons_zero, List.set_cons_succ, i64_w, i32_w]
                rfl
              exact norm_ (by simp only [putAll, Act.put, List.setIfInBounds_toArray, List.set_cons_zero, List.set_cons_succ]) (hCont (gb114) _ ⟨hHeld, (bk BK101.out), (bk BK102.out), (bk BK103.out), (bk BK114.out), GW114.out, GE114.out, NB101_114.out, NB114_101.out, NB102_114.out, NB114_102.out, NB103_114.out, NB114_103.out, (bw HB.out)⟩)
            skip
            refine box_step ?hg (N := 8) ?hd (cs := #[.bool false, .int .u64 0, .int .u64 0]) (t := 74) ?hr ?_; (case hd => rfl); (case hg => rfl); (case hr => first | (go_simp; done) | (go_simp; rfl))
            intro gb114 hg w46 hbox hb
            have n0_ := ab hb BK101
            have n1_ := ab hb BK102
            have n2_ := ab hb BK103
            have n3_ := hs hb HB
            have n4_ := Aside0.mk (hbox)
            have n5_ := ag hg HB
            have n6_ := ag hg HB
            have n7_ := na hg BK101
            have n8_ := nb hg BK101
            have n9_ := na hg BK102
            have n10_ := nb hg BK102
            have n11_ := na hg BK103
            have n12_ := nb hg BK103
            clear BK101
            clear BK102
            clear BK103
            clear HB
            have BK101 := n0_
            have BK102 := n1_
            have BK103 := n2_
            have HB := n3_
            have BK114 := n4_
            have GW114 := n5_
            have GE114 := n6_
            have NB101_114 := n7_
            have NB114_101 := n8_
            have NB102_114 := n9_
            have NB114_102 := n10_
            have NB103_114 := n11_
            have NB114_103 := n12_
            clear n0_ n1_ n2_ n3_ n4_ n5_ n6_ n7_ n8_ n9_ n10_ n11_ n12_
            clear hb hbox hg
            refine hK.out _ _ ⟨c0 BK101.out, c1 BK101.out, c0 BK102.out, c1 BK102.out⟩ (fun hHeld => ?_)
            clear hK K
            refine norm_ (a' := ?_) ?_ ?_
            rotate_left
            · show Act.put _ (some 8) _ = _
              simp only [Act.put, List.setIfInBounds_toArray, List.set_cons_zero, List.set_cons_succ, i64_w, i32_w]
              rfl
            refine one_ (i := 11) (N := some 36) #[true, true, true, true, true, true, true, true, true, true, true, true, true, false] rfl rfl (one_of HT_.out (by kernel_rfl)) (by decide) (fun K hK => ?_)
            refine goes_ Tryd.func68 (by kernel_rfl) rfl #[.agg #[.bool t105, .int .u64 t106, .int .u64 t107], .agg #[.bool t108, .int .u64 t109, .int .u64 t110], .int .i64 a2] (by rfl) rfl rfl (by (try simp only [List.map_toArray, List.map_cons, List.map_nil]); first | done | rfl | (simp only [List.length_drop, List.length_take]; rfl)) ?_
            with_reducible refine (surtitleref3_whole.calls kj17 t105 t106 t107 t108 t109 t110 a2 t111 t112 t113 _ A36.out).mono ?_
            rintro e w47 ⟨rfl, hb⟩
            refine ⟨_, rfl, ?_⟩
            have n0_ := ab hb BK101
            have n1_ := ab hb BK102
            have n2_ := ab hb BK103
            have n3_ := ab hb BK114
            have n4_ := hs hb HB
            clear BK101
            clear BK102
            clear BK103
            clear BK114
            clear HB
            have BK101 := n0_
            have BK102 := n1_
            have BK103 := n2_
            have BK114 := n3_
            have HB := n4_
            clear n0_ n1_ n2_ n3_ n4_
            (try clear hb)
            (try clear hb2)
            (try clear hk)
            (try clear hi)
            refine hK.out _ _ ⟨c0 BK101.out, c1 BK101.out, c0 BK102.out, c1 BK102.out⟩ (fun hHeld => ?_)
            clear hK K
            refine norm_ (a' := ?_) ?_ ?_
            rotate_left
            · show Act.put _ (some 36) _ = _
              simp only [Act.put, List.setIfInBounds_toArray, List.set_cons_zero, List.set_cons_succ, i64_w, i32_w]
              rfl
            exact norm_ (by simp only [putAll, Act.put, List.setIfInBounds_toArray, List.set_cons_zero, List.set_cons_succ]) (hCont (gb114) _ ⟨hHeld, (bk BK101.out), (bk BK102.out), (bk BK103.out), (bk BK114.out), GW114.out, GE114.out, NB101_114.out, NB114_101.out, NB102_114.out, NB114_102.out, NB103_114.out, NB114_103.out, (bw HB.out)⟩)
          skip
          refine box_step ?hg (N := 8) ?hd (cs := #[.bool false, .int .u64 0, .int .u64 0]) (t := 74) ?hr ?_; (case hd => rfl); (case hg => rfl); (case hr => first | (go_simp; done) | (go_simp; rfl))
          intro gb114 hg w45 hbox hb
          have n0_ := ab hb BK101
          have n1_ := ab hb BK102
          have n2_ := ab hb BK103
          have n3_ := hs hb HB
          have n4_ := Aside0.mk (hbox)
          have n5_ := ag hg HB
          have n6_ := ag hg HB
          have n7_ := na hg BK101
          have n8_ := nb hg BK101
          have n9_ := na hg BK102
          have n10_ := nb hg BK102
          have n11_ := na hg BK103
          have n12_ := nb hg BK103
          clear BK101
          clear BK102
          clear BK103
          clear HB
          have BK101 := n0_
          have BK102 := n1_
          have BK103 := n2_
          have HB := n3_
          have BK114 := n4_
          have GW114 := n5_
          have GE114 := n6_
          have NB101_114 := n7_
          have NB114_101 := n8_
          have NB102_114 := n9_
          have NB114_102 := n10_
          have NB103_114 := n11_
          have NB114_103 := n12_
          clear n0_ n1_ n2_ n3_ n4_ n5_ n6_ n7_ n8_ n9_ n10_ n11_ n12_
          clear hb hbox hg
          refine hK.out _ _ ⟨c0 BK101.out, c1 BK101.out, c0 BK102.out, c1 BK102.out⟩ (fun hHeld => ?_)
          clear hK K
          refine norm_ (a' := ?_) ?_ ?_
          rotate_left
          · show Act.put _ (some 8) _ = _
            simp only [Act.put, List.setIfInBounds_toArray, List.set_cons_zero, List.set_cons_succ, i64_w, i32_w]
            rfl
          refine one_ (i := 9) (N := some 34) #[true, true, true, true, true, true, true, true, true, true, true, false, true, false] rfl rfl (one_of HT_.out (by kernel_rfl)) (by decide) (fun K hK => ?_)
          refine goes_ Tryd.func52 (by kernel_rfl) rfl #[.int .i64 a0_1, .int .i64 a1_0] (by rfl) rfl rfl (by (try simp only [List.map_toArray, List.map_cons, List.map_nil]); first | done | rfl | (simp only [List.length_drop, List.length_take]; rfl)) ?_
          with_reducible refine (surtitleref3_Times.calls a0_1 a1_0 t108 t109 t110 _ A35.out).mono ?_
          rintro e w46 ⟨rfl, hb⟩
          refine ⟨_, rfl, ?_⟩
          have n0_ := ab hb BK101
          have n1_ := ab hb BK102
          have n2_ := ab hb BK103
          have n3_ := ab hb BK114
          have n4_ := hs hb HB
          clear BK101
          clear BK102
          clear BK103
          clear BK114
          clear HB
          have BK101 := n0_
          have BK102 := n1_
          have BK103 := n2_
          have BK114 := n3_
          have HB := n4_
          clear n0_ n1_ n2_ n3_ n4_
          (try clear hb)
          (try clear hb2)
          (try clear hk)
          (try clear hi)
          refine hK.out _ _ ⟨c0 BK101.out, c1 BK101.out, c0 BK102.out, c1 BK102.out⟩ (fun hHeld => ?_)
          clear hK K
          refine norm_ (a' := ?_) ?_ ?_
          rotate_left
          · show Act.put _ (some 34) _ = _
            simp only [Act.put, List.setIfInBounds_toArray, List.set_cons_zero, List.set_cons_succ, i64_w, i32_w]
            rfl
          refine one_ (i := 11) (N := some 36) #[true, true, true, true, true, true, true, true, true, true, true, true, true, false] rfl rfl (one_of HT_.out (by kernel_rfl)) (by decide) (fun K hK => ?_)
          refine goes_ Tryd.func68 (by kernel_rfl) rfl #[.agg #[.bool t105, .int .u64 t106, .int .u64 t107], .agg #[.bool t108, .int .u64 t109, .int .u64 t110], .int .i64 a2] (by rfl) rfl rfl (by (try simp only [List.map_toArray, List.map_cons, List.map_nil]); first | done | rfl | (simp only [List.length_drop, List.length_take]; rfl)) ?_
          with_reducible refine (surtitleref3_whole.calls kj17 t105 t106 t107 t108 t109 t110 a2 t111 t112 t113 _ A36.out).mono ?_
          rintro e w47 ⟨rfl, hb⟩
          refine ⟨_, rfl, ?_⟩
          have n0_ := ab hb BK101
          have n1_ := ab hb BK102
          have n2_ := ab hb BK103
          have n3_ := ab hb BK114
          have n4_ := hs hb HB
          clear BK101
          clear BK102
          clear BK103
          clear BK114
          clear HB
          have BK101 := n0_
          have BK102 := n1_
          have BK103 := n2_
          have BK114 := n3_
          have HB := n4_
          clear n0_ n1_ n2_ n3_ n4_
          (try clear hb)
          (try clear hb2)
          (try clear hk)
          (try clear hi)
          refine hK.out _ _ ⟨c0 BK101.out, c1 BK101.out, c0 BK102.out, c1 BK102.out⟩ (fun hHeld => ?_)
          clear hK K
          refine norm_ (a' := ?_) ?_ ?_
          rotate_left
          · show Act.put _ (some 36) _ = _
            simp only [Act.put, List.setIfInBounds_toArray, List.set_cons_zero, List.set_cons_succ, i64_w, i32_w]
            rfl
          exact norm_ (by simp only [putAll, Act.put, List.setIfInBounds_toArray, List.set_cons_zero, List.set_cons_succ]) (hCont (gb114) _ ⟨hHeld, (bk BK101.out), (bk BK102.out), (bk BK103.out), (bk BK114.out), GW114.out, GE114.out, NB101_114.out, NB114_101.out, NB102_114.out, NB114_102.out, NB103_114.out, NB114_103.out, (bw HB.out)⟩)
        skip
        refine box_step ?hg (N := 8) ?hd (cs := #[.bool false, .int .u64 0, .int .u64 0]) (t := 74) ?hr ?_; (case hd => rfl); (case hg => rfl); (case hr => first | (go_simp; done) | (go_simp; rfl))
        intro gb114 hg w44 hbox hb
        have n0_ := ab hb BK101
        have n1_ := ab hb BK102
        have n2_ := ab hb BK103
        have n3_ := hs hb HB
        have n4_ := Aside0.mk (hbox)
        have n5_ := ag hg HB
        have n6_ := ag hg HB
        have n7_ := na hg BK101
        have n8_ := nb hg BK101
        have n9_ := na hg BK102
        have n10_ := nb hg BK102
        have n11_ := na hg BK103
        have n12_ := nb hg BK103
        clear BK101
        clear BK102
        clear BK103
        clear HB
        have BK101 := n0_
        have BK102 := n1_
        have BK103 := n2_
        have HB := n3_
        have BK114 := n4_
        have GW114 := n5_
        have GE114 := n6_
        have NB101_114 := n7_
        have NB114_101 := n8_
        have NB102_114 := n9_
        have NB114_102 := n10_
        have NB103_114 := n11_
        have NB114_103 := n12_
        clear n0_ n1_ n2_ n3_ n4_ n5_ n6_ n7_ n8_ n9_ n10_ n11_ n12_
        clear hb hbox hg
        refine hK.out _ _ ⟨c0 BK101.out, c1 BK101.out, c0 BK102.out, c1 BK102.out⟩ (fun hHeld => ?_)
        clear hK K
        refine norm_ (a' := ?_) ?_ ?_
        rotate_left
        · show Act.put _ (some 8) _ = _
          simp only [Act.put, List.setIfInBounds_toArray, List.set_cons_zero, List.set_cons_succ, i64_w, i32_w]
          rfl
        refine one_ (i := 4) (N := some 29) #[true, true, true, true, true, true, true, true, true, false, true, false, true, false] rfl rfl (one_of HT_.out (by kernel_rfl)) (by decide) (fun K hK => ?_)
        refine goes_ Tryd.func52 (by kernel_rfl) rfl #[.int .i64 a0_0, .int .i64 a1_1] (by rfl) rfl rfl (by (try simp only [List.map_toArray, List.map_cons, List.map_nil]); first | done | rfl | (simp only [List.length_drop, List.length_take]; rfl)) ?_
        with_reducible refine (surtitleref3_Times.calls a0_0 a1_1 t105 t106 t107 _ A34.out).mono ?_
        rintro e w45 ⟨rfl, hb⟩
        refine ⟨_, rfl, ?_⟩
        have n0_ := ab hb BK101
        have n1_ := ab hb BK102
        have n2_ := ab hb BK103
        have n3_ := ab hb BK114
        have n4_ := hs hb HB
        clear BK101
        clear BK102
        clear BK103
        clear BK114
        clear HB
        have BK101 := n0_
        have BK102 := n1_
        have BK103 := n2_
        have BK114 := n3_
        have HB := n4_
        clear n0_ n1_ n2_ n3_ n4_
        (try clear hb)
        (try clear hb2)
        (try clear hk)
        (try clear hi)
        refine hK.out _ _ ⟨c0 BK101.out, c1 BK101.out, c0 BK102.out, c1 BK102.out⟩ (fun hHeld => ?_)
        clear hK K
        refine norm_ (a' := ?_) ?_ ?_
        rotate_left
        · show Act.put _ (some 29) _ = _
          simp only [Act.put, List.setIfInBounds_toArray, List.set_cons_zero, List.set_cons_succ, i64_w, i32_w]
          rfl
        refine one_ (i := 9) (N := some 34) #[true, true, true, true, true, true, true, true, true, true, true, false, true, false] rfl rfl (one_of HT_.out (by kernel_rfl)) (by decide) (fun K hK => ?_)
        refine goes_ Tryd.func52 (by kernel_rfl) rfl #[.int .i64 a0_1, .int .i64 a1_0] (by rfl) rfl rfl (by (try simp only [List.map_toArray, List.map_cons, List.map_nil]); first | done | rfl | (simp only [List.length_drop, List.length_take]; rfl)) ?_
        with_reducible refine (surtitleref3_Times.calls a0_1 a1_0 t108 t109 t110 _ A35.out).mono ?_
        rintro e w46 ⟨rfl, hb⟩
        refine ⟨_, rfl, ?_⟩
        have n0_ := ab hb BK101
        have n1_ := ab hb BK102
        have n2_ := ab hb BK103
        have n3_ := ab hb BK114
        have n4_ := hs hb HB
        clear BK101
        clear BK102
        clear BK103
        clear BK114
        clear HB
        have BK101 := n0_
        have BK102 := n1_
        have BK103 := n2_
        have BK114 := n3_
        have HB := n4_
        clear n0_ n1_ n2_ n3_ n4_
        (try clear hb)
        (try clear hb2)
        (try clear hk)
        (try clear hi)
        refine hK.out _ _ ⟨c0 BK101.out, c1 BK101.out, c0 BK102.out, c1 BK102.out⟩ (fun hHeld => ?_)
        clear hK K
        refine norm_ (a' := ?_) ?_ ?_
        rotate_left
        · show Act.put _ (some 34) _ = _
          simp only [Act.put, List.setIfInBounds_toArray, List.set_cons_zero, List.set_cons_succ, i64_w, i32_w]
          rfl
        refine one_ (i := 11) (N := some 36) #[true, true, true, true, true, true, true, true, true, true, true, true, true, false] rfl rfl (one_of HT_.out (by kernel_rfl)) (by decide) (fun K hK => ?_)
        refine goes_ Tryd.func68 (by kernel_rfl) rfl #[.agg #[.bool t105, .int .u64 t106, .int .u64 t107], .agg #[.bool t108, .int .u64 t109, .int .u64 t110], .int .i64 a2] (by rfl) rfl rfl (by (try simp only [List.map_toArray, List.map_cons, List.map_nil]); first | done | rfl | (simp only [List.length_drop, List.length_take]; rfl)) ?_
        with_reducible refine (surtitleref3_whole.calls kj17 t105 t106 t107 t108 t109 t110 a2 t111 t112 t113 _ A36.out).mono ?_
        rintro e w47 ⟨rfl, hb⟩
        refine ⟨_, rfl, ?_⟩
        have n0_ := ab hb BK101
        have n1_ := ab hb BK102
        have n2_ := ab hb BK103
        have n3_ := ab hb BK114
        have n4_ := hs hb HB
        clear BK101
        clear BK102
        clear BK103
        clear BK114
        clear HB
        have BK101 := n0_
        have BK102 := n1_
        have BK103 := n2_
        have BK114 := n3_
        have HB := n4_
        clear n0_ n1_ n2_ n3_ n4_
        (try clear hb)
        (try clear hb2)
        (try clear hk)
        (try clear hi)
        refine hK.out _ _ ⟨c0 BK101.out, c1 BK101.out, c0 BK102.out, c1 BK102.out⟩ (fun hHeld => ?_)
        clear hK K
        refine norm_ (a' := ?_) ?_ ?_
        rotate_left
        · show Act.put _ (some 36) _ = _
          simp only [Act.put, List.setIfInBounds_toArray, List.set_cons_zero, List.set_cons_succ, i64_w, i32_w]
          rfl
        exact norm_ (by simp only [putAll, Act.put, List.setIfInBounds_toArray, List.set_cons_zero, List.set_cons_succ]) (hCont (gb114) _ ⟨hHeld, (bk BK101.out), (bk BK102.out), (bk BK103.out), (bk BK114.out), GW114.out, GE114.out, NB101_114.out, NB114_101.out, NB102_114.out, NB114_102.out, NB103_114.out, NB114_103.out, (bw HB.out)⟩)
      rintro gb114 w48 ⟨hS_, h0_, h1_, h2_, h3_, h4_, h5_, h6_, h7_, h8_, h9_, h10_, h11_, h12_⟩
      have n0_ : Aside0 (w48.heap[gb101]? = some (.cells #[.int .i64 a0_0, .int .i64 a0_1] 24 (0, 0))) := ⟨h0_⟩
      have n1_ : Aside0 (w48.heap[gb102]? = some (.cells #[.int .i64 a1_0, .int .i64 a1_1] 24 (0, 0))) := ⟨h1_⟩
      have n2_ : Aside0 (w48.heap[gb103]? = some (.cells #[.int .i64 0, .int .i64 0] 24 (0, 0))) := ⟨h2_⟩
      have n3_ : Aside0 (w48.heap[gb114]? = some (.cells #[.bool false, .int .u64 0, .int .u64 0] 74 (0, 0))) := ⟨h3_⟩
      have n4_ : Aside0 (w.heap.size ≤ gb114) := ⟨h4_⟩
      have n5_ : Aside0 (w.heap.size ≤ gb114) := ⟨h5_⟩
      have n6_ : Aside0 (gb101 ≠ gb114) := ⟨h6_⟩
      have n7_ : Aside0 (gb114 ≠ gb101) := ⟨h7_⟩
      have n8_ : Aside0 (gb102 ≠ gb114) := ⟨h8_⟩
      have n9_ : Aside0 (gb114 ≠ gb102) := ⟨h9_⟩
      have n10_ : Aside0 (gb103 ≠ gb114) := ⟨h10_⟩
      have n11_ : Aside0 (gb114 ≠ gb103) := ⟨h11_⟩
      have n12_ : Aside0 (Below w.heap.size w w48) := ⟨h12_⟩
      clear BK101
      clear BK102
      clear BK103
      clear HB
      clear h0_ h1_ h2_ h3_ h4_ h5_ h6_ h7_ h8_ h9_ h10_ h11_ h12_
      have BK101 := n0_
      have BK102 := n1_
      have BK103 := n2_
      have BK114 := n3_
      have GW114 := n4_
      have GE114 := n5_
      have NB101_114 := n6_
      have NB114_101 := n7_
      have NB102_114 := n8_
      have NB114_102 := n9_
      have NB103_114 := n10_
      have NB114_103 := n11_
      have HB := n12_
      clear n0_ n1_ n2_ n3_ n4_ n5_ n6_ n7_ n8_ n9_ n10_ n11_ n12_
      have hHeld : w48.cell? ⟨gb101, 0, none⟩ = some (.int .i64 a0_0) ∧ w48.cell? ⟨gb101, 1, none⟩ = some (.int .i64 a0_1) ∧ w48.cell? ⟨gb102, 0, none⟩ = some (.int .i64 a1_0) ∧ w48.cell? ⟨gb102, 1, none⟩ = some (.int .i64 a1_1) := hS_
      refine norm_ (a' := ?_) ?_ ?_
      rotate_left
      · simp only [putAll, Act.put, List.setIfInBounds_toArray, List.set_cons_zero, List.set_cons_succ]
        rfl
      refine one_ (i := 13) (N := none) #[true, true, true, true, true, true, true, true, true, true, true, true, true, true] rfl rfl (one_of HT_.out (by kernel_rfl)) (by decide) (fun K hK => ?_)
      have hs49 : w48.cell? ⟨gb114, 0, none⟩ = some (.bool false) := c0 BK114.out
      have hfs49 := blk_frozen BK114.out 0
      have hns49_0 := NB101_114.out
      have hns49_1 := NB102_114.out
      have hns49_2 := NB103_114.out
      have hms49_0 := NB114_101.out
      have hms49_1 := NB114_102.out
      have hms49_2 := NB114_103.out
      have hs50 : w48.cell? ⟨gb114, 1, none⟩ = some (.int .u64 0) := c1 BK114.out
      have hfs50 := blk_frozen BK114.out 1
      have hns50_0 := NB101_114.out
      have hns50_1 := NB102_114.out
      have hns50_2 := NB103_114.out
      have hms50_0 := NB114_101.out
      have hms50_1 := NB114_102.out
      have hms50_2 := NB114_103.out
      have hs51 : w48.cell? ⟨gb114, 2, none⟩ = some (.int .u64 0) := c2 BK114.out
      have hfs51 := blk_frozen BK114.out 2
      have hns51_0 := NB101_114.out
      have hns51_1 := NB102_114.out
      have hns51_2 := NB103_114.out
      have hms51_0 := NB114_101.out
      have hms51_1 := NB114_102.out
      have hms51_2 := NB114_103.out
      refine skip_ (w1 := ?_) (by rfl) rfl ?_ ?_
      rotate_left
      · go_simp
        rfl
      refine hK.out _ _ ⟨((cell_far (p := ⟨gb114, _, none⟩) NB101_114.out _).trans (((cell_far (p := ⟨gb114, _, none⟩) NB101_114.out _).trans (((cell_far (p := ⟨gb114, _, none⟩) NB101_114.out _).trans (hHeld.1)))))), ((cell_far (p := ⟨gb114, _, none⟩) NB101_114.out _).trans (((cell_far (p := ⟨gb114, _, none⟩) NB101_114.out _).trans (((cell_far (p := ⟨gb114, _, none⟩) NB101_114.out _).trans (hHeld.2.1)))))), ((cell_far (p := ⟨gb114, _, none⟩) NB102_114.out _).trans (((cell_far (p := ⟨gb114, _, none⟩) NB102_114.out _).trans (((cell_far (p := ⟨gb114, _, none⟩) NB102_114.out _).trans (hHeld.2.2.1)))))), ((cell_far (p := ⟨gb114, _, none⟩) NB102_114.out _).trans (((cell_far (p := ⟨gb114, _, none⟩) NB102_114.out _).trans (((cell_far (p := ⟨gb114, _, none⟩) NB102_114.out _).trans (hHeld.2.2.2))))))⟩ (fun hHeld => ?_)
      clear hK K
      refine done_ (done_of HT_.out (by kernel_rfl)) ?_
      have hnb52 := NB114_101.out
      have hnc52 := NB101_114.out
      have hnb53 := NB114_102.out
      have hnc53 := NB102_114.out
      have hnb54 := NB114_103.out
      have hnc54 := NB103_114.out
      obtain ⟨hcz55_0, hcz55_1, hcz55_2, hfz55_0, hfz55_1, hfz55_2⟩ := k3 BK114.out
      try go_wp2_with (first | ((with_reducible refine gate_callee (f := 69) rfl ?_); refine goesL_ (some 38) rfl rfl Tryd.func69 (by kernel_rfl) rfl #[.agg #[.bool t111, .int .u64 t112, .int .u64 t113]] rfl (by (try simp only [List.map_toArray, List.map_cons, List.map_nil]); first | done | rfl | (simp only [List.length_drop, List.length_take]; rfl)) ?_; (with_reducible refine (surtitleref3_fits.calls t111 t112 t113 true _ A37.out).mono ?_); rintro e w56 ⟨rfl, hb⟩; refine ⟨_, rfl, ?_⟩; have n0_ := ab hb BK101; have n1_ := ab hb BK102; have n2_ := ab hb BK103; have n3_ := Aside0.mk (blk_below (g := gb114) (o := .cells #[.bool t111, .int .u64 t112, .int .u64 t113] 74 (0, 0)) (by refine bk ?_; refine blk_put (cs := #[.bool t111, .int .u64 t112, .int .u64 0]) ?_ 2 _ rfl; refine bk ?_; refine blk_put (cs := #[.bool t111, .int .u64 0, .int .u64 0]) ?_ 1 _ rfl; refine bk ?_; refine blk_put (cs := #[.bool false, .int .u64 0, .int .u64 0]) ?_ 0 _ rfl; refine bk ?_; exact BK114.out) hb); have n4_ := hs hb HB; clear BK101; clear BK102; clear BK103; clear BK114; clear HB; have BK101 := n0_; have BK102 := n1_; have BK103 := n2_; have BK114 := n3_; have HB := n4_; clear n0_ n1_ n2_ n3_ n4_; (try clear hb); (try clear hb2); (try clear hk); (try clear hi)))
      have n0_ := Aside0.mk (blk_drew BK101.out)
      have n1_ := Aside0.mk (blk_drew BK102.out)
      have n2_ := Aside0.mk (blk_drew BK103.out)
      have n3_ := Aside0.mk (blk_drew BK114.out)
      have n4_ := Aside0.mk (below_drew1 HB.out)
      clear BK101
      clear BK102
      clear BK103
      clear BK114
      clear HB
      have BK101 := n0_
      have BK102 := n1_
      have BK103 := n2_
      have BK114 := n3_
      have HB := n4_
      clear n0_ n1_ n2_ n3_ n4_
      refine start_ (n := 13) (S := fun w' => w'.cell? ⟨gb114, 0, none⟩ = some (.bool t111) ∧ w'.cell? ⟨gb114, 1, none⟩ = some (.int .u64 t112) ∧ w'.cell? ⟨gb114, 2, none⟩ = some (.int .u64 t113) ∧ w'.cell? ⟨gb102, 0, none⟩ = some (.int .i64 a1_0) ∧ w'.cell? ⟨gb102, 1, none⟩ = some (.int .i64 a1_1)) (ds := []) #[false, false, false, false, false, false, false, false, false, false, false, false, false] (by kernel_rfl) rfl rfl ⟨c0 BK114.out, c1 BK114.out, c2 BK114.out, c0 BK102.out, c1 BK102.out⟩ (fun hHeld => ?_); refine with_tabW surtitleref3_Snap.tab10 surtitleref3_Snap.bits10 (fun HT_ HW_ => ?_)
      generalize w56.drew = w57 at BK101 BK102 BK103 BK114 HB hHeld ⊢
      refine pure_ (i := 2) (N := some 43) (v := ?_) (a' := ?_) #[false, false, true, false, false, false, false, false, false, false, false, false, false] rfl rfl (any_of HT_.out (by kernel_rfl)) (fun _ _ _ h => h) (Or.inl ⟨by rfl, ?_⟩) ?_ ?_
      rotate_left
      · intro w'
        go_simp
        with_reducible rfl
      rotate_left
      · simp only [Act.put, List.setIfInBounds_toArray, List.set_cons_zero, List.set_cons_succ, i64_w, i32_w]
        rfl
      refine pure_ (i := 5) (N := some 46) (v := ?_) (a' := ?_) #[false, false, true, false, false, true, false, false, false, false, false, false, false] rfl rfl (any_of HT_.out (by kernel_rfl)) (fun _ _ _ h => h) (Or.inl ⟨by rfl, ?_⟩) ?_ ?_
      rotate_left
      · intro w'
        go_simp
        with_reducible rfl
      rotate_left
      · simp only [Act.put, List.setIfInBounds_toArray, List.set_cons_zero, List.set_cons_succ, i64_w, i32_w]
        rfl
      refine take_ (i := 0) (N := some 41) (v := ?_) (a' := ?_) #[true, false, true, false, false, true, false, false, false, false, false, false, false] rfl rfl (take_ofW HT_.out HW_.out (by kernel_rfl)) (fun _ _ _ h => h) (Or.inl ⟨by rfl, ?_⟩) hHeld ?_ ?_
      rotate_left
      · rintro w' ⟨s0, s1, s2, s3, s4⟩
        go_simp
        with_reducible rfl
      rotate_left
      · simp only [Act.put, List.setIfInBounds_toArray, List.set_cons_zero, List.set_cons_succ, i64_w, i32_w]
        rfl
      refine take_ (i := 3) (N := some 44) (v := ?_) (a' := ?_) #[true, false, true, true, false, true, false, false, false, false, false, false, false] rfl rfl (take_ofW HT_.out HW_.out (by kernel_rfl)) (fun _ _ _ h => h) (Or.inl ⟨by rfl, ?_⟩) hHeld ?_ ?_
      rotate_left
      · rintro w' ⟨s0, s1, s2, s3, s4⟩
        go_simp
        with_reducible rfl
      rotate_left
      · simp only [Act.put, List.setIfInBounds_toArray, List.set_cons_zero, List.set_cons_succ, i64_w, i32_w]
        rfl
      refine take_ (i := 6) (N := some 47) (v := ?_) (a' := ?_) #[true, false, true, true, false, true, true, false, false, false, false, false, false] rfl rfl (take_ofW HT_.out HW_.out (by kernel_rfl)) (fun _ _ _ h => h) (Or.inl ⟨by rfl, ?_⟩) hHeld ?_ ?_
      rotate_left
      · rintro w' ⟨s0, s1, s2, s3, s4⟩
        go_simp
        with_reducible rfl
      rotate_left
      · simp only [Act.put, List.setIfInBounds_toArray, List.set_cons_zero, List.set_cons_succ, i64_w, i32_w]
        rfl
      refine one_ (i := 1) (N := some 42) #[true, true, true, true, false, true, true, false, false, false, false, false, false] rfl rfl (one_of HT_.out (by kernel_rfl)) (by decide) (fun K hK => ?_)
      refine goes_ Tryd.func70 (by kernel_rfl) rfl #[.agg #[.bool t111, .int .u64 t112, .int .u64 t113]] (by rfl) rfl rfl (by (try simp only [List.map_toArray, List.map_cons, List.map_nil]); first | done | rfl | (simp only [List.length_drop, List.length_take]; rfl)) ?_
      with_reducible refine (surtitleref3_number.calls t111 t112 t113 t116 _ A39.out).mono ?_
      rintro e w58 ⟨rfl, hb⟩
      refine ⟨_, rfl, ?_⟩
      have n0_ := ab hb BK101
      have n1_ := ab hb BK102
      have n2_ := ab hb BK103
      have n3_ := ab hb BK114
      have n4_ := hs hb HB
      clear BK101
      clear BK102
      clear BK103
      clear BK114
      clear HB
      have BK101 := n0_
      have BK102 := n1_
      have BK103 := n2_
      have BK114 := n3_
      have HB := n4_
      clear n0_ n1_ n2_ n3_ n4_
      (try clear hb)
      (try clear hb2)
      (try clear hk)
      (try clear hi)
      refine hK.out _ _ ⟨c0 BK114.out, c1 BK114.out, c2 BK114.out, c0 BK102.out, c1 BK102.out⟩ (fun hHeld => ?_)
      clear hK K
      refine norm_ (a' := ?_) ?_ ?_
      rotate_left
      · show Act.put _ (some 42) _ = _
        simp only [Act.put, List.setIfInBounds_toArray, List.set_cons_zero, List.set_cons_succ, i64_w, i32_w]
        rfl
      refine one_ (i := 4) (N := some 45) #[true, true, true, true, true, true, true, false, false, false, false, false, false] rfl rfl (one_of HT_.out (by kernel_rfl)) (by decide) (fun K hK => ?_)
      refine goes_ Tryd.func52 (by kernel_rfl) rfl #[.int .i64 t116, .int .i64 a1_0] (by rfl) rfl rfl (by (try simp only [List.map_toArray, List.map_cons, List.map_nil]); first | done | rfl | (simp only [List.length_drop, List.length_take]; rfl)) ?_
      with_reducible refine (surtitleref3_Times.calls t116 a1_0 t117 t118 t119 _ A40.out).mono ?_
      rintro e w59 ⟨rfl, hb⟩
      refine ⟨_, rfl, ?_⟩
      have n0_ := ab hb BK101
      have n1_ := ab hb BK102
      have n2_ := ab hb BK103
      have n3_ := ab hb BK114
      have n4_ := hs hb HB
      clear BK101
      clear BK102
      clear BK103
      clear BK114
      clear HB
      have BK101 := n0_
      have BK102 := n1_
      have BK103 := n2_
      have BK114 := n3_
      have HB := n4_
      clear n0_ n1_ n2_ n3_ n4_
      (try clear hb)
      (try clear hb2)
      (try clear hk)
      (try clear hi)
      refine hK.out _ _ ⟨c0 BK114.out, c1 BK114.out, c2 BK114.out, c0 BK102.out, c1 BK102.out⟩ (fun hHeld => ?_)
      clear hK K
      refine norm_ (a' := ?_) ?_ ?_
      rotate_left
      · show Act.put _ (some 45) _ = _
        simp only [Act.put, List.setIfInBounds_toArray, List.set_cons_zero, List.set_cons_succ, i64_w, i32_w]
        rfl
      refine one_ (i := 7) (N := some 48) #[true, true, true, true, true, true, true, true, false, false, false, false, false] rfl rfl (one_of HT_.out (by kernel_rfl)) (by decide) (fun K hK => ?_)
      refine goes_ Tryd.func52 (by kernel_rfl) rfl #[.int .i64 a1_1, .int .i64 1] (by rfl) rfl rfl (by (try simp only [List.map_toArray, List.map_cons, List.map_nil]); first | done | rfl | (simp only [List.length_drop, List.length_take]; rfl)) ?_
      with_reducible refine (surtitleref3_Times.calls a1_1 1 t120 t121 t122 _ A41.out).mono ?_
      rintro e w60 ⟨rfl, hb⟩
      refine ⟨_, rfl, ?_⟩
      have n0_ := ab hb BK101
      have n1_ := ab hb BK102
      have n2_ := ab hb BK103
      have n3_ := ab hb BK114
      have n4_ := hs hb HB
      clear BK101
      clear BK102
      clear BK103
      clear BK114
      clear HB
      have BK101 := n0_
      have BK102 := n1_
      have BK103 := n2_
      have BK114 := n3_
      have HB := n4_
      clear n0_ n1_ n2_ n3_ n4_
      (try clear hb)
      (try clear hb2)
      (try clear hk)
      (try clear hi)
      refine hK.out _ _ ⟨c0 BK114.out, c1 BK114.out, c2 BK114.out, c0 BK102.out, c1 BK102.out⟩ (fun hHeld => ?_)
      clear hK K
      refine norm_ (a' := ?_) ?_ ?_
      rotate_left
      · show Act.put _ (some 48) _ = _
        simp only [Act.put, List.setIfInBounds_toArray, List.set_cons_zero, List.set_cons_succ, i64_w, i32_w]
        rfl
      refine one_ (i := 8) (N := some 49) #[true, true, true, true, true, true, true, true, true, false, false, false, false] rfl rfl (one_of HT_.out (by kernel_rfl)) (by decide) (fun K hK => ?_)
      refine goes_ Tryd.func53 (by kernel_rfl) rfl #[.agg #[.bool t117, .int .u64 t118, .int .u64 t119], .agg #[.bool t120, .int .u64 t121, .int .u64 t122]] (by rfl) rfl rfl (by (try simp only [List.map_toArray, List.map_cons, List.map_nil]); first | done | rfl | (simp only [List.length_drop, List.length_take]; rfl)) ?_
      with_reducible refine (surtitleref3_lowest.calls t117 t118 t119 t120 t121 t122 t123 t124 t125 _ A42.out).mono ?_
      rintro e w61 ⟨rfl, hb⟩
      refine ⟨_, rfl, ?_⟩
      have n0_ := ab hb BK101
      have n1_ := ab hb BK102
      have n2_ := ab hb BK103
      have n3_ := ab hb BK114
      have n4_ := hs hb HB
      clear BK101
      clear BK102
      clear BK103
      clear BK114
      clear HB
      have BK101 := n0_
      have BK102 := n1_
      have BK103 := n2_
      have BK114 := n3_
      have HB := n4_
      clear n0_ n1_ n2_ n3_ n4_
      (try clear hb)
      (try clear hb2)
      (try clear hk)
      (try clear hi)
      refine hK.out _ _ ⟨c0 BK114.out, c1 BK114.out, c2 BK114.out, c0 BK102.out, c1 BK102.out⟩ (fun hHeld => ?_)
      clear hK K
      refine norm_ (a' := ?_) ?_ ?_
      rotate_left
      · show Act.put _ (some 49) _ = _
        simp only [Act.put, List.setIfInBounds_toArray, List.set_cons_zero, List.set_cons_succ, i64_w, i32_w]
        rfl
      refine pure_ (i := 9) (N := some 50) (v := ?_) (a' := ?_) #[true, true, true, true, true, true, true, true, true, true, false, false, false] rfl rfl (any_of HT_.out (by kernel_rfl)) (fun _ _ _ h => h) (Or.inl ⟨by rfl, ?_⟩) ?_ ?_
      rotate_left
      · intro w'
        go_simp
        with_reducible rfl
      rotate_left
      · simp only [Act.put, List.setIfInBounds_toArray, List.set_cons_zero, List.set_cons_succ, i64_w, i32_w]
        rfl
      refine pure_ (i := 10) (N := some 51) (v := ?_) (a' := ?_) #[true, true, true, true, true, true, true, true, true, true, true, false, false] rfl rfl (any_of HT_.out (by kernel_rfl)) (fun _ _ _ h => h) (Or.inl ⟨by rfl, ?_⟩) ?_ ?_
      rotate_left
      · intro w'
        go_simp
        with_reducible rfl
      rotate_left
      · simp only [Act.put, List.setIfInBounds_toArray, List.set_cons_zero, List.set_cons_succ, i64_w, i32_w]
        rfl
      refine one_ (i := 11) (N := none) #[true, true, true, true, true, true, true, true, true, true, true, true, false] rfl rfl (one_of HT_.out (by kernel_rfl)) (by decide) (fun K hK => ?_)
      have hs62 : w61.cell? ⟨gb103, 0, none⟩ = some (.int .i64 0) := c0 BK103.out
      have hfs62 := blk_frozen BK103.out 0
      have hns62_0 := NB101_103.out
      have hns62_1 := NB102_103.out
      have hns62_3 := NB114_103.out
      have hms62_0 := NB103_101.out
      have hms62_1 := NB103_102.out
      have hms62_3 := NB103_114.out
      have hs63 : w61.cell? ⟨gb103, 1, none⟩ = some (.int .i64 0) := c1 BK103.out
      have hfs63 := blk_frozen BK103.out 1
      have hns63_0 := NB101_103.out
      have hns63_1 := NB102_103.out
      have hns63_3 := NB114_103.out
      have hms63_0 := NB103_101.out
      have hms63_1 := NB103_102.out
      have hms63_3 := NB103_114.out
      refine skip_ (w1 := ?_) (by rfl) rfl ?_ ?_
      rotate_left
      · go_simp
        rfl
      refine hK.out _ _ ⟨((cell_far (p := ⟨gb103, _, none⟩) NB114_103.out _).trans (((cell_far (p := ⟨gb103, _, none⟩) NB114_103.out _).trans (hHeld.1)))), ((cell_far (p := ⟨gb103, _, none⟩) NB114_103.out _).trans (((cell_far (p := ⟨gb103, _, none⟩) NB114_103.out _).trans (hHeld.2.1)))), ((cell_far (p := ⟨gb103, _, none⟩) NB114_103.out _).trans (((cell_far (p := ⟨gb103, _, none⟩) NB114_103.out _).trans (hHeld.2.2.1)))), ((cell_far (p := ⟨gb103, _, none⟩) NB102_103.out _).trans (((cell_far (p := ⟨gb103, _, none⟩) NB102_103.out _).trans (hHeld.2.2.2.1)))), ((cell_far (p := ⟨gb103, _, none⟩) NB102_103.out _).trans (((cell_far (p := ⟨gb103, _, none⟩) NB102_103.out _).trans (hHeld.2.2.2.2))))⟩ (fun hHeld => ?_)
      clear hK K
      refine pure_ (i := 12) (N := some 7) (v := ?_) (a' := ?_) #[true, true, true, true, true, true, true, true, true, true, true, true, true] rfl rfl (any_of HT_.out (by kernel_rfl)) (fun _ _ _ h => h) (Or.inl ⟨by rfl, ?_⟩) ?_ ?_
      rotate_left
      · intro w'
        go_simp
        with_reducible rfl
      rotate_left
      · simp only [Act.put, List.setIfInBounds_toArray, List.set_cons_zero, List.set_cons_succ, i64_w, i32_w]
        rfl
      refine done_ (done_of HT_.out (by kernel_rfl)) ?_
      try go_wp2
      refine bodyPost_ret (results_ct rfl _ _ gb103 24 #[.int .i64 t123, .int .i64 t124] (0, 0) _ rfl (by refine bk ?_; refine blk_put (cs := #[.int .i64 t123, .int .i64 0]) ?_ 1 _ rfl; refine bk ?_; refine blk_put (cs := #[.int .i64 0, .int .i64 0]) ?_ 0 _ rfl; refine bk ?_; exact BK103.out) Tryd.underlying24 rfl (by kernel_rfl)) rfl ?_
      exact ⟨by first | rfl | (simp [errW_none, errW_some] <;> rfl) | (simp [*, errW_none, errW_some] <;> rfl), by repeat (first | (with_reducible first | exact HB.out | apply below_alloc | apply pw_below_drewN | apply below_drew1 | refine below_set ?_ GE101.out | refine below_set ?_ GE102.out | refine below_set ?_ GE103.out | refine below_set ?_ GE114.out) | exact HB.out)⟩
    replace c38 := Bool.eq_false_iff.mpr c38
    subst c38
    have H1 : (some (0, 0, 12)) = some (r1, r2, r3) := by rw [if_neg (show ¬ (false = true) by decide)] at H; exact H
    clear H
    have H := H1
    clear H1
    simp only [Option.some.injEq, Prod.mk.injEq] at H
    obtain ⟨rfl, rfl, rfl⟩ := H
    try go_wp2
    have n0_ := Aside0.mk (blk_drew BK101.out)
    have n1_ := Aside0.mk (blk_drew BK102.out)
    have n2_ := Aside0.mk (blk_drew BK103.out)
    have n3_ := Aside0.mk (below_drew1 HB.out)
    clear BK101
    clear BK102
    clear BK103
    clear HB
    have BK101 := n0_
    have BK102 := n1_
    have BK103 := n2_
    have HB := n3_
    clear n0_ n1_ n2_ n3_
    refine start_ (n := 14) (S := fun w' => w'.cell? ⟨gb101, 0, none⟩ = some (.int .i64 a0_0) ∧ w'.cell? ⟨gb101, 1, none⟩ = some (.int .i64 a0_1) ∧ w'.cell? ⟨gb102, 0, none⟩ = some (.int .i64 a1_0) ∧ w'.cell? ⟨gb102, 1, none⟩ = some (.int .i64 a1_1)) (ds := []) #[false, false, false, false, false, false, false, false, false, false, false, false, false, false] (by kernel_rfl) rfl rfl ⟨c0 BK101.out, c1 BK101.out, c0 BK102.out, c1 BK102.out⟩ (fun hHeld => ?_); refine with_tabW surtitleref3_Snap.tab7 surtitleref3_Snap.bits7 (fun HT_ HW_ => ?_)
    generalize wc.drew = w64 at BK101 BK102 BK103 HB hHeld ⊢
    refine pure_ (i := 0) (N := some 25) (v := ?_) (a' := ?_) #[true, false, false, false, false, false, false, false, false, false, false, false, false, false] rfl rfl (any_of HT_.out (by kernel_rfl)) (fun _ _ _ h => h) (Or.inl ⟨by rfl, ?_⟩) ?_ ?_
    rotate_left
    · intro w'
      go_simp
      with_reducible rfl
    rotate_left
    · simp only [Act.put, List.setIfInBounds_toArray, List.set_cons_zero, List.set_cons_succ, i64_w, i32_w]
      rfl
    refine pure_ (i := 2) (N := some 27) (v := ?_) (a' := ?_) #[true, false, true, false, false, false, false, false, false, false, false, false, false, false] rfl rfl (any_of HT_.out (by kernel_rfl)) (fun _ _ _ h => h) (Or.inl ⟨by rfl, ?_⟩) ?_ ?_
    rotate_left
    · intro w'
      go_simp
      with_reducible rfl
    rotate_left
    · simp only [Act.put, List.setIfInBounds_toArray, List.set_cons_zero, List.set_cons_succ, i64_w, i32_w]
      rfl
    refine pure_ (i := 5) (N := some 30) (v := ?_) (a' := ?_) #[true, false, true, false, false, true, false, false, false, false, false, false, false, false] rfl rfl (any_of HT_.out (by kernel_rfl)) (fun _ _ _ h => h) (Or.inl ⟨by rfl, ?_⟩) ?_ ?_
    rotate_left
    · intro w'
      go_simp
      with_reducible rfl
    rotate_left
    · simp only [Act.put, List.setIfInBounds_toArray, List.set_cons_zero, List.set_cons_succ, i64_w, i32_w]
      rfl
    refine pure_ (i := 7) (N := some 32) (v := ?_) (a' := ?_) #[true, false, true, false, false, true, false, true, false, false, false, false, false, false] rfl rfl (any_of HT_.out (by kernel_rfl)) (fun _ _ _ h => h) (Or.inl ⟨by rfl, ?_⟩) ?_ ?_
    rotate_left
    · intro w'
      go_simp
      with_reducible rfl
    rotate_left
    · simp only [Act.put, List.setIfInBounds_toArray, List.set_cons_zero, List.set_cons_succ, i64_w, i32_w]
      rfl
    refine pure_ (i := 10) (N := some 35) (v := ?_) (a' := ?_) #[true, false, true, false, false, true, false, true, false, false, true, false, false, false] rfl rfl (any_of HT_.out (by kernel_rfl)) (fun _ _ _ h => h) (Or.inl ⟨by rfl, ?_⟩) ?_ ?_
    rotate_left
    · intro w'
      go_simp
      with_reducible rfl
    rotate_left
    · simp only [Act.put, List.setIfInBounds_toArray, List.set_cons_zero, List.set_cons_succ, i64_w, i32_w]
      rfl
    refine take_ (i := 1) (N := some 26) (v := ?_) (a' := ?_) #[true, true, true, false, false, true, false, true, false, false, true, false, false, false] rfl rfl (take_ofW HT_.out HW_.out (by kernel_rfl)) (fun _ _ _ h => h) (Or.inl ⟨by rfl, ?_⟩) hHeld ?_ ?_
    rotate_left
    · rintro w' ⟨s0, s1, s2, s3⟩
      go_simp
      with_reducible rfl
    rotate_left
    · simp only [Act.put, List.setIfInBounds_toArray, List.set_cons_zero, List.set_cons_succ, i64_w, i32_w]
      rfl
    refine take_ (i := 3) (N := some 28) (v := ?_) (a' := ?_) #[true, true, true, true, false, true, false, true, false, false, true, false, false, false] rfl rfl (take_ofW HT_.out HW_.out (by kernel_rfl)) (fun _ _ _ h => h) (Or.inl ⟨by rfl, ?_⟩) hHeld ?_ ?_
    rotate_left
    · rintro w' ⟨s0, s1, s2, s3⟩
      go_simp
      with_reducible rfl
    rotate_left
    · simp only [Act.put, List.setIfInBounds_toArray, List.set_cons_zero, List.set_cons_succ, i64_w, i32_w]
      rfl
    refine take_ (i := 6) (N := some 31) (v := ?_) (a' := ?_) #[true, true, true, true, false, true, true, true, false, false, true, false, false, false] rfl rfl (take_ofW HT_.out HW_.out (by kernel_rfl)) (fun _ _ _ h => h) (Or.inl ⟨by rfl, ?_⟩) hHeld ?_ ?_
    rotate_left
    · rintro w' ⟨s0, s1, s2, s3⟩
      go_simp
      with_reducible rfl
    rotate_left
    · simp only [Act.put, List.setIfInBounds_toArray, List.set_cons_zero, List.set_cons_succ, i64_w, i32_w]
      rfl
    refine take_ (i := 8) (N := some 33) (v := ?_) (a' := ?_) #[true, true, true, true, false, true, true, true, true, false, true, false, false, false] rfl rfl (take_ofW HT_.out HW_.out (by kernel_rfl)) (fun _ _ _ h => h) (Or.inl ⟨by rfl, ?_⟩) hHeld ?_ ?_
    rotate_left
    · rintro w' ⟨s0, s1, s2, s3⟩
      go_simp
      with_reducible rfl
    rotate_left
    · simp only [Act.put, List.setIfInBounds_toArray, List.set_cons_zero, List.set_cons_succ, i64_w, i32_w]
      rfl
    refine join_ (σ := Nat) 1 #[true, true, true, true, true, true, true, true, true, true, true, true, true, false] (fun s_ => [(29, .agg #[.bool t105, .int .u64 t106, .int .u64 t107]), (34, .agg #[.bool t108, .int .u64 t109, .int .u64 t110]), (36, .agg #[.bool t111, .int .u64 t112, .int .u64 t113]), (8, .pointer (some ⟨s_, 0, none⟩))]) (fun s_ w' => (w'.cell? ⟨gb101, 0, none⟩ = some (.int .i64 a0_0) ∧ w'.cell? ⟨gb101, 1, none⟩ = some (.int .i64 a0_1) ∧ w'.cell? ⟨gb102, 0, none⟩ = some (.int .i64 a1_0) ∧ w'.cell? ⟨gb102, 1, none⟩ = some (.int .i64 a1_1)) ∧ (w'.heap[gb101]? = some (.cells #[.int .i64 a0_0, .int .i64 a0_1] 24 (0, 0))) ∧ (w'.heap[gb102]? = some (.cells #[.int .i64 a1_0, .int .i64 a1_1] 24 (0, 0))) ∧ (w'.heap[gb103]? = some (.cells #[.int .i64 0, .int .i64 0] 24 (0, 0))) ∧ (w'.heap[s_]? = some (.cells #[.bool false, .int .u64 0, .int .u64 0] 74 (0, 0))) ∧ (w.heap.size ≤ s_) ∧ (w.heap.size ≤ s_) ∧ (gb101 ≠ s_) ∧ (s_ ≠ gb101) ∧ (gb102 ≠ s_) ∧ (s_ ≠ gb102) ∧ (gb103 ≠ s_) ∧ (s_ ≠ gb103) ∧ (Below w.heap.size w w')) ?_ ?_
    rotate_left
    · intro hCont
      refine two_ (i := 4) (j := 12) (Ni := some 29) (Nj := some 8) #[true, true, true, true, true, true, true, true, true, false, true, false, false, false] #[true, true, true, true, false, true, true, true, true, false, true, false, true, false] rfl rfl rfl rfl (two_of HT_.out (by kernel_rfl)) (by decide) (by decide) (fun K hK => ?_) (fun K hK => ?_)
      · skip
        refine goes_ Tryd.func52 (by kernel_rfl) rfl #[.int .i64 a0_0, .int .i64 a1_1] (by rfl) rfl rfl (by (try simp only [List.map_toArray, List.map_cons, List.map_nil]); first | done | rfl | (simp only [List.length_drop, List.length_take]; rfl)) ?_
        with_reducible refine (surtitleref3_Times.calls a0_0 a1_1 t105 t106 t107 _ A34.out).mono ?_
        rintro e w65 ⟨rfl, hb⟩
        refine ⟨_, rfl, ?_⟩
        have n0_ := ab hb BK101
        have n1_ := ab hb BK102
        have n2_ := ab hb BK103
        have n3_ := hs hb HB
        clear BK101
        clear BK102
        clear BK103
        clear HB
        have BK101 := n0_
        have BK102 := n1_
        have BK103 := n2_
        have HB := n3_
        clear n0_ n1_ n2_ n3_
        (try clear hb)
        (try clear hb2)
        (try clear hk)
        (try clear hi)
        refine hK.out _ _ ⟨c0 BK101.out, c1 BK101.out, c0 BK102.out, c1 BK102.out⟩ (fun hHeld => ?_)
        clear hK K
        refine norm_ (a' := ?_) ?_ ?_
        rotate_left
        · show Act.put _ (some 29) _ = _
          simp only [Act.put, List.setIfInBounds_toArray, List.set_cons_zero, List.set_cons_succ, i64_w, i32_w]
          rfl
        refine two_ (i := 9) (j := 12) (Ni := some 34) (Nj := some 8) #[true, true, true, true, true, true, true, true, true, true, true, false, false, false] #[true, true, true, true, true, true, true, true, true, false, true, false, true, false] rfl rfl rfl rfl (two_of HT_.out (by kernel_rfl)) (by decide) (by decide) (fun K hK => ?_) (fun K hK => ?_)
        · skip
          refine goes_ Tryd.func52 (by kernel_rfl) rfl #[.int .i64 a0_1, .int .i64 a1_0] (by rfl) rfl rfl (by (try simp only [List.map_toArray, List.map_cons, List.map_nil]); first | done | rfl | (simp only [List.length_drop, List.length_take]; rfl)) ?_
          with_reducible refine (surtitleref3_Times.calls a0_1 a1_0 t108 t109 t110 _ A35.out).mono ?_
          rintro e w66 ⟨rfl, hb⟩
          refine ⟨_, rfl, ?_⟩
          have n0_ := ab hb BK101
          have n1_ := ab hb BK102
          have n2_ := ab hb BK103
          have n3_ := hs hb HB
          clear BK101
          clear BK102
          clear BK103
          clear HB
          have BK101 := n0_
          have BK102 := n1_
          have BK103 := n2_
          have HB := n3_
          clear n0_ n1_ n2_ n3_
          (try clear hb)
          (try clear hb2)
          (try clear hk)
          (try clear hi)
          refine hK.out _ _ ⟨c0 BK101.out, c1 BK101.out, c0 BK102.out, c1 BK102.out⟩ (fun hHeld => ?_)
          clear hK K
          refine norm_ (a' := ?_) ?_ ?_
          rotate_left
          · show Act.put _ (some 34) _ = _
            simp only [Act.put, List.setIfInBounds_toArray, List.set_cons_zero, List.set_cons_succ, i64_w, i32_w]
            rfl
          refine two_ (i := 11) (j := 12) (Ni := some 36) (Nj := some 8) #[true, true, true, true, true, true, true, true, true, true, true, true, false, false] #[true, true, true, true, true, true, true, true, true, true, true, false, true, false] rfl rfl rfl rfl (two_of HT_.out (by kernel_rfl)) (by decide) (by decide) (fun K hK => ?_) (fun K hK => ?_)
          · skip
            refine goes_ Tryd.func68 (by kernel_rfl) rfl #[.agg #[.bool t105, .int .u64 t106, .int .u64 t107], .agg #[.bool t108, .int .u64 t109, .int .u64 t110], .int .i64 a2] (by rfl) rfl rfl (by (try simp only [List.map_toArray, List.map_cons, List.map_nil]); first | done | rfl | (simp only [List.length_drop, List.length_take]; rfl)) ?_
            with_reducible refine (surtitleref3_whole.calls kj17 t105 t106 t107 t108 t109 t110 a2 t111 t112 t113 _ A36.out).mono ?_
            rintro e w67 ⟨rfl, hb⟩
            refine ⟨_, rfl, ?_⟩
            have n0_ := ab hb BK101
            have n1_ := ab hb BK102
            have n2_ := ab hb BK103
            have n3_ := hs hb HB
            clear BK101
            clear BK102
            clear BK103
            clear HB
            have BK101 := n0_
            have BK102 := n1_
            have BK103 := n2_
            have HB := n3_
            clear n0_ n1_ n2_ n3_
            (try clear hb)
            (try clear hb2)
            (try clear hk)
            (try clear hi)
            refine hK.out _ _ ⟨c0 BK101.out, c1 BK101.out, c0 BK102.out, c1 BK102.out⟩ (fun hHeld => ?_)
            clear hK K
            refine norm_ (a' := ?_) ?_ ?_
            rotate_left
            · show Act.put _ (some 36) _ = _
              simp only [Act.put, List.setIfInBounds_toArray, List.set_cons_zero, List.set_cons_succ, i64_w, i32_w]
              rfl
            refine one_ (i := 12) (N := some 8) #[true, true, true, true, true, true, true, true, true, true, true, true, true, false] rfl rfl (one_of HT_.out (by kernel_rfl)) (by decide) (fun K hK => ?_)
            refine box_step ?hg (N := 8) ?hd (cs := #[.bool false, .int .u64 0, .int .u64 0]) (t := 74) ?hr ?_; (case hd => rfl); (case hg => rfl); (case hr => first | (go_simp; done) | (go_simp; rfl))
            intro gb114 hg w68 hbox hb
            have n0_ := ab hb BK101
            have n1_ := ab hb BK102
            have n2_ := ab hb BK103
            have n3_ := hs hb HB
            have n4_ := Aside0.mk (hbox)
            have n5_ := ag hg HB
            have n6_ := ag hg HB
            have n7_ := na hg BK101
            have n8_ := nb hg BK101
            have n9_ := na hg BK102
            have n10_ := nb hg BK102
            have n11_ := na hg BK103
            have n12_ := nb hg BK103
            clear BK101
            clear BK102
            clear BK103
            clear HB
            have BK101 := n0_
            have BK102 := n1_
            have BK103 := n2_
            have HB := n3_
            have BK114 := n4_
            have GW114 := n5_
            have GE114 := n6_
            have NB101_114 := n7_
            have NB114_101 := n8_
            have NB102_114 := n9_
            have NB114_102 := n10_
            have NB103_114 := n11_
            have NB114_103 := n12_
            clear n0_ n1_ n2_ n3_ n4_ n5_ n6_ n7_ n8_ n9_ n10_ n11_ n12_
            clear hb hbox hg
            refine hK.out _ _ ⟨c0 BK101.out, c1 BK101.out, c0 BK102.out, c1 BK102.out⟩ (fun hHeld => ?_)
            clear hK K
            refine norm_ (a' := ?_) ?_ ?_
            rotate_left
            · show Act.put _ (some 8) _ = _
              simp only [Act.put, List.setIfInBounds_toArray, List.set_cons_zero, List.set_cons_succ, i64_w, i32_w]
              rfl
            exact norm_ (by simp only [putAll, Act.put, List.setIfInBounds_toArray, List.set_cons_zero, List.set_cons_succ]) (hCont (gb114) _ ⟨hHeld, (bk BK101.out), (bk BK102.out), (bk BK103.out), (bk BK114.out), GW114.out, GE114.out, NB101_114.out, NB114_101.out, NB102_114.out, NB114_102.out, NB103_114.out, NB114_103.out, (bw HB.out)⟩)
          skip
          refine box_step ?hg (N := 8) ?hd (cs := #[.bool false, .int .u64 0, .int .u64 0]) (t := 74) ?hr ?_; (case hd => rfl); (case hg => rfl); (case hr => first | (go_simp; done) | (go_simp; rfl))
          intro gb114 hg w67 hbox hb
          have n0_ := ab hb BK101
          have n1_ := ab hb BK102
          have n2_ := ab hb BK103
          have n3_ := hs hb HB
          have n4_ := Aside0.mk (hbox)
          have n5_ := ag hg HB
          have n6_ := ag hg HB
          have n7_ := na hg BK101
          have n8_ := nb hg BK101
          have n9_ := na hg BK102
          have n10_ := nb hg BK102
          have n11_ := na hg BK103
          have n12_ := nb hg BK103
          clear BK101
          clear BK102
          clear BK103
          clear HB
          have BK101 := n0_
          have BK102 := n1_
          have BK103 := n2_
          have HB := n3_
          have BK114 := n4_
          have GW114 := n5_
          have GE114 := n6_
          have NB101_114 := n7_
          have NB114_101 := n8_
          have NB102_114 := n9_
          have NB114_102 := n10_
          have NB103_114 := n11_
          have NB114_103 := n12_
          clear n0_ n1_ n2_ n3_ n4_ n5_ n6_ n7_ n8_ n9_ n10_ n11_ n12_
          clear hb hbox hg
          refine hK.out _ _ ⟨c0 BK101.out, c1 BK101.out, c0 BK102.out, c1 BK102.out⟩ (fun hHeld => ?_)
          clear hK K
          refine norm_ (a' := ?_) ?_ ?_
          rotate_left
          · show Act.put _ (some 8) _ = _
            simp only [Act.put, List.setIfInBounds_toArray, List.set_cons_zero, List.set_cons_succ, i64_w, i32_w]
            rfl
          refine one_ (i := 11) (N := some 36) #[true, true, true, true, true, true, true, true, true, true, true, true, true, false] rfl rfl (one_of HT_.out (by kernel_rfl)) (by decide) (fun K hK => ?_)
          refine goes_ Tryd.func68 (by kernel_rfl) rfl #[.agg #[.bool t105, .int .u64 t106, .int .u64 t107], .agg #[.bool t108, .int .u64 t109, .int .u64 t110], .int .i64 a2] (by rfl) rfl rfl (by (try simp only [List.map_toArray, List.map_cons, List.map_nil]); first | done | rfl | (simp only [List.length_drop, List.length_take]; rfl)) ?_
          with_reducible refine (surtitleref3_whole.calls kj17 t105 t106 t107 t108 t109 t110 a2 t111 t112 t113 _ A36.out).mono ?_
          rintro e w68 ⟨rfl, hb⟩
          refine ⟨_, rfl, ?_⟩
          have n0_ := ab hb BK101
          have n1_ := ab hb BK102
          have n2_ := ab hb BK103
          have n3_ := ab hb BK114
          have n4_ := hs hb HB
          clear BK101
          clear BK102
          clear BK103
          clear BK114
          clear HB
          have BK101 := n0_
          have BK102 := n1_
          have BK103 := n2_
          have BK114 := n3_
          have HB := n4_
          clear n0_ n1_ n2_ n3_ n4_
          (try clear hb)
          (try clear hb2)
          (try clear hk)
          (try clear hi)
          refine hK.out _ _ ⟨c0 BK101.out, c1 BK101.out, c0 BK102.out, c1 BK102.out⟩ (fun hHeld => ?_)
          clear hK K
          refine norm_ (a' := ?_) ?_ ?_
          rotate_left
          · show Act.put _ (some 36) _ = _
            simp only [Act.put, List.setIfInBounds_toArray, List.set_cons_zero, List.set_cons_succ, i64_w, i32_w]
            rfl
          exact norm_ (by simp only [putAll, Act.put, List.setIfInBounds_toArray, List.set_cons_zero, List.set_cons_succ]) (hCont (gb114) _ ⟨hHeld, (bk BK101.out), (bk BK102.out), (bk BK103.out), (bk BK114.out), GW114.out, GE114.out, NB101_114.out, NB114_101.out, NB102_114.out, NB114_102.out, NB103_114.out, NB114_103.out, (bw HB.out)⟩)
        skip
        refine box_step ?hg (N := 8) ?hd (cs := #[.bool false, .int .u64 0, .int .u64 0]) (t := 74) ?hr ?_; (case hd => rfl); (case hg => rfl); (case hr => first | (go_simp; done) | (go_simp; rfl))
        intro gb114 hg w66 hbox hb
        have n0_ := ab hb BK101
        have n1_ := ab hb BK102
        have n2_ := ab hb BK103
        have n3_ := hs hb HB
        have n4_ := Aside0.mk (hbox)
        have n5_ := ag hg HB
        have n6_ := ag hg HB
        have n7_ := na hg BK101
        have n8_ := nb hg BK101
        have n9_ := na hg BK102
        have n10_ := nb hg BK102
        have n11_ := na hg BK103
        have n12_ := nb hg BK103
        clear BK101
        clear BK102
        clear BK103
        clear HB
        have BK101 := n0_
        have BK102 := n1_
        have BK103 := n2_
        have HB := n3_
        have BK114 := n4_
        have GW114 := n5_
        have GE114 := n6_
        have NB101_114 := n7_
        have NB114_101 := n8_
        have NB102_114 := n9_
        have NB114_102 := n10_
        have NB103_114 := n11_
        have NB114_103 := n12_
        clear n0_ n1_ n2_ n3_ n4_ n5_ n6_ n7_ n8_ n9_ n10_ n11_ n12_
        clear hb hbox hg
        refine hK.out _ _ ⟨c0 BK101.out, c1 BK101.out, c0 BK102.out, c1 BK102.out⟩ (fun hHeld => ?_)
        clear hK K
        refine norm_ (a' := ?_) ?_ ?_
        rotate_left
        · show Act.put _ (some 8) _ = _
          simp only [Act.put, List.setIfInBounds_toArray, List.set_cons_zero, List.set_cons_succ, i64_w, i32_w]
          rfl
        refine one_ (i := 9) (N := some 34) #[true, true, true, true, true, true, true, true, true, true, true, false, true, false] rfl rfl (one_of HT_.out (by kernel_rfl)) (by decide) (fun K hK => ?_)
        refine goes_ Tryd.func52 (by kernel_rfl) rfl #[.int .i64 a0_1, .int .i64 a1_0] (by rfl) rfl rfl (by (try simp only [List.map_toArray, List.map_cons, List.map_nil]); first | done | rfl | (simp only [List.length_drop, List.length_take]; rfl)) ?_
        with_reducible refine (surtitleref3_Times.calls a0_1 a1_0 t108 t109 t110 _ A35.out).mono ?_
        rintro e w67 ⟨rfl, hb⟩
        refine ⟨_, rfl, ?_⟩
        have n0_ := ab hb BK101
        have n1_ := ab hb BK102
        have n2_ := ab hb BK103
        have n3_ := ab hb BK114
        have n4_ := hs hb HB
        clear BK101
        clear BK102
        clear BK103
        clear BK114
        clear HB
        have BK101 := n0_
        have BK102 := n1_
        have BK103 := n2_
        have BK114 := n3_
        have HB := n4_
        clear n0_ n1_ n2_ n3_ n4_
        (try clear hb)
        (try clear hb2)
        (try clear hk)
        (try clear hi)
        refine hK.out _ _ ⟨c0 BK101.out, c1 BK101.out, c0 BK102.out, c1 BK102.out⟩ (fun hHeld => ?_)
        clear hK K
        refine norm_ (a' := ?_) ?_ ?_
        rotate_left
        · show Act.put _ (some 34) _ = _
          simp only [Act.put, List.setIfInBounds_toArray, List.set_cons_zero, List.set_cons_succ, i64_w, i32_w]
          rfl
        refine one_ (i := 11) (N := some 36) #[true, true, true, true, true, true, true, true, true, true, true, true, true, false] rfl rfl (one_of HT_.out (by kernel_rfl)) (by decide) (fun K hK => ?_)
        refine goes_ Tryd.func68 (by kernel_rfl) rfl #[.agg #[.bool t105, .int .u64 t106, .int .u64 t107], .agg #[.bool t108, .int .u64 t109, .int .u64 t110], .int .i64 a2] (by rfl) rfl rfl (by (try simp only [List.map_toArray, List.map_cons, List.map_nil]); first | done | rfl | (simp only [List.length_drop, List.length_take]; rfl)) ?_
        with_reducible refine (surtitleref3_whole.calls kj17 t105 t106 t107 t108 t109 t110 a2 t111 t112 t113 _ A36.out).mono ?_
        rintro e w68 ⟨rfl, hb⟩
        refine ⟨_, rfl, ?_⟩
        have n0_ := ab hb BK101
        have n1_ := ab hb BK102
        have n2_ := ab hb BK103
        have n3_ := ab hb BK114
        have n4_ := hs hb HB
        clear BK101
        clear BK102
        clear BK103
        clear BK114
        clear HB
        have BK101 := n0_
        have BK102 := n1_
        have BK103 := n2_
        have BK114 := n3_
        have HB := n4_
        clear n0_ n1_ n2_ n3_ n4_
        (try clear hb)
        (try clear hb2)
        (try clear hk)
        (try clear hi)
        refine hK.out _ _ ⟨c0 BK101.out, c1 BK101.out, c0 BK102.out, c1 BK102.out⟩ (fun hHeld => ?_)
        clear hK K
        refine norm_ (a' := ?_) ?_ ?_
        rotate_left
        · show Act.put _ (some 36) _ = _
          simp only [Act.put, List.setIfInBounds_toArray, List.set_cons_zero, List.set_cons_succ, i64_w, i32_w]
          rfl
        exact norm_ (by simp only [putAll, Act.put, List.setIfInBounds_toArray, List.set_cons_zero, List.set_cons_succ]) (hCont (gb114) _ ⟨hHeld, (bk BK101.out), (bk BK102.out), (bk BK103.out), (bk BK114.out), GW114.out, GE114.out, NB101_114.out, NB114_101.out, NB102_114.out, NB114_102.out, NB103_114.out, NB114_103.out, (bw HB.out)⟩)
      skip
      refine box_step ?hg (N := 8) ?hd (cs := #[.bool false, .int .u64 0, .int .u64 0]) (t := 74) ?hr ?_; (case hd => rfl); (case hg => rfl); (case hr => first | (go_simp; done) | (go_simp; rfl))
      intro gb114 hg w65 hbox hb
      have n0_ := ab hb BK101
      have n1_ := ab hb BK102
      have n2_ := ab hb BK103
      have n3_ := hs hb HB
      have n4_ := Aside0.mk (hbox)
      have n5_ := ag hg HB
      have n6_ := ag hg HB
      have n7_ := na hg BK101
      have n8_ := nb hg BK101
      have n9_ := na hg BK102
      have n10_ := nb hg BK102
      have n11_ := na hg BK103
      have n12_ := nb hg BK103
      clear BK101
      clear BK102
      clear BK103
      clear HB
      have BK101 := n0_
      have BK102 := n1_
      have BK103 := n2_
      have HB := n3_
      have BK114 := n4_
      have GW114 := n5_
      have GE114 := n6_
      have NB101_114 := n7_
      have NB114_101 := n8_
      have NB102_114 := n9_
      have NB114_102 := n10_
      have NB103_114 := n11_
      have NB114_103 := n12_
      clear n0_ n1_ n2_ n3_ n4_ n5_ n6_ n7_ n8_ n9_ n10_ n11_ n12_
      clear hb hbox hg
      refine hK.out _ _ ⟨c0 BK101.out, c1 BK101.out, c0 BK102.out, c1 BK102.out⟩ (fun hHeld => ?_)
      clear hK K
      refine norm_ (a' := ?_) ?_ ?_
      rotate_left
      · show Act.put _ (some 8) _ = _
        simp only [Act.put, List.setIfInBounds_toArray, List.set_cons_zero, List.set_cons_succ, i64_w, i32_w]
        rfl
      refine one_ (i := 4) (N := some 29) #[true, true, true, true, true, true, true, true, true, false, true, false, true, false] rfl rfl (one_of HT_.out (by kernel_rfl)) (by decide) (fun K hK => ?_)
      refine goes_ Tryd.func52 (by kernel_rfl) rfl #[.int .i64 a0_0, .int .i64 a1_1] (by rfl) rfl rfl (by (try simp only [List.map_toArray, List.map_cons, List.map_nil]); first | done | rfl | (simp only [List.length_drop, List.length_take]; rfl)) ?_
      with_reducible refine (surtitleref3_Times.calls a0_0 a1_1 t105 t106 t107 _ A34.out).mono ?_
      rintro e w66 ⟨rfl, hb⟩
      refine ⟨_, rfl, ?_⟩
      have n0_ := ab hb BK101
      have n1_ := ab hb BK102
      have n2_ := ab hb BK103
      have n3_ := ab hb BK114
      have n4_ := hs hb HB
      clear BK101
      clear BK102
      clear BK103
      clear BK114
      clear HB
      have BK101 := n0_
      have BK102 := n1_
      have BK103 := n2_
      have BK114 := n3_
      have HB := n4_
      clear n0_ n1_ n2_ n3_ n4_
      (try clear hb)
      (try clear hb2)
      (try clear hk)
      (try clear hi)
      refine hK.out _ _ ⟨c0 BK101.out, c1 BK101.out, c0 BK102.out, c1 BK102.out⟩ (fun hHeld => ?_)
      clear hK K
      refine norm_ (a' := ?_) ?_ ?_
      rotate_left
      · show Act.put _ (some 29) _ = _
        simp only [Act.put, List.setIfInBounds_toArray, List.set_cons_zero, List.set_cons_succ, i64_w, i32_w]
        rfl
      refine one_ (i := 9) (N := some 34) #[true, true, true, true, true, true, true, true, true, true, true, false, true, false] rfl rfl (one_of HT_.out (by kernel_rfl)) (by decide) (fun K hK => ?_)
      refine goes_ Tryd.func52 (by kernel_rfl) rfl #[.int .i64 a0_1, .int .i64 a1_0] (by rfl) rfl rfl (by (try simp only [List.map_toArray, List.map_cons, List.map_nil]); first | done | rfl | (simp only [List.length_drop, List.length_take]; rfl)) ?_
      with_reducible refine (surtitleref3_Times.calls a0_1 a1_0 t108 t109 t110 _ A35.out).mono ?_
      rintro e w67 ⟨rfl, hb⟩
      refine ⟨_, rfl, ?_⟩
      have n0_ := ab hb BK101
      have n1_ := ab hb BK102
      have n2_ := ab hb BK103
      have n3_ := ab hb BK114
      have n4_ := hs hb HB
      clear BK101
      clear BK102
      clear BK103
      clear BK114
      clear HB
      have BK101 := n0_
      have BK102 := n1_
      have BK103 := n2_
      have BK114 := n3_
      have HB := n4_
      clear n0_ n1_ n2_ n3_ n4_
      (try clear hb)
      (try clear hb2)
      (try clear hk)
      (try clear hi)
      refine hK.out _ _ ⟨c0 BK101.out, c1 BK101.out, c0 BK102.out, c1 BK102.out⟩ (fun hHeld => ?_)
      clear hK K
      refine norm_ (a' := ?_) ?_ ?_
      rotate_left
      · show Act.put _ (some 34) _ = _
        simp only [Act.put, List.setIfInBounds_toArray, List.set_cons_zero, List.set_cons_succ, i64_w, i32_w]
        rfl
      refine one_ (i := 11) (N := some 36) #[true, true, true, true, true, true, true, true, true, true, true, true, true, false] rfl rfl (one_of HT_.out (by kernel_rfl)) (by decide) (fun K hK => ?_)
      refine goes_ Tryd.func68 (by kernel_rfl) rfl #[.agg #[.bool t105, .int .u64 t106, .int .u64 t107], .agg #[.bool t108, .int .u64 t109, .int .u64 t110], .int .i64 a2] (by rfl) rfl rfl (by (try simp only [List.map_toArray, List.map_cons, List.map_nil]); first | done | rfl | (simp only [List.length_drop, List.length_take]; rfl)) ?_
      with_reducible refine (surtitleref3_whole.calls kj17 t105 t106 t107 t108 t109 t110 a2 t111 t112 t113 _ A36.out).mono ?_
      rintro e w68 ⟨rfl, hb⟩
      refine ⟨_, rfl, ?_⟩
      have n0_ := ab hb BK101
      have n1_ := ab hb BK102
      have n2_ := ab hb BK103
      have n3_ := ab hb BK114
      have n4_ := hs hb HB
      clear BK101
      clear BK102
      clear BK103
      clear BK114
      clear HB
      have BK101 := n0_
      have BK102 := n1_
      have BK103 := n2_
      have BK114 := n3_
      have HB := n4_
      clear n0_ n1_ n2_ n3_ n4_
      (try clear hb)
      (try clear hb2)
      (try clear hk)
      (try clear hi)
      refine hK.out _ _ ⟨c0 BK101.out, c1 BK101.out, c0 BK102.out, c1 BK102.out⟩ (fun hHeld => ?_)
      clear hK K
      refine norm_ (a' := ?_) ?_ ?_
      rotate_left
      · show Act.put _ (some 36) _ = _
        simp only [Act.put, List.setIfInBounds_toArray, List.set_cons_zero, List.set_cons_succ, i64_w, i32_w]
        rfl
      exact norm_ (by simp only [putAll, Act.put, List.setIfInBounds_toArray, List.set_cons_zero, List.set_cons_succ]) (hCont (gb114) _ ⟨hHeld, (bk BK101.out), (bk BK102.out), (bk BK103.out), (bk BK114.out), GW114.out, GE114.out, NB101_114.out, NB114_101.out, NB102_114.out, NB114_102.out, NB103_114.out, NB114_103.out, (bw HB.out)⟩)
    rintro gb114 w69 ⟨hS_, h0_, h1_, h2_, h3_, h4_, h5_, h6_, h7_, h8_, h9_, h10_, h11_, h12_⟩
    have n0_ : Aside0 (w69.heap[gb101]? = some (.cells #[.int .i64 a0_0, .int .i64 a0_1] 24 (0, 0))) := ⟨h0_⟩
    have n1_ : Aside0 (w69.heap[gb102]? = some (.cells #[.int .i64 a1_0, .int .i64 a1_1] 24 (0, 0))) := ⟨h1_⟩
    have n2_ : Aside0 (w69.heap[gb103]? = some (.cells #[.int .i64 0, .int .i64 0] 24 (0, 0))) := ⟨h2_⟩
    have n3_ : Aside0 (w69.heap[gb114]? = some (.cells #[.bool false, .int .u64 0, .int .u64 0] 74 (0, 0))) := ⟨h3_⟩
    have n4_ : Aside0 (w.heap.size ≤ gb114) := ⟨h4_⟩
    have n5_ : Aside0 (w.heap.size ≤ gb114) := ⟨h5_⟩
    have n6_ : Aside0 (gb101 ≠ gb114) := ⟨h6_⟩
    have n7_ : Aside0 (gb114 ≠ gb101) := ⟨h7_⟩
    have n8_ : Aside0 (gb102 ≠ gb114) := ⟨h8_⟩
    have n9_ : Aside0 (gb114 ≠ gb102) := ⟨h9_⟩
    have n10_ : Aside0 (gb103 ≠ gb114) := ⟨h10_⟩
    have n11_ : Aside0 (gb114 ≠ gb103) := ⟨h11_⟩
    have n12_ : Aside0 (Below w.heap.size w w69) := ⟨h12_⟩
    clear BK101
    clear BK102
    clear BK103
    clear HB
    clear h0_ h1_ h2_ h3_ h4_ h5_ h6_ h7_ h8_ h9_ h10_ h11_ h12_
    have BK101 := n0_
    have BK102 := n1_
    have BK103 := n2_
    have BK114 := n3_
    have GW114 := n4_
    have GE114 := n5_
    have NB101_114 := n6_
    have NB114_101 := n7_
    have NB102_114 := n8_
    have NB114_102 := n9_
    have NB103_114 := n10_
    have NB114_103 := n11_
    have HB := n12_
    clear n0_ n1_ n2_ n3_ n4_ n5_ n6_ n7_ n8_ n9_ n10_ n11_ n12_
    have hHeld : w69.cell? ⟨gb101, 0, none⟩ = some (.int .i64 a0_0) ∧ w69.cell? ⟨gb101, 1, none⟩ = some (.int .i64 a0_1) ∧ w69.cell? ⟨gb102, 0, none⟩ = some (.int .i64 a1_0) ∧ w69.cell? ⟨gb102, 1, none⟩ = some (.int .i64 a1_1) := hS_
    refine norm_ (a' := ?_) ?_ ?_
    rotate_left
    · simp only [putAll, Act.put, List.setIfInBounds_toArray, List.set_cons_zero, List.set_cons_succ]
      rfl
    refine one_ (i := 13) (N := none) #[true, true, true, true, true, true, true, true, true, true, true, true, true, true] rfl rfl (one_of HT_.out (by kernel_rfl)) (by decide) (fun K hK => ?_)
    have hs70 : w69.cell? ⟨gb114, 0, none⟩ = some (.bool false) := c0 BK114.out
    have hfs70 := blk_frozen BK114.out 0
    have hns70_0 := NB101_114.out
    have hns70_1 := NB102_114.out
    have hns70_2 := NB103_114.out
    have hms70_0 := NB114_101.out
    have hms70_1 := NB114_102.out
    have hms70_2 := NB114_103.out
    have hs71 : w69.cell? ⟨gb114, 1, none⟩ = some (.int .u64 0) := c1 BK114.out
    have hfs71 := blk_frozen BK114.out 1
    have hns71_0 := NB101_114.out
    have hns71_1 := NB102_114.out
    have hns71_2 := NB103_114.out
    have hms71_0 := NB114_101.out
    have hms71_1 := NB114_102.out
    have hms71_2 := NB114_103.out
    have hs72 : w69.cell? ⟨gb114, 2, none⟩ = some (.int .u64 0) := c2 BK114.out
    have hfs72 := blk_frozen BK114.out 2
    have hns72_0 := NB101_114.out
    have hns72_1 := NB102_114.out
    have hns72_2 := NB103_114.out
    have hms72_0 := NB114_101.out
    have hms72_1 := NB114_102.out
    have hms72_2 := NB114_103.out
    refine skip_ (w1 := ?_) (by rfl) rfl ?_ ?_
    rotate_left
    · go_simp
      rfl
    refine hK.out _ _ ⟨((cell_far (p := ⟨gb114, _, none⟩) NB101_114.out _).trans (((cell_far (p := ⟨gb114, _, none⟩) NB101_114.out _).trans (((cell_far (p := ⟨gb114, _, none⟩) NB101_114.out _).trans (hHeld.1)))))), ((cell_far (p := ⟨gb114, _, none⟩) NB101_114.out _).trans (((cell_far (p := ⟨gb114, _, none⟩) NB101_114.out _).trans (((cell_far (p := ⟨gb114, _, none⟩) NB101_114.out _).trans (hHeld.2.1)))))), ((cell_far (p := ⟨gb114, _, none⟩) NB102_114.out _).trans (((cell_far (p := ⟨gb114, _, none⟩) NB102_114.out _).trans (((cell_far (p := ⟨gb114, _, none⟩) NB102_114.out _).trans (hHeld.2.2.1)))))), ((cell_far (p := ⟨gb114, _, none⟩) NB102_114.out _).trans (((cell_far (p := ⟨gb114, _, none⟩) NB102_114.out _).trans (((cell_far (p := ⟨gb114, _, none⟩) NB102_114.out _).trans (hHeld.2.2.2))))))⟩ (fun hHeld => ?_)
    clear hK K
    refine done_ (done_of HT_.out (by kernel_rfl)) ?_
    have hnb73 := NB114_101.out
    have hnc73 := NB101_114.out
    have hnb74 := NB114_102.out
    have hnc74 := NB102_114.out
    have hnb75 := NB114_103.out
    have hnc75 := NB103_114.out
    obtain ⟨hcz76_0, hcz76_1, hcz76_2, hfz76_0, hfz76_1, hfz76_2⟩ := k3 BK114.out
    try go_wp2_with (first | ((with_reducible refine gate_callee (f := 69) rfl ?_); refine goesL_ (some 38) rfl rfl Tryd.func69 (by kernel_rfl) rfl #[.agg #[.bool t111, .int .u64 t112, .int .u64 t113]] rfl (by (try simp only [List.map_toArray, List.map_cons, List.map_nil]); first | done | rfl | (simp only [List.length_drop, List.length_take]; rfl)) ?_; (with_reducible refine (surtitleref3_fits.calls t111 t112 t113 false _ A37.out).mono ?_); rintro e w77 ⟨rfl, hb⟩; refine ⟨_, rfl, ?_⟩; have n0_ := ab hb BK101; have n1_ := ab hb BK102; have n2_ := ab hb BK103; have n3_ := Aside0.mk (blk_below (g := gb114) (o := .cells #[.bool t111, .int .u64 t112, .int .u64 t113] 74 (0, 0)) (by refine bk ?_; refine blk_put (cs := #[.bool t111, .int .u64 t112, .int .u64 0]) ?_ 2 _ rfl; refine bk ?_; refine blk_put (cs := #[.bool t111, .int .u64 0, .int .u64 0]) ?_ 1 _ rfl; refine bk ?_; refine blk_put (cs := #[.bool false, .int .u64 0, .int .u64 0]) ?_ 0 _ rfl; refine bk ?_; exact BK114.out) hb); have n4_ := hs hb HB; clear BK101; clear BK102; clear BK103; clear BK114; clear HB; have BK101 := n0_; have BK102 := n1_; have BK103 := n2_; have BK114 := n3_; have HB := n4_; clear n0_ n1_ n2_ n3_ n4_; (try clear hb); (try clear hb2); (try clear hk); (try clear hi); have hnb78 := NB103_101.out; have hnc78 := NB101_103.out; have hnb79 := NB103_102.out; have hnc79 := NB102_103.out; obtain ⟨hcz80_0, hcz80_1, hfz80_0, hfz80_1⟩ := k2 BK103.out))
    refine bodyPost_ret (results_ct rfl _ _ gb103 24 #[.int .i64 0, .int .i64 0] (0, 0) _ rfl (by refine bk ?_; refine blk_put (cs := #[.int .i64 0, .int .i64 0]) ?_ 1 _ rfl; refine bk ?_; refine blk_put (cs := #[.int .i64 0, .int .i64 0]) ?_ 0 _ rfl; refine bk ?_; exact BK103.out) Tryd.underlying24 rfl (by kernel_rfl)) rfl ?_
    exact ⟨by first | rfl | (simp [errW_none, errW_some] <;> rfl) | (simp [*, errW_none, errW_some] <;> rfl), by repeat (first | (with_reducible first | exact HB.out | apply below_alloc | apply pw_below_drewN | apply below_drew1 | refine below_set ?_ GE101.out | refine below_set ?_ GE102.out | refine below_set ?_ GE103.out | refine below_set ?_ GE114.out) | exact HB.out)⟩
  replace c5 := Bool.eq_false_iff.mpr c5
  subst c5
  have H1 : (some (0, 0, 12)) = some (r1, r2, r3) := by rw [if_neg (show ¬ (false = true) by decide)] at H; exact H
  clear H
  have H := H1
  clear H1
  simp only [Option.some.injEq, Prod.mk.injEq] at H
  obtain ⟨rfl, rfl, rfl⟩ := H
  go_enter Tryd.func43, Tryd.ntmps43
  go_wp2_with (first | ((with_reducible refine gate_dst (N := 3) rfl ?_); refine box_event ?hg (N := 3) ?hd (cs := #[.int .i64 a0_0, .int .i64 a0_1]) (t := 24) ?hr ?_; (case hd => rfl); (case hg => rfl); (case hr => first | (go_simp; done) | (go_simp; rfl)); intro gb101 hg w81 hbox hb; have BK101 := Aside0.mk (hbox); have GW101 := ag hg HB; have GE101 := ag hg HB; replace HB := hs hb HB; clear hb hbox hg) | ((with_reducible refine gate_dst (N := 4) rfl ?_); refine box_event ?hg (N := 4) ?hd (cs := #[.int .i64 a1_0, .int .i64 a1_1]) (t := 24) ?hr ?_; (case hd => rfl); (case hg => rfl); (case hr => first | (go_simp; done) | (go_simp; rfl)); intro gb102 hg w82 hbox hb; have BK102 := Aside0.mk (hbox); have GW102 := ag hg HB; have GE102 := ag hg HB; have NB101_102 := na hg BK101; have NB102_101 := nb hg BK101; replace BK101 := ab hb BK101; replace HB := hs hb HB; clear hb hbox hg) | ((with_reducible refine gate_dst (N := 6) rfl ?_); refine box_event ?hg (N := 6) ?hd (cs := #[.int .i64 0, .int .i64 0]) (t := 24) ?hr ?_; (case hd => rfl); (case hg => rfl); (case hr => first | (go_simp; done) | (go_simp; rfl)); intro gb103 hg w83 hbox hb; have BK103 := Aside0.mk (hbox); have GW103 := ag hg HB; have GE103 := ag hg HB; have NB101_103 := na hg BK101; have NB103_101 := nb hg BK101; have NB102_103 := na hg BK102; have NB103_102 := nb hg BK102; replace BK101 := ab hb BK101; replace BK102 := ab hb BK102; replace HB := hs hb HB; clear hb hbox hg; have hnb84 := NB101_102.out; have hnc84 := NB102_101.out; have hnb85 := NB101_103.out; have hnc85 := NB103_101.out; obtain ⟨hcz86_0, hcz86_1, hfz86_0, hfz86_1⟩ := k2 BK101.out; have hnb87 := NB102_103.out; have hnc87 := NB103_102.out; obtain ⟨hcz88_0, hcz88_1, hfz88_0, hfz88_1⟩ := k2 BK102.out) | ((with_reducible refine gate_callee (f := 62) rfl ?_); refine goesL_ (some 11) rfl rfl Tryd.func62 (by kernel_rfl) rfl #[.agg #[.int .i64 a0_0, .int .i64 a0_1], .agg #[.int .i64 a1_0, .int .i64 a1_1]] rfl (by (try simp only [List.map_toArray, List.map_cons, List.map_nil]); first | done | rfl | (simp only [List.length_drop, List.length_take]; rfl)) ?_; (with_reducible refine (surtitleref3_both.calls k a0_0 a0_1 a1_0 a1_1 false _ A4.out).mono ?_); rintro e w89 ⟨rfl, hb⟩; refine ⟨_, rfl, ?_⟩; replace BK101 := ab hb BK101; replace BK102 := ab hb BK102; replace BK103 := ab hb BK103; replace HB := hs hb HB; (try clear hb); (try clear hb2); (try clear hk); (try clear hi); obtain ⟨hcz90_0, hcz90_1, hfz90_0, hfz90_1⟩ := k2 BK103.out))
  refine bodyPost_ret (results_ct rfl _ _ gb103 24 #[.int .i64 0, .int .i64 0] (0, 0) _ rfl (by refine bk ?_; refine blk_put (cs := #[.int .i64 0, .int .i64 0]) ?_ 1 _ rfl; refine bk ?_; refine blk_put (cs := #[.int .i64 0, .int .i64 0]) ?_ 0 _ rfl; refine bk ?_; exact BK103.out) Tryd.underlying24 rfl (by kernel_rfl)) rfl ?_
  exact ⟨by first | rfl | (simp [errW_none, errW_some] <;> rfl) | (simp [*, errW_none, errW_some] <;> rfl), by repeat (first | (with_reducible first | exact HB.out | apply below_alloc | apply pw_below_drewN | apply below_drew1 | refine below_set ?_ GE101.out | refine below_set ?_ GE102.out | refine below_set ?_ GE103.out) | exact HB.out)⟩

end Go.Proofs.YtofndakpenpkbaaDoor.PI
