-- made by wip/pp2.py out of the translation, over contracts of my own
import Derived.Test.YtofndakpenpkbaaDoorProg
import Derived.Below
import Derived.Deep.Draws
import Derived.Deep.AppendLies
import Derived.Maps.AppendAt
import Derived.OwnWalk
import Derived.Laws.BytesArg
import Derived.Laws.MakeOwn
import Derived.Laws.OwnMore
import Derived.Deep.OwnRows
import Derived.Tactics
import Derived.Lib.ConvBytes
import Derived.Laws.Slices
import Derived.WalkKit
import Derived.KernelRfl
import Derived.RowKit3
import Derived.Deep.LoopGhost
import Derived.Deep.QuietTactic
import Derived.BigQuiet
import Derived.WideLaws
import Derived.Deep.DeepCutAuto
import Derived.Deep.CutBlock
import Derived.Deep.RegionHeld3
import Derived.Laws.Rows
import Derived.Lib.AppendStr
import Derived.ArgAppend
import Derived.Laws.IdiomCopy
import Derived.OrdersHeld
import Derived.Laws.BitsLemmas
import Derived.RowKit
import Derived.Test.YtofndakpenpkbaaDoorPRx1
import Derived.Test.YtofndakpenpkbaaDoorRefD
import Derived.Test.YtofndakpenpkbaaDoorXW
namespace Go.Proofs.YtofndakpenpkbaaDoor.PO
open Go.Proofs.YtofndakpenpkbaaDoor.PA Go.Proofs.YtofndakpenpkbaaDoor.PR
open Go.RowKit Go.Proofs.YtofndakpenpkbaaDoorW.PrintWords Go.Proofs.YtofndakpenpkbaaDoorW.PrintLast Go.Proofs.YtofndakpenpkbaaDoorW.PrintMore
set_option linter.unusedVariables false
set_option linter.unusedSimpArgs false



def errW : Option Int → Value
  | none => .nilIface
  | some c => .iface 0 (.int .i64 c)
theorem errW_none : errW none = .nilIface := rfl
theorem errW_some (c : Int) : errW (some c) = .iface 0 (.int .i64 c) := rfl

-- the values' own types
/-! #### struct type 24 -/
structure S24 where
  f0 : Int
  f1 : Int
def z24 : S24 := ⟨(0 : Int), (0 : Int)⟩
def k24 : Kd S24 := Kd.iso (Kd.pair (Kd.int .i64) (Kd.int .i64)) (fun x : S24 => (x.f0, x.f1))
theorem k24_open {w : World} {x : S24} {cs : List Value} (h : k24.K w x cs) : cs = [.int .i64 x.f0, .int .i64 x.f1] := by
  obtain ⟨_, _, rfl, rfl, rfl⟩ := h
  exact rfl
theorem k24_openM {w : World} {base : Nat} {ok : Nat → Prop} {x : S24} {cs : List Value} (h : k24.M w base ok x cs) : cs = [.int .i64 x.f0, .int .i64 x.f1] := by
  obtain ⟨_, _, rfl, rfl, rfl⟩ := h
  exact rfl
theorem k24_mk (w : World) (x : S24)  : k24.K w x [.int .i64 x.f0, .int .i64 x.f1] := ⟨[.int .i64 x.f0], [.int .i64 x.f1], rfl, rfl, rfl⟩
theorem k24_mkM (w : World) (base : Nat) (ok : Nat → Prop) (x : S24)  : k24.M w base ok x [.int .i64 x.f0, .int .i64 x.f1] := ⟨[.int .i64 x.f0], [.int .i64 x.f1], rfl, rfl, rfl⟩
def rd_T24 (xs : List S24) (i : Int) : S24 := xs.getD i.toNat z24
theorem at_T24 {w : World} {A : Option Addr} {n : Nat} {xs : List S24} (h : Kd.C k24 w A n xs) (i : Int) (h0 : 0 ≤ i) (h1 : i < n) : ∃ ad , A = some ad ∧ w.cell? (ad.add (i.toNat * 2)) = some (.int .i64 (rd_T24 xs i).f0) ∧ w.cell? ⟨(ad.add (i.toNat * 2)).block, (ad.add (i.toNat * 2)).off + 1, none⟩ = some (.int .i64 (rd_T24 xs i).f1) := by
  obtain ⟨ad, c, e, _, hK, hc0⟩ := Kd.C_get h z24 i h0 h1
  have hc : ∀ j u, c[j]? = some u → w.cell? (ad.add (i.toNat * 2 + j)) = some u := hc0
  obtain rfl := k24_open hK
  exact ⟨ad, e, hc 0 _ rfl, by rw [← add_field _ _ 1 (by omega)]; exact hc 1 _ rfl⟩

end Go.Proofs.YtofndakpenpkbaaDoor.PO

namespace Go.Proofs.YtofndakpenpkbaaDoor.PO
open Go.Proofs.YtofndakpenpkbaaDoor.PA Go.Proofs.YtofndakpenpkbaaDoor.PR
open Go.RowKit Go.Proofs.YtofndakpenpkbaaDoorW.PrintWords Go.Proofs.YtofndakpenpkbaaDoorW.PrintLast Go.Proofs.YtofndakpenpkbaaDoorW.PrintMore
set_option linter.unusedVariables false
set_option linter.unusedSimpArgs false

theorem eqA24 (d : Nat) (w : World) (x0 y0 : Int) (x1 y1 : Int) :
    (Op.equalIn (d + 2) 24 (.agg #[.int .i64 x0, .int .i64 x1]) (.agg #[.int .i64 y0, .int .i64 y1])).run Tryd.prog w = .ok (x0 == y0 && (x1 == y1)) w := by
  refine eqA_of Tryd.underlying24 (by kernel_rfl) ?_
  refine eqf_cons (by rfl) (by go_simp; rfl) (by go_simp; rfl) (by go_simp) ?_
  exact eqf_last (by rfl) (by go_simp; rfl) (by go_simp; rfl) (by go_simp)
end Go.Proofs.YtofndakpenpkbaaDoor.PO

namespace Go.Proofs.YtofndakpenpkbaaDoor.PO
open Go.Proofs.YtofndakpenpkbaaDoor.PA Go.Proofs.YtofndakpenpkbaaDoor.PR
open Go.RowKit Go.Proofs.YtofndakpenpkbaaDoorW.PrintWords Go.Proofs.YtofndakpenpkbaaDoorW.PrintLast Go.Proofs.YtofndakpenpkbaaDoorW.PrintMore
set_option linter.unusedVariables false
set_option linter.unusedSimpArgs false

attribute [local go_sem high] eqA24
/-! ### surtitleref3_Right: function 20: told elsewhere -/

/-! ### surtitleref3_both: function 62 -/
def surtitleref3_both.f (k : Nat) (a0_0 : Int) (a0_1 : Int) (a1_0 : Int) (a1_1 : Int) : Option (Bool) := (surtitleref3_Right.f k a0_0 a0_1).bind fun t103 => (if t103 = true then ((surtitleref3_Right.f k a1_0 a1_1).bind fun t104 => (some t104)) else (some false))
set_option maxHeartbeats 8000000 in
set_option maxRecDepth 100000 in
theorem surtitleref3_both.calls (k : Nat) (a0_0 : Int) (a0_1 : Int) (a1_0 : Int) (a1_1 : Int) (r : Bool) (w : World) (h : surtitleref3_both.f k a0_0 a0_1 a1_0 a1_1 = some r) :
    Calls Tryd.prog 62 #[.agg #[.int .i64 a0_0, .int .i64 a0_1], .agg #[.int .i64 a1_0, .int .i64 a1_1]] w fun e w' => e = .returned (.bool r) ∧ Below w.heap.size w w' := by
  have hu24 := Tryd.underlying24
  have HB := Aside0.mk (Below.refl w.heap.size w)
  have H : ((surtitleref3_Right.f k a0_0 a0_1).bind fun t103 => (if t103 = true then ((surtitleref3_Right.f k a1_0 a1_1).bind fun t104 => (some t104)) else (some false))) = some r := h
  clear h
  replace H := Option.bind_eq_some_iff.mp H
  obtain ⟨t103, A30, H⟩ := H
  replace H : (if t103 = true then ((surtitleref3_Right.f k a1_0 a1_1).bind fun t104 => (some t104)) else (some false)) = some r := H
  have A3 := Aside0.mk A30
  clear A30
  by_cases c4 : t103 = true
  · subst c4
    have H1 : ((surtitleref3_Right.f k a1_0 a1_1).bind fun t104 => (some t104)) = some r := by rw [if_pos rfl] at H; exact H
    clear H
    have H := H1
    clear H1
    replace H := Option.bind_eq_some_iff.mp H
    obtain ⟨t104, A50, H⟩ := H
    replace H : (some t104) = some r := H
    have A5 := Aside0.mk A50
    clear A50
    obtain rfl := Option.some.inj H
    go_enter Tryd.func62, Tryd.ntmps62
    go_wp2_with (first | ((with_reducible refine gate_dst (N := 2) rfl ?_); refine box_event ?hg (N := 2) ?hd (cs := #[.int .i64 a0_0, .int .i64 a0_1]) (t := 24) ?hr ?_; (case hd => rfl); (case hg => rfl); (case hr => first | (go_simp; done) | (go_simp; rfl)); intro gb101 hg w6 hbox hb; have BK101 := Aside0.mk (hbox); have GW101 := ag hg HB; have GE101 := ag hg HB; replace HB := hs hb HB; clear hb hbox hg) | ((with_reducible refine gate_dst (N := 3) rfl ?_); refine box_event ?hg (N := 3) ?hd (cs := #[.int .i64 a1_0, .int .i64 a1_1]) (t := 24) ?hr ?_; (case hd => rfl); (case hg => rfl); (case hr => first | (go_simp; done) | (go_simp; rfl)); intro gb102 hg w7 hbox hb; have BK102 := Aside0.mk (hbox); have GW102 := ag hg HB; have GE102 := ag hg HB; have NB101_102 := na hg BK101; have NB102_101 := nb hg BK101; replace BK101 := ab hb BK101; replace HB := hs hb HB; clear hb hbox hg; have hnb8 := NB101_102.out; have hnc8 := NB102_101.out; obtain ⟨hcz9_0, hcz9_1, hfz9_0, hfz9_1⟩ := k2 BK101.out) | ((with_reducible refine gate_callee (f := 20) rfl ?_); refine goesL_ (some 6) rfl rfl Tryd.func20 (by kernel_rfl) rfl #[.agg #[.int .i64 a0_0, .int .i64 a0_1]] rfl (by (try simp only [List.map_toArray, List.map_cons, List.map_nil]); first | done | rfl | (simp only [List.length_drop, List.length_take]; rfl)) ?_; (with_reducible refine (surtitleref3_Right.calls k a0_0 a0_1 true _ A3.out).mono ?_); rintro e w10 ⟨rfl, hb⟩; refine ⟨_, rfl, ?_⟩; replace BK101 := ab hb BK101; replace BK102 := ab hb BK102; replace HB := hs hb HB; (try clear hb); (try clear hb2); (try clear hk); (try clear hi); obtain ⟨hcz11_0, hcz11_1, hfz11_0, hfz11_1⟩ := k2 BK102.out) | (go_at_call 20; (with_reducible refine (surtitleref3_Right.calls k a1_0 a1_1 t104 _ A5.out).mono ?_); rintro e w12 ⟨rfl, hb⟩; replace BK101 := ab hb BK101; replace BK102 := ab hb BK102; replace HB := hs hb HB; (try clear hb); (try clear hb2); (try clear hk); (try clear hi)))
    go_ret
    exact ⟨by first | rfl | (simp [errW_none, errW_some] <;> rfl) | (simp [*, errW_none, errW_some] <;> rfl), by repeat (first | (with_reducible first | exact HB.out | apply below_alloc | apply pw_below_drewN | apply below_drew1 | refine below_set ?_ GE101.out | refine below_set ?_ GE102.out) | exact HB.out)⟩
  replace c4 := Bool.eq_false_iff.mpr c4
  subst c4
  have H1 : (some false) = some r := by rw [if_neg (show ¬ (false = true) by decide)] at H; exact H
  clear H
  have H := H1
  clear H1
  obtain rfl := Option.some.inj H
  go_enter Tryd.func62, Tryd.ntmps62
  go_wp2_with (first | ((with_reducible refine gate_dst (N := 2) rfl ?_); refine box_event ?hg (N := 2) ?hd (cs := #[.int .i64 a0_0, .int .i64 a0_1]) (t := 24) ?hr ?_; (case hd => rfl); (case hg => rfl); (case hr => first | (go_simp; done) | (go_simp; rfl)); intro gb101 hg w13 hbox hb; have BK101 := Aside0.mk (hbox); have GW101 := ag hg HB; have GE101 := ag hg HB; replace HB := hs hb HB; clear hb hbox hg) | ((with_reducible refine gate_dst (N := 3) rfl ?_); refine box_event ?hg (N := 3) ?hd (cs := #[.int .i64 a1_0, .int .i64 a1_1]) (t := 24) ?hr ?_; (case hd => rfl); (case hg => rfl); (case hr => first | (go_simp; done) | (go_simp; rfl)); intro gb102 hg w14 hbox hb; have BK102 := Aside0.mk (hbox); have GW102 := ag hg HB; have GE102 := ag hg HB; have NB101_102 := na hg BK101; have NB102_101 := nb hg BK101; replace BK101 := ab hb BK101; replace HB := hs hb HB; clear hb hbox hg; have hnb15 := NB101_102.out; have hnc15 := NB102_101.out; obtain ⟨hcz16_0, hcz16_1, hfz16_0, hfz16_1⟩ := k2 BK101.out) | ((with_reducible refine gate_callee (f := 20) rfl ?_); refine goesL_ (some 6) rfl rfl Tryd.func20 (by kernel_rfl) rfl #[.agg #[.int .i64 a0_0, .int .i64 a0_1]] rfl (by (try simp only [List.map_toArray, List.map_cons, List.map_nil]); first | done | rfl | (simp only [List.length_drop, List.length_take]; rfl)) ?_; (with_reducible refine (surtitleref3_Right.calls k a0_0 a0_1 false _ A3.out).mono ?_); rintro e w17 ⟨rfl, hb⟩; refine ⟨_, rfl, ?_⟩; replace BK101 := ab hb BK101; replace BK102 := ab hb BK102; replace HB := hs hb HB; (try clear hb); (try clear hb2); (try clear hk); (try clear hi)))
  go_ret
  exact ⟨by first | rfl | (simp [errW_none, errW_some] <;> rfl) | (simp [*, errW_none, errW_some] <;> rfl), by repeat (first | (with_reducible first | exact HB.out | apply below_alloc | apply pw_below_drewN | apply below_drew1 | refine below_set ?_ GE101.out | refine below_set ?_ GE102.out) | exact HB.out)⟩

/-! ### surtitlelaw3_told: function 23 -/
def surtitlelaw3_told.f (a0_0 : Int) (a0_1 : Int) (a1 : Int) (a2_0 : Int) (a2_1 : Int) (a3 : Int) : Option (Bool) := if (a0_0 == a2_0 && (a0_1 == a2_1)) = true then (some (a1 == a3)) else (some false)
set_option maxHeartbeats 8000000 in
set_option maxRecDepth 100000 in
theorem surtitlelaw3_told.calls (a0_0 : Int) (a0_1 : Int) (a1 : Int) (a2_0 : Int) (a2_1 : Int) (a3 : Int) (r : Bool) (w : World) (h : surtitlelaw3_told.f a0_0 a0_1 a1 a2_0 a2_1 a3 = some r) :
    Calls Tryd.prog 23 #[.agg #[.int .i64 a0_0, .int .i64 a0_1], .int .i64 a1, .agg #[.int .i64 a2_0, .int .i64 a2_1], .int .i64 a3] w fun e w' => e = .returned (.bool r) ∧ Below w.heap.size w w' := by
  have hu24 := Tryd.underlying24
  have HB := Aside0.mk (Below.refl w.heap.size w)
  have H : (if (a0_0 == a2_0 && (a0_1 == a2_1)) = true then (some (a1 == a3)) else (some false)) = some r := h
  clear h
  by_cases c5 : (a0_0 == a2_0 && (a0_1 == a2_1)) = true
  · rw [if_pos c5] at H
    have c5b0 : (a0_0 == a2_0 && (a0_1 == a2_1)) = true := c5
    (try (have c5b1 : decide (a0_0 = a2_0 && (a0_1 == a2_1)) = true := by simpa using c5))
    (try (have c5b2 : (a0_0 == a2_0 && (a0_1 == a2_1)) = true := by simpa using c5))
    clear c5
    obtain rfl := Option.some.inj H
    go_enter Tryd.func23, Tryd.ntmps23
    go_wp2_with (first | ((with_reducible refine gate_dst (N := 4) rfl ?_); refine box_event ?hg (N := 4) ?hd (cs := #[.int .i64 a0_0, .int .i64 a0_1]) (t := 24) ?hr ?_; (case hd => rfl); (case hg => rfl); (case hr => first | (go_simp; done) | (go_simp; rfl)); intro gb105 hg w6 hbox hb; have BK105 := Aside0.mk (hbox); have GW105 := ag hg HB; have GE105 := ag hg HB; replace HB := hs hb HB; clear hb hbox hg) | ((with_reducible refine gate_dst (N := 6) rfl ?_); refine box_event ?hg (N := 6) ?hd (cs := #[.int .i64 a2_0, .int .i64 a2_1]) (t := 24) ?hr ?_; (case hd => rfl); (case hg => rfl); (case hr => first | (go_simp; done) | (go_simp; rfl)); intro gb106 hg w7 hbox hb; have BK106 := Aside0.mk (hbox); have GW106 := ag hg HB; have GE106 := ag hg HB; have NB105_106 := na hg BK105; have NB106_105 := nb hg BK105; replace BK105 := ab hb BK105; replace HB := hs hb HB; clear hb hbox hg; have hnb8 := NB105_106.out; have hnc8 := NB106_105.out; obtain ⟨hcz9_0, hcz9_1, hfz9_0, hfz9_1⟩ := k2 BK105.out; obtain ⟨hcz10_0, hcz10_1, hfz10_0, hfz10_1⟩ := k2 BK106.out))
    go_ret
    exact ⟨by first | rfl | (simp [errW_none, errW_some] <;> rfl) | (simp [*, errW_none, errW_some] <;> rfl), by repeat (first | (with_reducible first | exact HB.out | apply below_alloc | apply pw_below_drewN | apply below_drew1 | refine below_set ?_ GE105.out | refine below_set ?_ GE106.out) | exact HB.out)⟩
  rw [if_neg c5] at H
  have c5b0 : (a0_0 == a2_0 && (a0_1 == a2_1)) = false := by simpa using c5
  (try (have c5b1 : decide (a0_0 = a2_0 && (a0_1 == a2_1)) = false := by simpa using c5))
  (try (have c5b2 : (a0_0 == a2_0 && (a0_1 == a2_1)) = false := by simpa using c5))
  (try (have c5b3 : ¬ (a0_0 = a2_0 && (a0_1 == a2_1)) := by simpa using c5))
  clear c5
  obtain rfl := Option.some.inj H
  go_enter Tryd.func23, Tryd.ntmps23
  go_wp2_with (first | ((with_reducible refine gate_dst (N := 4) rfl ?_); refine box_event ?hg (N := 4) ?hd (cs := #[.int .i64 a0_0, .int .i64 a0_1]) (t := 24) ?hr ?_; (case hd => rfl); (case hg => rfl); (case hr => first | (go_simp; done) | (go_simp; rfl)); intro gb105 hg w11 hbox hb; have BK105 := Aside0.mk (hbox); have GW105 := ag hg HB; have GE105 := ag hg HB; replace HB := hs hb HB; clear hb hbox hg) | ((with_reducible refine gate_dst (N := 6) rfl ?_); refine box_event ?hg (N := 6) ?hd (cs := #[.int .i64 a2_0, .int .i64 a2_1]) (t := 24) ?hr ?_; (case hd => rfl); (case hg => rfl); (case hr => first | (go_simp; done) | (go_simp; rfl)); intro gb106 hg w12 hbox hb; have BK106 := Aside0.mk (hbox); have GW106 := ag hg HB; have GE106 := ag hg HB; have NB105_106 := na hg BK105; have NB106_105 := nb hg BK105; replace BK105 := ab hb BK105; replace HB := hs hb HB; clear hb hbox hg; have hnb13 := NB105_106.out; have hnc13 := NB106_105.out; obtain ⟨hcz14_0, hcz14_1, hfz14_0, hfz14_1⟩ := k2 BK105.out; obtain ⟨hcz15_0, hcz15_1, hfz15_0, hfz15_1⟩ := k2 BK106.out))
  go_ret
  exact ⟨by first | rfl | (simp [errW_none, errW_some] <;> rfl) | (simp [*, errW_none, errW_some] <;> rfl), by repeat (first | (with_reducible first | exact HB.out | apply below_alloc | apply pw_below_drewN | apply below_drew1 | refine below_set ?_ GE105.out | refine below_set ?_ GE106.out) | exact HB.out)⟩

end Go.Proofs.YtofndakpenpkbaaDoor.PO
