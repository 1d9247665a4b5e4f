-- made by wip/pp2.py out of the translation, over contracts of my own
import Derived.Test.YtofndakpenpkbaaDoorProg
import Derived.Below
import Derived.Deep.Draws
import Derived.Deep.AppendLies
import Derived.Maps.AppendAt
import Derived.OwnWalk
import Derived.Laws.BytesArg
import Derived.Laws.MakeOwn
import Derived.Laws.OwnMore
import Derived.Deep.OwnRows
import Derived.Tactics
import Derived.Lib.ConvBytes
import Derived.Laws.Slices
import Derived.WalkKit
import Derived.KernelRfl
import Derived.RowKit3
import Derived.Deep.LoopGhost
import Derived.Deep.QuietTactic
import Derived.BigQuiet
import Derived.WideLaws
import Derived.Deep.DeepCutAuto
import Derived.Deep.CutBlock
import Derived.Deep.RegionHeld3
import Derived.Laws.Rows
import Derived.Lib.AppendStr
import Derived.ArgAppend
import Derived.Laws.IdiomCopy
import Derived.OrdersHeld
import Derived.Laws.BitsLemmas
import Derived.RowKit
import Derived.Test.YtofndakpenpkbaaDoorRatP
import Derived.Test.YtofndakpenpkbaaDoorXW
namespace Go.Proofs.YtofndakpenpkbaaDoor.PTm
open Go.Proofs.YtofndakpenpkbaaDoor.PA
open Go.RowKit Go.Proofs.YtofndakpenpkbaaDoorW.PrintWords Go.Proofs.YtofndakpenpkbaaDoorW.PrintLast Go.Proofs.YtofndakpenpkbaaDoorW.PrintMore
set_option linter.unusedVariables false
set_option linter.unusedSimpArgs false



def errW : Option Int → Value
  | none => .nilIface
  | some c => .iface 0 (.int .i64 c)
theorem errW_none : errW none = .nilIface := rfl
theorem errW_some (c : Int) : errW (some c) = .iface 0 (.int .i64 c) := rfl

-- the values' own types
/-! #### struct type 24 -/
structure S24 where
  f0 : Int
  f1 : Int
def z24 : S24 := ⟨(0 : Int), (0 : Int)⟩
def k24 : Kd S24 := Kd.iso (Kd.pair (Kd.int .i64) (Kd.int .i64)) (fun x : S24 => (x.f0, x.f1))
theorem k24_open {w : World} {x : S24} {cs : List Value} (h : k24.K w x cs) : cs = [.int .i64 x.f0, .int .i64 x.f1] := by
  obtain ⟨_, _, rfl, rfl, rfl⟩ := h
  exact rfl
theorem k24_openM {w : World} {base : Nat} {ok : Nat → Prop} {x : S24} {cs : List Value} (h : k24.M w base ok x cs) : cs = [.int .i64 x.f0, .int .i64 x.f1] := by
  obtain ⟨_, _, rfl, rfl, rfl⟩ := h
  exact rfl
theorem k24_mk (w : World) (x : S24)  : k24.K w x [.int .i64 x.f0, .int .i64 x.f1] := ⟨[.int .i64 x.f0], [.int .i64 x.f1], rfl, rfl, rfl⟩
theorem k24_mkM (w : World) (base : Nat) (ok : Nat → Prop) (x : S24)  : k24.M w base ok x [.int .i64 x.f0, .int .i64 x.f1] := ⟨[.int .i64 x.f0], [.int .i64 x.f1], rfl, rfl, rfl⟩
def rd_T24 (xs : List S24) (i : Int) : S24 := xs.getD i.toNat z24
theorem at_T24 {w : World} {A : Option Addr} {n : Nat} {xs : List S24} (h : Kd.C k24 w A n xs) (i : Int) (h0 : 0 ≤ i) (h1 : i < n) : ∃ ad , A = some ad ∧ w.cell? (ad.add (i.toNat * 2)) = some (.int .i64 (rd_T24 xs i).f0) ∧ w.cell? ⟨(ad.add (i.toNat * 2)).block, (ad.add (i.toNat * 2)).off + 1, none⟩ = some (.int .i64 (rd_T24 xs i).f1) := by
  obtain ⟨ad, c, e, _, hK, hc0⟩ := Kd.C_get h z24 i h0 h1
  have hc : ∀ j u, c[j]? = some u → w.cell? (ad.add (i.toNat * 2 + j)) = some u := hc0
  obtain rfl := k24_open hK
  exact ⟨ad, e, hc 0 _ rfl, by rw [← add_field _ _ 1 (by omega)]; exact hc 1 _ rfl⟩

end Go.Proofs.YtofndakpenpkbaaDoor.PTm

namespace Go.Proofs.YtofndakpenpkbaaDoor.PTm
open Go.Proofs.YtofndakpenpkbaaDoor.PA
open Go.RowKit Go.Proofs.YtofndakpenpkbaaDoorW.PrintWords Go.Proofs.YtofndakpenpkbaaDoorW.PrintLast Go.Proofs.YtofndakpenpkbaaDoorW.PrintMore
set_option linter.unusedVariables false
set_option linter.unusedSimpArgs false

/-! ### ratio_Right: function 19: told elsewhere -/

/-! ### ratio_Cmp: function 32: told elsewhere -/

/-! ### ratio_Time: function 44 -/
def ratio_Time.j0 : Nat → Bool → Int → Int → Option (Int)
  | 0, _, _, _ => none
  | k + 1, x3, x102000, x102001 => if x3 = true then (some 12) else (if x102000 < 0 then (some 31) else ((ratio_Cmp.f x102000 x102001 360000 1).bind fun t103 => (if t103 > 0 then (some 31) else (some 0))))
def ratio_Time.f (k : Nat) (a0_0 : Int) (a0_1 : Int) : Option (Int) := (ratio_Right.f a0_0 a0_1).bind fun t102 => (if t102 = true then (ratio_Time.j0 k (decide (a0_1 > 1048576)) a0_0 a0_1) else (ratio_Time.j0 k true a0_0 a0_1))
set_option maxHeartbeats 8000000 in
set_option maxRecDepth 100000 in
theorem ratio_Time.calls (k : Nat) (a0_0 : Int) (a0_1 : Int) (r : Int) (w : World) (h : ratio_Time.f k a0_0 a0_1 = some r) :
    Calls Tryd.prog 44 #[.agg #[.int .i64 a0_0, .int .i64 a0_1]] w fun e w' => e = .returned (.int .i64 r) ∧ Below w.heap.size w w' := by
  have hu24 := Tryd.underlying24
  have HB := Aside0.mk (Below.refl w.heap.size w)
  have H : ((ratio_Right.f a0_0 a0_1).bind fun t102 => (if t102 = true then (ratio_Time.j0 k (decide (a0_1 > 1048576)) a0_0 a0_1) else (ratio_Time.j0 k true a0_0 a0_1))) = some r := h
  clear h
  have HC2 := Aside0.mk H
  clear H
  go_enter Tryd.func44, Tryd.ntmps44
  go_upto_region 1 with (first | ((with_reducible refine gate_dst (N := 1) rfl ?_); refine box_event ?hg (N := 1) ?hd (cs := #[.int .i64 a0_0, .int .i64 a0_1]) (t := 24) ?hr ?_; (case hd => rfl); (case hg => rfl); (case hr => first | (go_simp; done) | (go_simp; rfl)); intro gb101 hg w3 hbox hb; have BK101 := Aside0.mk (hbox); have GW101 := ag hg HB; have GE101 := ag hg HB; replace HB := hs hb HB; clear hb hbox hg))
  (try simp only [Act.put, List.setIfInBounds_toArray, List.set_cons_zero, List.set_cons_succ])
  go_cut [3] (fun v3 wc => ∃ (kq : Nat) (x3_1 : Bool), v3 = .bool x3_1 ∧ Aside0 (ratio_Time.j0 kq x3_1 a0_0 a0_1 = some r) ∧ Aside0 (kq ≤ k) ∧ Aside0 (wc.heap[gb101]? = some (.cells #[.int .i64 a0_0, .int .i64 a0_1] 24 (0, 0))) ∧ Aside0 (Below w.heap.size w wc))
  case first =>
    have H := HC2.out
    clear HC2
    replace H := Option.bind_eq_some_iff.mp H
    obtain ⟨t102, A40, H⟩ := H
    replace H : (if t102 = true then (ratio_Time.j0 k (decide (a0_1 > 1048576)) a0_0 a0_1) else (ratio_Time.j0 k true a0_0 a0_1)) = some r := H
    have A4 := Aside0.mk A40
    clear A40
    by_cases c5 : t102 = true
    · subst c5
      have H1 : (ratio_Time.j0 k (decide (a0_1 > 1048576)) a0_0 a0_1) = some r := by rw [if_pos rfl] at H; exact H
      clear H
      have H := H1
      clear H1
      have H' := Aside0.mk H
      clear H
      obtain ⟨hcz6_0, hcz6_1, hfz6_0, hfz6_1⟩ := k2 BK101.out
      go_wp2_with (first | ((with_reducible refine gate_callee (f := 19) rfl ?_); refine goesL_ (some 5) rfl rfl Tryd.func19 (by kernel_rfl) rfl #[.agg #[.int .i64 a0_0, .int .i64 a0_1]] rfl (by (try simp only [List.map_toArray, List.map_cons, List.map_nil]); first | done | rfl | (simp only [List.length_drop, List.length_take]; rfl)) ?_; (with_reducible refine (ratio_Right.calls a0_0 a0_1 true _ A4.out).mono ?_); rintro e w7 ⟨rfl, hb⟩; refine ⟨_, rfl, ?_⟩; replace BK101 := ab hb BK101; replace HB := hs hb HB; (try clear hb); (try clear hb2); (try clear hk); (try clear hi); obtain ⟨hcz8_0, hcz8_1, hfz8_0, hfz8_1⟩ := k2 BK101.out))
      go_meet
      case rel => exact ⟨_, (decide (a0_1 > 1048576)), (by first | rfl | (simp; done) | (simp [*]; done)), H', ⟨by first | omega | exact Nat.le_refl _⟩, ⟨by refine bk ?_; exact BK101.out⟩, ⟨by repeat (first | (with_reducible first | exact HB.out | apply below_alloc | apply pw_below_drewN | apply below_drew1 | refine below_set ?_ GE101.out) | exact HB.out)⟩⟩
    replace c5 := Bool.eq_false_iff.mpr c5
    subst c5
    have H1 : (ratio_Time.j0 k true a0_0 a0_1) = some r := by rw [if_neg (show ¬ (false = true) by decide)] at H; exact H
    clear H
    have H := H1
    clear H1
    have H' := Aside0.mk H
    clear H
    obtain ⟨hcz9_0, hcz9_1, hfz9_0, hfz9_1⟩ := k2 BK101.out
    go_wp2_with (first | ((with_reducible refine gate_callee (f := 19) rfl ?_); refine goesL_ (some 5) rfl rfl Tryd.func19 (by kernel_rfl) rfl #[.agg #[.int .i64 a0_0, .int .i64 a0_1]] rfl (by (try simp only [List.map_toArray, List.map_cons, List.map_nil]); first | done | rfl | (simp only [List.length_drop, List.length_take]; rfl)) ?_; (with_reducible refine (ratio_Right.calls a0_0 a0_1 false _ A4.out).mono ?_); rintro e w10 ⟨rfl, hb⟩; refine ⟨_, rfl, ?_⟩; replace BK101 := ab hb BK101; replace HB := hs hb HB; (try clear hb); (try clear hb2); (try clear hk); (try clear hi)))
    go_meet
    case rel => exact ⟨_, (true), (by first | rfl | (simp; done) | (simp [*]; done)), H', ⟨by first | omega | exact Nat.le_refl _⟩, ⟨by refine bk ?_; exact BK101.out⟩, ⟨by repeat (first | (with_reducible first | exact HB.out | apply below_alloc | apply pw_below_drewN | apply below_drew1 | refine below_set ?_ GE101.out) | exact HB.out)⟩⟩
  clear HC2
  obtain ⟨kq, x3_1, rfl, HA, HJ1, BK101, HB⟩ := hcut
  obtain _ | kj1 := kq
  · exact absurd HA.out (by simp [ratio_Time.j0])
  have H := HA.out
  clear HA
  simp only [ratio_Time.j0] at H
  by_cases c11 : x3_1 = true
  · subst c11
    have H1 : (some 12) = some r := by rw [if_pos rfl] at H; exact H
    clear H
    have H := H1
    clear H1
    obtain rfl := Option.some.inj H
    go_wp2
    go_ret
    exact ⟨by first | rfl | (simp [errW_none, errW_some] <;> rfl) | (simp [*, errW_none, errW_some] <;> rfl), by repeat (first | (with_reducible first | exact HB.out | apply below_alloc | apply pw_below_drewN | apply below_drew1 | refine below_set ?_ GE101.out) | exact HB.out)⟩
  replace c11 := Bool.eq_false_iff.mpr c11
  subst c11
  have H1 : (if a0_0 < 0 then (some 31) else ((ratio_Cmp.f a0_0 a0_1 360000 1).bind fun t103 => (if t103 > 0 then (some 31) else (some 0)))) = some r := by rw [if_neg (show ¬ (false = true) by decide)] at H; exact H
  clear H
  have H := H1
  clear H1
  by_cases c12 : a0_0 < 0
  · rw [if_pos c12] at H
    have c12b0 : decide (a0_0 < 0) = true := decide_eq_true c12
    clear c12
    obtain rfl := Option.some.inj H
    obtain ⟨hcz13_0, hcz13_1, hfz13_0, hfz13_1⟩ := k2 BK101.out
    go_wp2
    go_ret
    exact ⟨by first | rfl | (simp [errW_none, errW_some] <;> rfl) | (simp [*, errW_none, errW_some] <;> rfl), by repeat (first | (with_reducible first | exact HB.out | apply below_alloc | apply pw_below_drewN | apply below_drew1 | refine below_set ?_ GE101.out) | exact HB.out)⟩
  rw [if_neg c12] at H
  have c12b0 : decide (a0_0 < 0) = false := decide_eq_false c12
  clear c12
  replace H := Option.bind_eq_some_iff.mp H
  obtain ⟨t103, A140, H⟩ := H
  replace H : (if t103 > 0 then (some 31) else (some 0)) = some r := H
  have A14 := Aside0.mk A140
  clear A140
  by_cases c15 : t103 > 0
  · rw [if_pos c15] at H
    have c15b0 : decide (0 < t103) = true := decide_eq_true c15
    clear c15
    obtain rfl := Option.some.inj H
    obtain ⟨hcz16_0, hcz16_1, hfz16_0, hfz16_1⟩ := k2 BK101.out
    go_wp2_with (first | (go_at_call 32; (with_reducible refine (ratio_Cmp.calls a0_0 a0_1 360000 1 t103 _ A14.out).mono ?_); rintro e w17 ⟨rfl, hb⟩; replace BK101 := ab hb BK101; replace HB := hs hb HB; (try clear hb); (try clear hb2); (try clear hk); (try clear hi)))
    go_ret
    exact ⟨by first | rfl | (simp [errW_none, errW_some] <;> rfl) | (simp [*, errW_none, errW_some] <;> rfl), by repeat (first | (with_reducible first | exact HB.out | apply below_alloc | apply pw_below_drewN | apply below_drew1 | refine below_set ?_ GE101.out) | exact HB.out)⟩
  rw [if_neg c15] at H
  have c15b0 : decide (0 < t103) = false := decide_eq_false c15
  clear c15
  obtain rfl := Option.some.inj H
  obtain ⟨hcz18_0, hcz18_1, hfz18_0, hfz18_1⟩ := k2 BK101.out
  go_wp2_with (first | (go_at_call 32; (with_reducible refine (ratio_Cmp.calls a0_0 a0_1 360000 1 t103 _ A14.out).mono ?_); rintro e w19 ⟨rfl, hb⟩; replace BK101 := ab hb BK101; replace HB := hs hb HB; (try clear hb); (try clear hb2); (try clear hk); (try clear hi)))
  go_ret
  exact ⟨by first | rfl | (simp [errW_none, errW_some] <;> rfl) | (simp [*, errW_none, errW_some] <;> rfl), by repeat (first | (with_reducible first | exact HB.out | apply below_alloc | apply pw_below_drewN | apply below_drew1 | refine below_set ?_ GE101.out) | exact HB.out)⟩

end Go.Proofs.YtofndakpenpkbaaDoor.PTm
