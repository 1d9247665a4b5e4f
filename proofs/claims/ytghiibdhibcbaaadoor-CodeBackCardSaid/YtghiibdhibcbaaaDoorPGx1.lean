-- made by wip/pp2.py out of the translation, over contracts of my own
import Derived.Test.YtghiibdhibcbaaaDoorProg
import Derived.Below
import Derived.Deep.Draws
import Derived.Deep.AppendLies
import Derived.Maps.AppendAt
import Derived.OwnWalk
import Derived.Laws.BytesArg
import Derived.Laws.MakeOwn
import Derived.Laws.OwnMore
import Derived.Deep.OwnRows
import Derived.Tactics
import Derived.Lib.ConvBytes
import Derived.Laws.Slices
import Derived.WalkKit
import Derived.KernelRfl
import Derived.RowKit3
import Derived.Deep.LoopGhost
import Derived.Deep.QuietTactic
import Derived.BigQuiet
import Derived.WideLaws
import Derived.Deep.DeepCutAuto
import Derived.Deep.CutBlock
import Derived.Deep.RegionHeld3
import Derived.Laws.Rows
import Derived.Lib.AppendStr
import Derived.ArgAppend
import Derived.Laws.IdiomCopy
import Derived.OrdersHeld
import Derived.Laws.BitsLemmas
import Derived.RowKit
import Derived.Test.YtghiibdhibcbaaaDoorHand
import Derived.Test.YtghiibdhibcbaaaDoorXW
namespace Go.Proofs.YtghiibdhibcbaaaDoor.PG
open Go.RowKit Go.Proofs.YtghiibdhibcbaaaDoorW.PrintWords Go.Proofs.YtghiibdhibcbaaaDoorW.PrintLast Go.Proofs.YtghiibdhibcbaaaDoorW.PrintMore
set_option linter.unusedVariables false
set_option linter.unusedSimpArgs false



def errW : Option Int → Value
  | none => .nilIface
  | some c => .iface 0 (.int .i64 c)
theorem errW_none : errW none = .nilIface := rfl
theorem errW_some (c : Int) : errW (some c) = .iface 0 (.int .i64 c) := rfl

-- the values' own types

end Go.Proofs.YtghiibdhibcbaaaDoor.PG

namespace Go.Proofs.YtghiibdhibcbaaaDoor.PG
open Go.RowKit Go.Proofs.YtghiibdhibcbaaaDoorW.PrintWords Go.Proofs.YtghiibdhibcbaaaDoorW.PrintLast Go.Proofs.YtghiibdhibcbaaaDoorW.PrintMore
set_option linter.unusedVariables false
set_option linter.unusedSimpArgs false

/-! ### surtitleref3_common: function 88 -/
def surtitleref3_common.l0 : Nat → Int → Int → Option (Int)
  | 0, _, _ => none
  | k + 1, x0, x1 => if x1 = 0 then (some x0) else (surtitleref3_common.l0 k x1 (Int.tmod x0 x1))
def surtitleref3_common.f (k : Nat) (a0 : Int) (a1 : Int) : Option (Int) := surtitleref3_common.l0 k a0 a1
set_option maxHeartbeats 8000000 in
set_option maxRecDepth 100000 in
theorem surtitleref3_common.calls (k : Nat) (a0 : Int) (a1 : Int) (r : Int) (w : World) (h : surtitleref3_common.f k a0 a1 = some r) :
    Calls Tryd.prog 88 #[.int .u64 a0, .int .u64 a1] w fun e w' => e = .returned (.int .u64 r) ∧ Drawn0 w w' := by
  have H : (surtitleref3_common.l0 k a0 a1) = some r := h
  clear h
  have H' := Aside0.mk H
  clear H
  go_enter Tryd.func88, Tryd.ntmps88
  go_wp2
  repeat (go_quiet (fail); try go_wp2)
  go_loopg [0, 1] k (fun kq v0 v1 w' => ∃ (x0_1 : Int) (x1_1 : Int), v0 = .int .u64 x0_1 ∧ v1 = .int .u64 x1_1 ∧ Aside0 (surtitleref3_common.l0 kq x0_1 x1_1 = some r) ∧ Aside0 (kq ≤ k) ∧ Drawn0 w w')
  case atStart => exact ⟨(a0), (a1), (by first | rfl | (simp; done) | (simp [*]; done)), (by first | rfl | (simp; done) | (simp [*]; done)), H', ⟨Nat.le_refl _⟩, by repeat (first | exact Drawn0.refl _ | apply Drawn0.step)⟩
  case round =>
    clear H'
    obtain ⟨x0_1, x1_1, rfl, rfl, HA, HK1, ⟨m1, rfl⟩⟩ := hrel
    obtain _ | k1 := gk
    · exact absurd HA.out (by simp [surtitleref3_common.l0])
    have H := HA.out
    clear HA
    simp only [surtitleref3_common.l0] at H
    by_cases c3 : x1_1 = 0
    · rw [if_pos c3] at H
      have c3b0 : (x1_1 == 0) = true := beq_iff_eq.mpr c3
      have c3b1 : (x1_1 != 0) = false := bne_eq_false_iff_eq.mpr c3
      clear c3
      obtain rfl := Option.some.inj H
      go_wp2
      repeat (go_quiet (fail); try go_wp2)
      go_ret
      exact ⟨by first | rfl | (simp; done) | (simp [*]; done), by repeat (first | exact Drawn0.refl _ | apply Drawn0.step)⟩
    rw [if_neg c3] at H
    have c3b0 : (x1_1 == 0) = false := beq_eq_false_iff_ne.mpr c3
    have c3b1 : (x1_1 != 0) = true := bne_iff_ne.mpr c3
    have H' := Aside0.mk H
    clear H
    go_wp2
    repeat (go_quiet (fail); try go_wp2)
    go_roundg k1
    case measure => have := HK1.out; omega
    case rel => exact ⟨(x1_1), (Int.tmod x0_1 x1_1), (by first | rfl | (simp; done) | (simp [*]; done)), (by first | rfl | (simp; done) | (simp [*]; done)), H', ⟨by have := HK1.out; omega⟩, by repeat (first | exact Drawn0.refl _ | apply Drawn0.step)⟩

/-! ### surtitleref3_size: function 89 -/
def surtitleref3_size.f (a0 : Int) : Option (Int) := if a0 < 0 then (some (IntKind.u64.wrap (-(IntKind.u64.wrap (a0))))) else (some (IntKind.u64.wrap (a0)))
set_option maxHeartbeats 8000000 in
set_option maxRecDepth 100000 in
theorem surtitleref3_size.calls (a0 : Int) (r : Int) (w : World) (h : surtitleref3_size.f a0 = some r) :
    Calls Tryd.prog 89 #[.int .i64 a0] w fun e w' => e = .returned (.int .u64 r) ∧ Drawn0 w w' := by
  have H : (if a0 < 0 then (some (IntKind.u64.wrap (-(IntKind.u64.wrap (a0))))) else (some (IntKind.u64.wrap (a0)))) = some r := h
  clear h
  by_cases c2 : a0 < 0
  · rw [if_pos c2] at H
    have c2b0 : decide (a0 < 0) = true := decide_eq_true c2
    clear c2
    obtain rfl := Option.some.inj H
    go_enter Tryd.func89, Tryd.ntmps89
    go_wp2
    go_ret
    exact ⟨by first | rfl | (simp; done) | (simp [*]; done), by repeat (first | exact Drawn0.refl _ | apply Drawn0.step)⟩
  rw [if_neg c2] at H
  have c2b0 : decide (a0 < 0) = false := decide_eq_false c2
  clear c2
  obtain rfl := Option.some.inj H
  go_enter Tryd.func89, Tryd.ntmps89
  go_wp2
  go_ret
  exact ⟨by first | rfl | (simp; done) | (simp [*]; done), by repeat (first | exact Drawn0.refl _ | apply Drawn0.step)⟩

/-! ### surtitleref3_Right: function 69 -/
def surtitleref3_Right.f (k : Nat) (a0_0 : Int) (a0_1 : Int) : Option (Bool) := if a0_1 ≥ 1 then (if a0_1 ≤ 2147483648 then (if a0_0 ≥ (-4611686018427387904) then (if a0_0 ≤ 4611686018427387904 then ((surtitleref3_size.f a0_0).bind fun t102 => ((surtitleref3_common.f k t102 (IntKind.u64.wrap (a0_1))).bind fun t103 => (some (t103 == 1)))) else (some false)) else (some false)) else (some false)) else (some false)
set_option maxHeartbeats 8000000 in
set_option maxRecDepth 100000 in
theorem surtitleref3_Right.calls (k : Nat) (a0_0 : Int) (a0_1 : Int) (r : Bool) (w : World) (h : surtitleref3_Right.f k a0_0 a0_1 = some r) :
    Calls Tryd.prog 69 #[.agg #[.int .i64 a0_0, .int .i64 a0_1]] w fun e w' => e = .returned (.bool r) ∧ Below w.heap.size w w' := by
  have hu26 := Tryd.underlying26
  have HB := Aside0.mk (Below.refl w.heap.size w)
  have H : (if a0_1 ≥ 1 then (if a0_1 ≤ 2147483648 then (if a0_0 ≥ (-4611686018427387904) then (if a0_0 ≤ 4611686018427387904 then ((surtitleref3_size.f a0_0).bind fun t102 => ((surtitleref3_common.f k t102 (IntKind.u64.wrap (a0_1))).bind fun t103 => (some (t103 == 1)))) else (some false)) else (some false)) else (some false)) else (some false)) = some r := h
  clear h
  by_cases c2 : a0_1 ≥ 1
  · rw [if_pos c2] at H
    have c2b0 : decide (1 ≤ a0_1) = true := decide_eq_true c2
    clear c2
    by_cases c3 : a0_1 ≤ 2147483648
    · rw [if_pos c3] at H
      have c3b0 : decide (a0_1 ≤ 2147483648) = true := decide_eq_true c3
      clear c3
      by_cases c4 : a0_0 ≥ (-4611686018427387904)
      · rw [if_pos c4] at H
        have c4b0 : decide ((-4611686018427387904) ≤ a0_0) = true := decide_eq_true c4
        clear c4
        by_cases c5 : a0_0 ≤ 4611686018427387904
        · rw [if_pos c5] at H
          have c5b0 : decide (a0_0 ≤ 4611686018427387904) = true := decide_eq_true c5
          clear c5
          replace H := Option.bind_eq_some_iff.mp H
          obtain ⟨t102, A60, H⟩ := H
          replace H : ((surtitleref3_common.f k t102 (IntKind.u64.wrap (a0_1))).bind fun t103 => (some (t103 == 1))) = some r := H
          have A6 := Aside0.mk A60
          clear A60
          replace H := Option.bind_eq_some_iff.mp H
          obtain ⟨t103, A70, H⟩ := H
          replace H : (some (t103 == 1)) = some r := H
          have A7 := Aside0.mk A70
          clear A70
          obtain rfl := Option.some.inj H
          go_enter Tryd.func69, Tryd.ntmps69
          go_wp2_with (first | ((with_reducible refine gate_dst (N := 1) rfl ?_); refine box_event ?hg (N := 1) ?hd (cs := #[.int .i64 a0_0, .int .i64 a0_1]) (t := 26) ?hr ?_; (case hd => rfl); (case hg => rfl); (case hr => first | (go_simp; done) | (go_simp; rfl)); intro gb101 hg w8 hbox hb; have BK101 := Aside0.mk (hbox); have GW101 := ag hg HB; have GE101 := ag hg HB; replace HB := hs hb HB; clear hb hbox hg; obtain ⟨hcz9_0, hcz9_1, hfz9_0, hfz9_1⟩ := k2 BK101.out) | (go_at_call 89; (with_reducible refine (surtitleref3_size.calls a0_0 t102 _ A6.out).mono ?_); rintro e w' ⟨rfl, ⟨nd, rfl⟩⟩; (try first | exact ⟨rfl, _, World.drewN_drewN _ _ _⟩ | exact ⟨rfl, _, Eq.trans (World.drewN_drewN _ _ _) (congrArg (World.drewN _) (Nat.add_assoc _ _ _))⟩)) | (go_at_call 88; (with_reducible refine (surtitleref3_common.calls k t102 (IntKind.u64.wrap (a0_1)) t103 _ A7.out).mono ?_); rintro e w' ⟨rfl, ⟨nd, rfl⟩⟩; (try first | exact ⟨rfl, _, World.drewN_drewN _ _ _⟩ | exact ⟨rfl, _, Eq.trans (World.drewN_drewN _ _ _) (congrArg (World.drewN _) (Nat.add_assoc _ _ _))⟩)))
          repeat (go_quiet (first | ((with_reducible refine gate_dst (N := 1) rfl ?_); refine box_event ?hg (N := 1) ?hd (cs := #[.int .i64 a0_0, .int .i64 a0_1]) (t := 26) ?hr ?_; (case hd => rfl); (case hg => rfl); (case hr => first | (go_simp; done) | (go_simp; rfl)); intro gb101 hg w8 hbox hb; have BK101 := Aside0.mk (hbox); have GW101 := ag hg HB; have GE101 := ag hg HB; replace HB := hs hb HB; clear hb hbox hg; obtain ⟨hcz9_0, hcz9_1, hfz9_0, hfz9_1⟩ := k2 BK101.out) | (go_at_call 89; (with_reducible refine (surtitleref3_size.calls a0_0 t102 _ A6.out).mono ?_); rintro e w' ⟨rfl, ⟨nd, rfl⟩⟩; (try first | exact ⟨rfl, _, World.drewN_drewN _ _ _⟩ | exact ⟨rfl, _, Eq.trans (World.drewN_drewN _ _ _) (congrArg (World.drewN _) (Nat.add_assoc _ _ _))⟩)) | (go_at_call 88; (with_reducible refine (surtitleref3_common.calls k t102 (IntKind.u64.wrap (a0_1)) t103 _ A7.out).mono ?_); rintro e w' ⟨rfl, ⟨nd, rfl⟩⟩; (try first | exact ⟨rfl, _, World.drewN_drewN _ _ _⟩ | exact ⟨rfl, _, Eq.trans (World.drewN_drewN _ _ _) (congrArg (World.drewN _) (Nat.add_assoc _ _ _))⟩))); try go_wp2_with (first | ((with_reducible refine gate_dst (N := 1) rfl ?_); refine box_event ?hg (N := 1) ?hd (cs := #[.int .i64 a0_0, .int .i64 a0_1]) (t := 26) ?hr ?_; (case hd => rfl); (case hg => rfl); (case hr => first | (go_simp; done) | (go_simp; rfl)); intro gb101 hg w8 hbox hb; have BK101 := Aside0.mk (hbox); have GW101 := ag hg HB; have GE101 := ag hg HB; replace HB := hs hb HB; clear hb hbox hg; obtain ⟨hcz9_0, hcz9_1, hfz9_0, hfz9_1⟩ := k2 BK101.out) | (go_at_call 89; (with_reducible refine (surtitleref3_size.calls a0_0 t102 _ A6.out).mono ?_); rintro e w' ⟨rfl, ⟨nd, rfl⟩⟩; (try first | exact ⟨rfl, _, World.drewN_drewN _ _ _⟩ | exact ⟨rfl, _, Eq.trans (World.drewN_drewN _ _ _) (congrArg (World.drewN _) (Nat.add_assoc _ _ _))⟩)) | (go_at_call 88; (with_reducible refine (surtitleref3_common.calls k t102 (IntKind.u64.wrap (a0_1)) t103 _ A7.out).mono ?_); rintro e w' ⟨rfl, ⟨nd, rfl⟩⟩; (try first | exact ⟨rfl, _, World.drewN_drewN _ _ _⟩ | exact ⟨rfl, _, Eq.trans (World.drewN_drewN _ _ _) (congrArg (World.drewN _) (Nat.add_assoc _ _ _))⟩))))
          go_ret
          exact ⟨by first | rfl | (simp [errW_none, errW_some] <;> rfl) | (simp [*, errW_none, errW_some] <;> rfl), by repeat (first | (with_reducible first | exact HB.out | apply below_alloc | apply pw_below_drewN | apply below_drew1 | refine below_set ?_ GE101.out) | exact HB.out)⟩
        rw [if_neg c5] at H
        have c5b0 : decide (a0_0 ≤ 4611686018427387904) = false := decide_eq_false c5
        clear c5
        obtain rfl := Option.some.inj H
        go_enter Tryd.func69, Tryd.ntmps69
        go_wp2_with (first | ((with_reducible refine gate_dst (N := 1) rfl ?_); refine box_event ?hg (N := 1) ?hd (cs := #[.int .i64 a0_0, .int .i64 a0_1]) (t := 26) ?hr ?_; (case hd => rfl); (case hg => rfl); (case hr => first | (go_simp; done) | (go_simp; rfl)); intro gb101 hg w10 hbox hb; have BK101 := Aside0.mk (hbox); have GW101 := ag hg HB; have GE101 := ag hg HB; replace HB := hs hb HB; clear hb hbox hg; obtain ⟨hcz11_0, hcz11_1, hfz11_0, hfz11_1⟩ := k2 BK101.out))
        repeat (go_quiet (first | ((with_reducible refine gate_dst (N := 1) rfl ?_); refine box_event ?hg (N := 1) ?hd (cs := #[.int .i64 a0_0, .int .i64 a0_1]) (t := 26) ?hr ?_; (case hd => rfl); (case hg => rfl); (case hr => first | (go_simp; done) | (go_simp; rfl)); intro gb101 hg w10 hbox hb; have BK101 := Aside0.mk (hbox); have GW101 := ag hg HB; have GE101 := ag hg HB; replace HB := hs hb HB; clear hb hbox hg; obtain ⟨hcz11_0, hcz11_1, hfz11_0, hfz11_1⟩ := k2 BK101.out)); try go_wp2_with (first | ((with_reducible refine gate_dst (N := 1) rfl ?_); refine box_event ?hg (N := 1) ?hd (cs := #[.int .i64 a0_0, .int .i64 a0_1]) (t := 26) ?hr ?_; (case hd => rfl); (case hg => rfl); (case hr => first | (go_simp; done) | (go_simp; rfl)); intro gb101 hg w10 hbox hb; have BK101 := Aside0.mk (hbox); have GW101 := ag hg HB; have GE101 := ag hg HB; replace HB := hs hb HB; clear hb hbox hg; obtain ⟨hcz11_0, hcz11_1, hfz11_0, hfz11_1⟩ := k2 BK101.out)))
        go_ret
        exact ⟨by first | rfl | (simp [errW_none, errW_some] <;> rfl) | (simp [*, errW_none, errW_some] <;> rfl), by repeat (first | (with_reducible first | exact HB.out | apply below_alloc | apply pw_below_drewN | apply below_drew1 | refine below_set ?_ GE101.out) | exact HB.out)⟩
      rw [if_neg c4] at H
      have c4b0 : decide ((-4611686018427387904) ≤ a0_0) = false := decide_eq_false c4
      clear c4
      obtain rfl := Option.some.inj H
      go_enter Tryd.func69, Tryd.ntmps69
      go_wp2_with (first | ((with_reducible refine gate_dst (N := 1) rfl ?_); refine box_event ?hg (N := 1) ?hd (cs := #[.int .i64 a0_0, .int .i64 a0_1]) (t := 26) ?hr ?_; (case hd => rfl); (case hg => rfl); (case hr => first | (go_simp; done) | (go_simp; rfl)); intro gb101 hg w12 hbox hb; have BK101 := Aside0.mk (hbox); have GW101 := ag hg HB; have GE101 := ag hg HB; replace HB := hs hb HB; clear hb hbox hg; obtain ⟨hcz13_0, hcz13_1, hfz13_0, hfz13_1⟩ := k2 BK101.out))
      repeat (go_quiet (first | ((with_reducible refine gate_dst (N := 1) rfl ?_); refine box_event ?hg (N := 1) ?hd (cs := #[.int .i64 a0_0, .int .i64 a0_1]) (t := 26) ?hr ?_; (case hd => rfl); (case hg => rfl); (case hr => first | (go_simp; done) | (go_simp; rfl)); intro gb101 hg w12 hbox hb; have BK101 := Aside0.mk (hbox); have GW101 := ag hg HB; have GE101 := ag hg HB; replace HB := hs hb HB; clear hb hbox hg; obtain ⟨hcz13_0, hcz13_1, hfz13_0, hfz13_1⟩ := k2 BK101.out)); try go_wp2_with (first | ((with_reducible refine gate_dst (N := 1) rfl ?_); refine box_event ?hg (N := 1) ?hd (cs := #[.int .i64 a0_0, .int .i64 a0_1]) (t := 26) ?hr ?_; (case hd => rfl); (case hg => rfl); (case hr => first | (go_simp; done) | (go_simp; rfl)); intro gb101 hg w12 hbox hb; have BK101 := Aside0.mk (hbox); have GW101 := ag hg HB; have GE101 := ag hg HB; replace HB := hs hb HB; clear hb hbox hg; obtain ⟨hcz13_0, hcz13_1, hfz13_0, hfz13_1⟩ := k2 BK101.out)))
      go_ret
      exact ⟨by first | rfl | (simp [errW_none, errW_some] <;> rfl) | (simp [*, errW_none, errW_some] <;> rfl), by repeat (first | (with_reducible first | exact HB.out | apply below_alloc | apply pw_below_drewN | apply below_drew1 | refine below_set ?_ GE101.out) | exact HB.out)⟩
    rw [if_neg c3] at H
    have c3b0 : decide (a0_1 ≤ 2147483648) = false := decide_eq_false c3
    clear c3
    obtain rfl := Option.some.inj H
    go_enter Tryd.func69, Tryd.ntmps69
    go_wp2_with (first | ((with_reducible refine gate_dst (N := 1) rfl ?_); refine box_event ?hg (N := 1) ?hd (cs := #[.int .i64 a0_0, .int .i64 a0_1]) (t := 26) ?hr ?_; (case hd => rfl); (case hg => rfl); (case hr => first | (go_simp; done) | (go_simp; rfl)); intro gb101 hg w14 hbox hb; have BK101 := Aside0.mk (hbox); have GW101 := ag hg HB; have GE101 := ag hg HB; replace HB := hs hb HB; clear hb hbox hg; obtain ⟨hcz15_0, hcz15_1, hfz15_0, hfz15_1⟩ := k2 BK101.out))
    repeat (go_quiet (first | ((with_reducible refine gate_dst (N := 1) rfl ?_); refine box_event ?hg (N := 1) ?hd (cs := #[.int .i64 a0_0, .int .i64 a0_1]) (t := 26) ?hr ?_; (case hd => rfl); (case hg => rfl); (case hr => first | (go_simp; done) | (go_simp; rfl)); intro gb101 hg w14 hbox hb; have BK101 := Aside0.mk (hbox); have GW101 := ag hg HB; have GE101 := ag hg HB; replace HB := hs hb HB; clear hb hbox hg; obtain ⟨hcz15_0, hcz15_1, hfz15_0, hfz15_1⟩ := k2 BK101.out)); try go_wp2_with (first | ((with_reducible refine gate_dst (N := 1) rfl ?_); refine box_event ?hg (N := 1) ?hd (cs := #[.int .i64 a0_0, .int .i64 a0_1]) (t := 26) ?hr ?_; (case hd => rfl); (case hg => rfl); (case hr => first | (go_simp; done) | (go_simp; rfl)); intro gb101 hg w14 hbox hb; have BK101 := Aside0.mk (hbox); have GW101 := ag hg HB; have GE101 := ag hg HB; replace HB := hs hb HB; clear hb hbox hg; obtain ⟨hcz15_0, hcz15_1, hfz15_0, hfz15_1⟩ := k2 BK101.out)))
    go_ret
    exact ⟨by first | rfl | (simp [errW_none, errW_some] <;> rfl) | (simp [*, errW_none, errW_some] <;> rfl), by repeat (first | (with_reducible first | exact HB.out | apply below_alloc | apply pw_below_drewN | apply below_drew1 | refine below_set ?_ GE101.out) | exact HB.out)⟩
  rw [if_neg c2] at H
  have c2b0 : decide (1 ≤ a0_1) = false := decide_eq_false c2
  clear c2
  obtain rfl := Option.some.inj H
  go_enter Tryd.func69, Tryd.ntmps69
  go_wp2_with (first | ((with_reducible refine gate_dst (N := 1) rfl ?_); refine box_event ?hg (N := 1) ?hd (cs := #[.int .i64 a0_0, .int .i64 a0_1]) (t := 26) ?hr ?_; (case hd => rfl); (case hg => rfl); (case hr => first | (go_simp; done) | (go_simp; rfl)); intro gb101 hg w16 hbox hb; have BK101 := Aside0.mk (hbox); have GW101 := ag hg HB; have GE101 := ag hg HB; replace HB := hs hb HB; clear hb hbox hg; obtain ⟨hcz17_0, hcz17_1, hfz17_0, hfz17_1⟩ := k2 BK101.out))
  repeat (go_quiet (first | ((with_reducible refine gate_dst (N := 1) rfl ?_); refine box_event ?hg (N := 1) ?hd (cs := #[.int .i64 a0_0, .int .i64 a0_1]) (t := 26) ?hr ?_; (case hd => rfl); (case hg => rfl); (case hr => first | (go_simp; done) | (go_simp; rfl)); intro gb101 hg w16 hbox hb; have BK101 := Aside0.mk (hbox); have GW101 := ag hg HB; have GE101 := ag hg HB; replace HB := hs hb HB; clear hb hbox hg; obtain ⟨hcz17_0, hcz17_1, hfz17_0, hfz17_1⟩ := k2 BK101.out)); try go_wp2_with (first | ((with_reducible refine gate_dst (N := 1) rfl ?_); refine box_event ?hg (N := 1) ?hd (cs := #[.int .i64 a0_0, .int .i64 a0_1]) (t := 26) ?hr ?_; (case hd => rfl); (case hg => rfl); (case hr => first | (go_simp; done) | (go_simp; rfl)); intro gb101 hg w16 hbox hb; have BK101 := Aside0.mk (hbox); have GW101 := ag hg HB; have GE101 := ag hg HB; replace HB := hs hb HB; clear hb hbox hg; obtain ⟨hcz17_0, hcz17_1, hfz17_0, hfz17_1⟩ := k2 BK101.out)))
  go_ret
  exact ⟨by first | rfl | (simp [errW_none, errW_some] <;> rfl) | (simp [*, errW_none, errW_some] <;> rfl), by repeat (first | (with_reducible first | exact HB.out | apply below_alloc | apply pw_below_drewN | apply below_drew1 | refine below_set ?_ GE101.out) | exact HB.out)⟩

/-! ### surtitleref3_right: function 114 -/
def surtitleref3_right.f (a0_0 : Bool) (a0_1 : Int) (a0_2 : Int) : Option (Bool × Int × Int) := if a0_1 = 0 then (if a0_2 = 0 then (some (false, a0_1, a0_2)) else (some (a0_0, a0_1, a0_2))) else (some (a0_0, a0_1, a0_2))
set_option maxHeartbeats 8000000 in
set_option maxRecDepth 100000 in
theorem surtitleref3_right.calls (a0_0 : Bool) (a0_1 : Int) (a0_2 : Int) (r1 : Bool) (r2 : Int) (r3 : Int) (w : World) (h : surtitleref3_right.f a0_0 a0_1 a0_2 = some (r1, r2, r3)) :
    Calls Tryd.prog 114 #[.agg #[.bool a0_0, .int .u64 a0_1, .int .u64 a0_2]] w fun e w' => e = .returned (.agg #[.bool r1, .int .u64 r2, .int .u64 r3]) ∧ Below w.heap.size w w' := by
  have hu115 := Tryd.underlying115
  have HB := Aside0.mk (Below.refl w.heap.size w)
  have H : (if a0_1 = 0 then (if a0_2 = 0 then (some (false, a0_1, a0_2)) else (some (a0_0, a0_1, a0_2))) else (some (a0_0, a0_1, a0_2))) = some (r1, r2, r3) := h
  clear h
  by_cases c2 : a0_1 = 0
  · rw [if_pos c2] at H
    have c2b0 : (a0_1 == 0) = true := beq_iff_eq.mpr c2
    have c2b1 : (a0_1 != 0) = false := bne_eq_false_iff_eq.mpr c2
    clear c2
    by_cases c3 : a0_2 = 0
    · rw [if_pos c3] at H
      have c3b0 : (a0_2 == 0) = true := beq_iff_eq.mpr c3
      have c3b1 : (a0_2 != 0) = false := bne_eq_false_iff_eq.mpr c3
      clear c3
      simp only [Option.some.injEq, Prod.mk.injEq] at H
      obtain ⟨rfl, rfl, rfl⟩ := H
      go_enter Tryd.func114, Tryd.ntmps114
      go_wp2_with (first | ((with_reducible refine gate_dst (N := 1) rfl ?_); refine box_event ?hg (N := 1) ?hd (cs := #[.bool a0_0, .int .u64 a0_1, .int .u64 a0_2]) (t := 115) ?hr ?_; (case hd => rfl); (case hg => rfl); (case hr => first | (go_simp; done) | (go_simp; rfl)); intro gb104 hg w4 hbox hb; have BK104 := Aside0.mk (hbox); have GW104 := ag hg HB; have GE104 := ag hg HB; replace HB := hs hb HB; clear hb hbox hg) | ((with_reducible refine gate_dst (N := 2) rfl ?_); refine box_event ?hg (N := 2) ?hd (cs := #[.bool false, .int .u64 0, .int .u64 0]) (t := 115) ?hr ?_; (case hd => rfl); (case hg => rfl); (case hr => first | (go_simp; done) | (go_simp; rfl)); intro gb105 hg w5 hbox hb; have BK105 := Aside0.mk (hbox); have GW105 := ag hg HB; have GE105 := ag hg HB; have NB104_105 := na hg BK104; have NB105_104 := nb hg BK104; replace BK104 := ab hb BK104; replace HB := hs hb HB; clear hb hbox hg; have hnb6 := NB104_105.out; have hnc6 := NB105_104.out; obtain ⟨hcz7_0, hcz7_1, hcz7_2, hfz7_0, hfz7_1, hfz7_2⟩ := k3 BK104.out; obtain ⟨hcz8_0, hcz8_1, hcz8_2, hfz8_0, hfz8_1, hfz8_2⟩ := k3 BK105.out))
      refine bodyPost_ret (results_cell_row rfl _ _ gb105 115 #[.bool false, .int .u64 a0_1, .int .u64 a0_2] (0, 0) _ rfl (by refine bk ?_; refine blk_put (cs := #[.bool false, .int .u64 a0_1, .int .u64 0]) ?_ 2 _ rfl; refine bk ?_; refine blk_put (cs := #[.bool false, .int .u64 0, .int .u64 0]) ?_ 1 _ rfl; refine bk ?_; refine blk_put (cs := #[.bool false, .int .u64 0, .int .u64 0]) ?_ 0 _ rfl; refine bk ?_; exact BK105.out) Tryd.underlying115 rfl (by kernel_rfl)) rfl ?_
      exact ⟨by first | rfl | (simp [errW_none, errW_some] <;> rfl) | (simp [*, errW_none, errW_some] <;> rfl), by repeat (first | (with_reducible first | exact HB.out | apply below_alloc | apply pw_below_drewN | apply below_drew1 | refine below_set ?_ GE104.out | refine below_set ?_ GE105.out) | exact HB.out)⟩
    rw [if_neg c3] at H
    have c3b0 : (a0_2 == 0) = false := beq_eq_false_iff_ne.mpr c3
    have c3b1 : (a0_2 != 0) = true := bne_iff_ne.mpr c3
    simp only [Option.some.injEq, Prod.mk.injEq] at H
    obtain ⟨rfl, rfl, rfl⟩ := H
    go_enter Tryd.func114, Tryd.ntmps114
    go_wp2_with (first | ((with_reducible refine gate_dst (N := 1) rfl ?_); refine box_event ?hg (N := 1) ?hd (cs := #[.bool a0_0, .int .u64 a0_1, .int .u64 a0_2]) (t := 115) ?hr ?_; (case hd => rfl); (case hg => rfl); (case hr => first | (go_simp; done) | (go_simp; rfl)); intro gb104 hg w9 hbox hb; have BK104 := Aside0.mk (hbox); have GW104 := ag hg HB; have GE104 := ag hg HB; replace HB := hs hb HB; clear hb hbox hg) | ((with_reducible refine gate_dst (N := 2) rfl ?_); refine box_event ?hg (N := 2) ?hd (cs := #[.bool false, .int .u64 0, .int .u64 0]) (t := 115) ?hr ?_; (case hd => rfl); (case hg => rfl); (case hr => first | (go_simp; done) | (go_simp; rfl)); intro gb105 hg w10 hbox hb; have BK105 := Aside0.mk (hbox); have GW105 := ag hg HB; have GE105 := ag hg HB; have NB104_105 := na hg BK104; have NB105_104 := nb hg BK104; replace BK104 := ab hb BK104; replace HB := hs hb HB; clear hb hbox hg; have hnb11 := NB104_105.out; have hnc11 := NB105_104.out; obtain ⟨hcz12_0, hcz12_1, hcz12_2, hfz12_0, hfz12_1, hfz12_2⟩ := k3 BK104.out; obtain ⟨hcz13_0, hcz13_1, hcz13_2, hfz13_0, hfz13_1, hfz13_2⟩ := k3 BK105.out))
    refine bodyPost_ret (results_cell_row rfl _ _ gb105 115 #[.bool a0_0, .int .u64 a0_1, .int .u64 a0_2] (0, 0) _ rfl (by refine bk ?_; refine blk_put (cs := #[.bool a0_0, .int .u64 a0_1, .int .u64 0]) ?_ 2 _ rfl; refine bk ?_; refine blk_put (cs := #[.bool a0_0, .int .u64 0, .int .u64 0]) ?_ 1 _ rfl; refine bk ?_; refine blk_put (cs := #[.bool false, .int .u64 0, .int .u64 0]) ?_ 0 _ rfl; refine bk ?_; exact BK105.out) Tryd.underlying115 rfl (by kernel_rfl)) rfl ?_
    exact ⟨by first | rfl | (simp [errW_none, errW_some] <;> rfl) | (simp [*, errW_none, errW_some] <;> rfl), by repeat (first | (with_reducible first | exact HB.out | apply below_alloc | apply pw_below_drewN | apply below_drew1 | refine below_set ?_ GE104.out | refine below_set ?_ GE105.out) | exact HB.out)⟩
  rw [if_neg c2] at H
  have c2b0 : (a0_1 == 0) = false := beq_eq_false_iff_ne.mpr c2
  have c2b1 : (a0_1 != 0) = true := bne_iff_ne.mpr c2
  simp only [Option.some.injEq, Prod.mk.injEq] at H
  obtain ⟨rfl, rfl, rfl⟩ := H
  go_enter Tryd.func114, Tryd.ntmps114
  go_wp2_with (first | ((with_reducible refine gate_dst (N := 1) rfl ?_); refine box_event ?hg (N := 1) ?hd (cs := #[.bool a0_0, .int .u64 a0_1, .int .u64 a0_2]) (t := 115) ?hr ?_; (case hd => rfl); (case hg => rfl); (case hr => first | (go_simp; done) | (go_simp; rfl)); intro gb104 hg w14 hbox hb; have BK104 := Aside0.mk (hbox); have GW104 := ag hg HB; have GE104 := ag hg HB; replace HB := hs hb HB; clear hb hbox hg) | ((with_reducible refine gate_dst (N := 2) rfl ?_); refine box_event ?hg (N := 2) ?hd (cs := #[.bool false, .int .u64 0, .int .u64 0]) (t := 115) ?hr ?_; (case hd => rfl); (case hg => rfl); (case hr => first | (go_simp; done) | (go_simp; rfl)); intro gb105 hg w15 hbox hb; have BK105 := Aside0.mk (hbox); have GW105 := ag hg HB; have GE105 := ag hg HB; have NB104_105 := na hg BK104; have NB105_104 := nb hg BK104; replace BK104 := ab hb BK104; replace HB := hs hb HB; clear hb hbox hg; have hnb16 := NB104_105.out; have hnc16 := NB105_104.out; obtain ⟨hcz17_0, hcz17_1, hcz17_2, hfz17_0, hfz17_1, hfz17_2⟩ := k3 BK104.out; obtain ⟨hcz18_0, hcz18_1, hcz18_2, hfz18_0, hfz18_1, hfz18_2⟩ := k3 BK105.out))
  refine bodyPost_ret (results_cell_row rfl _ _ gb105 115 #[.bool a0_0, .int .u64 a0_1, .int .u64 a0_2] (0, 0) _ rfl (by refine bk ?_; refine blk_put (cs := #[.bool a0_0, .int .u64 a0_1, .int .u64 0]) ?_ 2 _ rfl; refine bk ?_; refine blk_put (cs := #[.bool a0_0, .int .u64 0, .int .u64 0]) ?_ 1 _ rfl; refine bk ?_; refine blk_put (cs := #[.bool false, .int .u64 0, .int .u64 0]) ?_ 0 _ rfl; refine bk ?_; exact BK105.out) Tryd.underlying115 rfl (by kernel_rfl)) rfl ?_
  exact ⟨by first | rfl | (simp [errW_none, errW_some] <;> rfl) | (simp [*, errW_none, errW_some] <;> rfl), by repeat (first | (with_reducible first | exact HB.out | apply below_alloc | apply pw_below_drewN | apply below_drew1 | refine below_set ?_ GE104.out | refine below_set ?_ GE105.out) | exact HB.out)⟩

/-! ### surtitleref3_Times: function 90 -/
def surtitleref3_Times.f (a0 : Int) (a1 : Int) : Option (Bool × Int × Int) := (surtitleref3_size.f a0).bind fun t107 => ((surtitleref3_size.f a1).bind fun t108 => ((surtitleref3_right.f ((decide (a0 < 0)) != (decide (a1 < 0))) (IntKind.u64.wrap ((IntKind.u64.wrap ((IntKind.u64.wrap ((t107 / 4294967296) * (t108 / 4294967296))) + ((IntKind.u64.wrap ((IntKind.u64.wrap ((t107 / 4294967296) * (Go.bits .and .u64 t108 4294967295))) + ((IntKind.u64.wrap ((Go.bits .and .u64 t107 4294967295) * (Go.bits .and .u64 t108 4294967295))) / 4294967296))) / 4294967296))) + ((IntKind.u64.wrap ((IntKind.u64.wrap ((Go.bits .and .u64 t107 4294967295) * (t108 / 4294967296))) + (Go.bits .and .u64 (IntKind.u64.wrap ((IntKind.u64.wrap ((t107 / 4294967296) * (Go.bits .and .u64 t108 4294967295))) + ((IntKind.u64.wrap ((Go.bits .and .u64 t107 4294967295) * (Go.bits .and .u64 t108 4294967295))) / 4294967296))) 4294967295))) / 4294967296))) (IntKind.u64.wrap (t107 * t108))).bind fun bt109 => (some (bt109.1, bt109.2.1, bt109.2.2))))
set_option maxHeartbeats 8000000 in
set_option maxRecDepth 100000 in
theorem surtitleref3_Times.calls (a0 : Int) (a1 : Int) (r1 : Bool) (r2 : Int) (r3 : Int) (w : World) (h : surtitleref3_Times.f a0 a1 = some (r1, r2, r3)) :
    Calls Tryd.prog 90 #[.int .i64 a0, .int .i64 a1] w fun e w' => e = .returned (.agg #[.bool r1, .int .u64 r2, .int .u64 r3]) ∧ Below w.heap.size w w' := by
  have hu115 := Tryd.underlying115
  have HB := Aside0.mk (Below.refl w.heap.size w)
  have H : ((surtitleref3_size.f a0).bind fun t107 => ((surtitleref3_size.f a1).bind fun t108 => ((surtitleref3_right.f ((decide (a0 < 0)) != (decide (a1 < 0))) (IntKind.u64.wrap ((IntKind.u64.wrap ((IntKind.u64.wrap ((t107 / 4294967296) * (t108 / 4294967296))) + ((IntKind.u64.wrap ((IntKind.u64.wrap ((t107 / 4294967296) * (Go.bits .and .u64 t108 4294967295))) + ((IntKind.u64.wrap ((Go.bits .and .u64 t107 4294967295) * (Go.bits .and .u64 t108 4294967295))) / 4294967296))) / 4294967296))) + ((IntKind.u64.wrap ((IntKind.u64.wrap ((Go.bits .and .u64 t107 4294967295) * (t108 / 4294967296))) + (Go.bits .and .u64 (IntKind.u64.wrap ((IntKind.u64.wrap ((t107 / 4294967296) * (Go.bits .and .u64 t108 4294967295))) + ((IntKind.u64.wrap ((Go.bits .and .u64 t107 4294967295) * (Go.bits .and .u64 t108 4294967295))) / 4294967296))) 4294967295))) / 4294967296))) (IntKind.u64.wrap (t107 * t108))).bind fun bt109 => (some (bt109.1, bt109.2.1, bt109.2.2))))) = some (r1, r2, r3) := h
  clear h
  replace H := Option.bind_eq_some_iff.mp H
  obtain ⟨t107, A30, H⟩ := H
  replace H : ((surtitleref3_size.f a1).bind fun t108 => ((surtitleref3_right.f ((decide (a0 < 0)) != (decide (a1 < 0))) (IntKind.u64.wrap ((IntKind.u64.wrap ((IntKind.u64.wrap ((t107 / 4294967296) * (t108 / 4294967296))) + ((IntKind.u64.wrap ((IntKind.u64.wrap ((t107 / 4294967296) * (Go.bits .and .u64 t108 4294967295))) + ((IntKind.u64.wrap ((Go.bits .and .u64 t107 4294967295) * (Go.bits .and .u64 t108 4294967295))) / 4294967296))) / 4294967296))) + ((IntKind.u64.wrap ((IntKind.u64.wrap ((Go.bits .and .u64 t107 4294967295) * (t108 / 4294967296))) + (Go.bits .and .u64 (IntKind.u64.wrap ((IntKind.u64.wrap ((t107 / 4294967296) * (Go.bits .and .u64 t108 4294967295))) + ((IntKind.u64.wrap ((Go.bits .and .u64 t107 4294967295) * (Go.bits .and .u64 t108 4294967295))) / 4294967296))) 4294967295))) / 4294967296))) (IntKind.u64.wrap (t107 * t108))).bind fun bt109 => (some (bt109.1, bt109.2.1, bt109.2.2)))) = some (r1, r2, r3) := H
  have A3 := Aside0.mk A30
  clear A30
  replace H := Option.bind_eq_some_iff.mp H
  obtain ⟨t108, A40, H⟩ := H
  replace H : ((surtitleref3_right.f ((decide (a0 < 0)) != (decide (a1 < 0))) (IntKind.u64.wrap ((IntKind.u64.wrap ((IntKind.u64.wrap ((t107 / 4294967296) * (t108 / 4294967296))) + ((IntKind.u64.wrap ((IntKind.u64.wrap ((t107 / 4294967296) * (Go.bits .and .u64 t108 4294967295))) + ((IntKind.u64.wrap ((Go.bits .and .u64 t107 4294967295) * (Go.bits .and .u64 t108 4294967295))) / 4294967296))) / 4294967296))) + ((IntKind.u64.wrap ((IntKind.u64.wrap ((Go.bits .and .u64 t107 4294967295) * (t108 / 4294967296))) + (Go.bits .and .u64 (IntKind.u64.wrap ((IntKind.u64.wrap ((t107 / 4294967296) * (Go.bits .and .u64 t108 4294967295))) + ((IntKind.u64.wrap ((Go.bits .and .u64 t107 4294967295) * (Go.bits .and .u64 t108 4294967295))) / 4294967296))) 4294967295))) / 4294967296))) (IntKind.u64.wrap (t107 * t108))).bind fun bt109 => (some (bt109.1, bt109.2.1, bt109.2.2))) = some (r1, r2, r3) := H
  have A4 := Aside0.mk A40
  clear A40
  replace H := Option.bind_eq_some_iff.mp H
  obtain ⟨⟨t109, t110, t111⟩, A50, H⟩ := H
  replace H : (some (t109, t110, t111)) = some (r1, r2, r3) := H
  have A5 := Aside0.mk A50
  clear A50
  simp only [Option.some.injEq, Prod.mk.injEq] at H
  obtain ⟨rfl, rfl, rfl⟩ := H
  go_enter Tryd.func90, Tryd.ntmps90
  go_wp2_with (first | ((with_reducible refine gate_dst (N := 4) rfl ?_); refine box_event ?hg (N := 4) ?hd (cs := #[.bool false, .int .u64 0, .int .u64 0]) (t := 115) ?hr ?_; (case hd => rfl); (case hg => rfl); (case hr => first | (go_simp; done) | (go_simp; rfl)); intro gb106 hg w6 hbox hb; have BK106 := Aside0.mk (hbox); have GW106 := ag hg HB; have GE106 := ag hg HB; replace HB := hs hb HB; clear hb hbox hg) | ((with_reducible refine gate_callee (f := 89) rfl ?_); refine goesL_ (some 15) rfl rfl Tryd.func89 (by kernel_rfl) rfl #[.int .i64 a0] rfl (by (try simp only [List.map_toArray, List.map_cons, List.map_nil]); first | done | rfl | (simp only [List.length_drop, List.length_take]; rfl)) ?_; (with_reducible refine (surtitleref3_size.calls a0 t107 _ A3.out).mono ?_); rintro e w' ⟨rfl, ⟨nd, rfl⟩⟩; refine ⟨_, rfl, ?_⟩; (try (rw [drewN_self w6]; generalize hq_ : World.drewN w6 _ = w6; have n0_ : Aside0 (w6.heap[gb106]? = some (.cells #[.bool false, .int .u64 0, .int .u64 0] 115 (0, 0))) := ⟨by rw [← hq_]; exact (bk BK106.out)⟩; have n1_ : Aside0 (Below w.heap.size w w6) := ⟨by rw [← hq_]; exact (bw HB.out)⟩; clear BK106 HB hq_; have BK106 := n0_; have HB := n1_; clear n0_ n1_))) | ((with_reducible refine gate_callee (f := 89) rfl ?_); refine goesL_ (some 17) rfl rfl Tryd.func89 (by kernel_rfl) rfl #[.int .i64 a1] rfl (by (try simp only [List.map_toArray, List.map_cons, List.map_nil]); first | done | rfl | (simp only [List.length_drop, List.length_take]; rfl)) ?_; (with_reducible refine (surtitleref3_size.calls a1 t108 _ A4.out).mono ?_); rintro e w' ⟨rfl, ⟨nd, rfl⟩⟩; refine ⟨_, rfl, ?_⟩; (try (rw [drewN_self w6]; generalize hq_ : World.drewN w6 _ = w6; have n0_ : Aside0 (w6.heap[gb106]? = some (.cells #[.bool false, .int .u64 0, .int .u64 0] 115 (0, 0))) := ⟨by rw [← hq_]; exact (bk BK106.out)⟩; have n1_ : Aside0 (Below w.heap.size w w6) := ⟨by rw [← hq_]; exact (bw HB.out)⟩; clear BK106 HB hq_; have BK106 := n0_; have HB := n1_; clear n0_ n1_))) | ((with_reducible refine gate_callee (f := 114) rfl ?_); refine goesL_ (some 59) rfl rfl Tryd.func114 (by kernel_rfl) rfl #[.agg #[.bool ((decide (a0 < 0)) != (decide (a1 < 0))), .int .u64 (IntKind.u64.wrap ((IntKind.u64.wrap ((IntKind.u64.wrap ((t107 / 4294967296) * (t108 / 4294967296))) + ((IntKind.u64.wrap ((IntKind.u64.wrap ((t107 / 4294967296) * (Go.bits .and .u64 t108 4294967295))) + ((IntKind.u64.wrap ((Go.bits .and .u64 t107 4294967295) * (Go.bits .and .u64 t108 4294967295))) / 4294967296))) / 4294967296))) + ((IntKind.u64.wrap ((IntKind.u64.wrap ((Go.bits .and .u64 t107 4294967295) * (t108 / 4294967296))) + (Go.bits .and .u64 (IntKind.u64.wrap ((IntKind.u64.wrap ((t107 / 4294967296) * (Go.bits .and .u64 t108 4294967295))) + ((IntKind.u64.wrap ((Go.bits .and .u64 t107 4294967295) * (Go.bits .and .u64 t108 4294967295))) / 4294967296))) 4294967295))) / 4294967296))), .int .u64 (IntKind.u64.wrap (t107 * t108))]] rfl (by (try simp only [List.map_toArray, List.map_cons, List.map_nil]); first | done | rfl | (simp only [List.length_drop, List.length_take]; rfl)) ?_; (with_reducible refine (surtitleref3_right.calls ((decide (a0 < 0)) != (decide (a1 < 0))) (IntKind.u64.wrap ((IntKind.u64.wrap ((IntKind.u64.wrap ((t107 / 4294967296) * (t108 / 4294967296))) + ((IntKind.u64.wrap ((IntKind.u64.wrap ((t107 / 4294967296) * (Go.bits .and .u64 t108 4294967295))) + ((IntKind.u64.wrap ((Go.bits .and .u64 t107 4294967295) * (Go.bits .and .u64 t108 4294967295))) / 4294967296))) / 4294967296))) + ((IntKind.u64.wrap ((IntKind.u64.wrap ((Go.bits .and .u64 t107 4294967295) * (t108 / 4294967296))) + (Go.bits .and .u64 (IntKind.u64.wrap ((IntKind.u64.wrap ((t107 / 4294967296) * (Go.bits .and .u64 t108 4294967295))) + ((IntKind.u64.wrap ((Go.bits .and .u64 t107 4294967295) * (Go.bits .and .u64 t108 4294967295))) / 4294967296))) 4294967295))) / 4294967296))) (IntKind.u64.wrap (t107 * t108)) t109 t110 t111 _ A5.out).mono ?_); rintro e w7 ⟨rfl, hb⟩; refine ⟨_, rfl, ?_⟩; replace BK106 := ab hb BK106; replace HB := hs hb HB; (try clear hb); (try clear hb2); (try clear hk); (try clear hi); obtain ⟨hcz8_0, hcz8_1, hcz8_2, hfz8_0, hfz8_1, hfz8_2⟩ := k3 BK106.out))
  refine bodyPost_ret (results_cell_row rfl _ _ gb106 115 #[.bool t109, .int .u64 t110, .int .u64 t111] (0, 0) _ rfl (by refine bk ?_; refine blk_put (cs := #[.bool t109, .int .u64 t110, .int .u64 0]) ?_ 2 _ rfl; refine bk ?_; refine blk_put (cs := #[.bool t109, .int .u64 0, .int .u64 0]) ?_ 1 _ rfl; refine bk ?_; refine blk_put (cs := #[.bool false, .int .u64 0, .int .u64 0]) ?_ 0 _ rfl; refine bk ?_; exact BK106.out) Tryd.underlying115 rfl (by kernel_rfl)) rfl ?_
  exact ⟨by first | rfl | (simp [errW_none, errW_some] <;> rfl) | (simp [*, errW_none, errW_some] <;> rfl), by repeat (first | (with_reducible first | exact HB.out | apply below_alloc | apply pw_below_drewN | apply below_drew1 | refine below_set ?_ GE106.out) | exact HB.out)⟩

/-! ### surtitleref3_above: function 115 -/
def surtitleref3_above.f (a0_0 : Bool) (a0_1 : Int) (a0_2 : Int) (a1_0 : Bool) (a1_1 : Int) (a1_2 : Int) : Option (Bool) := if a0_1 > a1_1 then (some true) else (if a0_1 = a1_1 then (some (decide (a0_2 > a1_2))) else (some false))
set_option maxHeartbeats 8000000 in
set_option maxRecDepth 100000 in
theorem surtitleref3_above.calls (a0_0 : Bool) (a0_1 : Int) (a0_2 : Int) (a1_0 : Bool) (a1_1 : Int) (a1_2 : Int) (r : Bool) (w : World) (h : surtitleref3_above.f a0_0 a0_1 a0_2 a1_0 a1_1 a1_2 = some r) :
    Calls Tryd.prog 115 #[.agg #[.bool a0_0, .int .u64 a0_1, .int .u64 a0_2], .agg #[.bool a1_0, .int .u64 a1_1, .int .u64 a1_2]] w fun e w' => e = .returned (.bool r) ∧ Below w.heap.size w w' := by
  have hu115 := Tryd.underlying115
  have HB := Aside0.mk (Below.refl w.heap.size w)
  have H : (if a0_1 > a1_1 then (some true) else (if a0_1 = a1_1 then (some (decide (a0_2 > a1_2))) else (some false))) = some r := h
  clear h
  by_cases c3 : a0_1 > a1_1
  · rw [if_pos c3] at H
    have c3b0 : decide (a1_1 < a0_1) = true := decide_eq_true c3
    clear c3
    obtain rfl := Option.some.inj H
    go_enter Tryd.func115, Tryd.ntmps115
    go_wp2_with (first | ((with_reducible refine gate_dst (N := 2) rfl ?_); refine box_event ?hg (N := 2) ?hd (cs := #[.bool a0_0, .int .u64 a0_1, .int .u64 a0_2]) (t := 115) ?hr ?_; (case hd => rfl); (case hg => rfl); (case hr => first | (go_simp; done) | (go_simp; rfl)); intro gb112 hg w4 hbox hb; have BK112 := Aside0.mk (hbox); have GW112 := ag hg HB; have GE112 := ag hg HB; replace HB := hs hb HB; clear hb hbox hg) | ((with_reducible refine gate_dst (N := 3) rfl ?_); refine box_event ?hg (N := 3) ?hd (cs := #[.bool a1_0, .int .u64 a1_1, .int .u64 a1_2]) (t := 115) ?hr ?_; (case hd => rfl); (case hg => rfl); (case hr => first | (go_simp; done) | (go_simp; rfl)); intro gb113 hg w5 hbox hb; have BK113 := Aside0.mk (hbox); have GW113 := ag hg HB; have GE113 := ag hg HB; have NB112_113 := na hg BK112; have NB113_112 := nb hg BK112; replace BK112 := ab hb BK112; replace HB := hs hb HB; clear hb hbox hg; have hnb6 := NB112_113.out; have hnc6 := NB113_112.out; obtain ⟨hcz7_0, hcz7_1, hcz7_2, hfz7_0, hfz7_1, hfz7_2⟩ := k3 BK112.out; obtain ⟨hcz8_0, hcz8_1, hcz8_2, hfz8_0, hfz8_1, hfz8_2⟩ := k3 BK113.out))
    go_ret
    exact ⟨by first | rfl | (simp [errW_none, errW_some] <;> rfl) | (simp [*, errW_none, errW_some] <;> rfl), by repeat (first | (with_reducible first | exact HB.out | apply below_alloc | apply pw_below_drewN | apply below_drew1 | refine below_set ?_ GE112.out | refine below_set ?_ GE113.out) | exact HB.out)⟩
  rw [if_neg c3] at H
  have c3b0 : decide (a1_1 < a0_1) = false := decide_eq_false c3
  clear c3
  by_cases c9 : a0_1 = a1_1
  · rw [if_pos c9] at H
    have c9b0 : (a0_1 == a1_1) = true := beq_iff_eq.mpr c9
    have c9b1 : (a0_1 != a1_1) = false := bne_eq_false_iff_eq.mpr c9
    clear c9
    obtain rfl := Option.some.inj H
    go_enter Tryd.func115, Tryd.ntmps115
    go_wp2_with (first | ((with_reducible refine gate_dst (N := 2) rfl ?_); refine box_event ?hg (N := 2) ?hd (cs := #[.bool a0_0, .int .u64 a0_1, .int .u64 a0_2]) (t := 115) ?hr ?_; (case hd => rfl); (case hg => rfl); (case hr => first | (go_simp; done) | (go_simp; rfl)); intro gb112 hg w10 hbox hb; have BK112 := Aside0.mk (hbox); have GW112 := ag hg HB; have GE112 := ag hg HB; replace HB := hs hb HB; clear hb hbox hg) | ((with_reducible refine gate_dst (N := 3) rfl ?_); refine box_event ?hg (N := 3) ?hd (cs := #[.bool a1_0, .int .u64 a1_1, .int .u64 a1_2]) (t := 115) ?hr ?_; (case hd => rfl); (case hg => rfl); (case hr => first | (go_simp; done) | (go_simp; rfl)); intro gb113 hg w11 hbox hb; have BK113 := Aside0.mk (hbox); have GW113 := ag hg HB; have GE113 := ag hg HB; have NB112_113 := na hg BK112; have NB113_112 := nb hg BK112; replace BK112 := ab hb BK112; replace HB := hs hb HB; clear hb hbox hg; have hnb12 := NB112_113.out; have hnc12 := NB113_112.out; obtain ⟨hcz13_0, hcz13_1, hcz13_2, hfz13_0, hfz13_1, hfz13_2⟩ := k3 BK112.out; obtain ⟨hcz14_0, hcz14_1, hcz14_2, hfz14_0, hfz14_1, hfz14_2⟩ := k3 BK113.out))
    go_ret
    exact ⟨by first | rfl | (simp [errW_none, errW_some] <;> rfl) | (simp [*, errW_none, errW_some] <;> rfl), by repeat (first | (with_reducible first | exact HB.out | apply below_alloc | apply pw_below_drewN | apply below_drew1 | refine below_set ?_ GE112.out | refine below_set ?_ GE113.out) | exact HB.out)⟩
  rw [if_neg c9] at H
  have c9b0 : (a0_1 == a1_1) = false := beq_eq_false_iff_ne.mpr c9
  have c9b1 : (a0_1 != a1_1) = true := bne_iff_ne.mpr c9
  obtain rfl := Option.some.inj H
  go_enter Tryd.func115, Tryd.ntmps115
  go_wp2_with (first | ((with_reducible refine gate_dst (N := 2) rfl ?_); refine box_event ?hg (N := 2) ?hd (cs := #[.bool a0_0, .int .u64 a0_1, .int .u64 a0_2]) (t := 115) ?hr ?_; (case hd => rfl); (case hg => rfl); (case hr => first | (go_simp; done) | (go_simp; rfl)); intro gb112 hg w15 hbox hb; have BK112 := Aside0.mk (hbox); have GW112 := ag hg HB; have GE112 := ag hg HB; replace HB := hs hb HB; clear hb hbox hg) | ((with_reducible refine gate_dst (N := 3) rfl ?_); refine box_event ?hg (N := 3) ?hd (cs := #[.bool a1_0, .int .u64 a1_1, .int .u64 a1_2]) (t := 115) ?hr ?_; (case hd => rfl); (case hg => rfl); (case hr => first | (go_simp; done) | (go_simp; rfl)); intro gb113 hg w16 hbox hb; have BK113 := Aside0.mk (hbox); have GW113 := ag hg HB; have GE113 := ag hg HB; have NB112_113 := na hg BK112; have NB113_112 := nb hg BK112; replace BK112 := ab hb BK112; replace HB := hs hb HB; clear hb hbox hg; have hnb17 := NB112_113.out; have hnc17 := NB113_112.out; obtain ⟨hcz18_0, hcz18_1, hcz18_2, hfz18_0, hfz18_1, hfz18_2⟩ := k3 BK112.out; obtain ⟨hcz19_0, hcz19_1, hcz19_2, hfz19_0, hfz19_1, hfz19_2⟩ := k3 BK113.out))
  go_ret
  exact ⟨by first | rfl | (simp [errW_none, errW_some] <;> rfl) | (simp [*, errW_none, errW_some] <;> rfl), by repeat (first | (with_reducible first | exact HB.out | apply below_alloc | apply pw_below_drewN | apply below_drew1 | refine below_set ?_ GE112.out | refine below_set ?_ GE113.out) | exact HB.out)⟩

/-! ### surtitleref3_Less: function 91 -/
def surtitleref3_Less.f (a0_0 : Bool) (a0_1 : Int) (a0_2 : Int) (a1_0 : Bool) (a1_1 : Int) (a1_2 : Int) : Option (Bool) := if (a0_0 != a1_0) = true then (some a0_0) else (if a0_0 = true then ((surtitleref3_above.f a0_0 a0_1 a0_2 a1_0 a1_1 a1_2).bind fun t116 => (some t116)) else ((surtitleref3_above.f a1_0 a1_1 a1_2 a0_0 a0_1 a0_2).bind fun t117 => (some t117)))
set_option maxHeartbeats 8000000 in
set_option maxRecDepth 100000 in
theorem surtitleref3_Less.calls (a0_0 : Bool) (a0_1 : Int) (a0_2 : Int) (a1_0 : Bool) (a1_1 : Int) (a1_2 : Int) (r : Bool) (w : World) (h : surtitleref3_Less.f a0_0 a0_1 a0_2 a1_0 a1_1 a1_2 = some r) :
    Calls Tryd.prog 91 #[.agg #[.bool a0_0, .int .u64 a0_1, .int .u64 a0_2], .agg #[.bool a1_0, .int .u64 a1_1, .int .u64 a1_2]] w fun e w' => e = .returned (.bool r) ∧ Below w.heap.size w w' := by
  have hu115 := Tryd.underlying115
  have HB := Aside0.mk (Below.refl w.heap.size w)
  have H : (if (a0_0 != a1_0) = true then (some a0_0) else (if a0_0 = true then ((surtitleref3_above.f a0_0 a0_1 a0_2 a1_0 a1_1 a1_2).bind fun t116 => (some t116)) else ((surtitleref3_above.f a1_0 a1_1 a1_2 a0_0 a0_1 a0_2).bind fun t117 => (some t117)))) = some r := h
  clear h
  by_cases c3 : (a0_0 != a1_0) = true
  · rw [if_pos c3] at H
    have c3b0 : (a0_0 != a1_0) = true := c3
    (try (have c3b1 : decide (a0_0 = a1_0) = false := by simpa using c3))
    (try (have c3b2 : (a0_0 == a1_0) = false := by simpa using c3))
    (try (have c3b3 : ¬ (a0_0 = a1_0) := by simpa using c3))
    clear c3
    obtain rfl := Option.some.inj H
    go_enter Tryd.func91, Tryd.ntmps91
    go_wp2_with (first | ((with_reducible refine gate_dst (N := 2) rfl ?_); refine box_event ?hg (N := 2) ?hd (cs := #[.bool a0_0, .int .u64 a0_1, .int .u64 a0_2]) (t := 115) ?hr ?_; (case hd => rfl); (case hg => rfl); (case hr => first | (go_simp; done) | (go_simp; rfl)); intro gb114 hg w4 hbox hb; have BK114 := Aside0.mk (hbox); have GW114 := ag hg HB; have GE114 := ag hg HB; replace HB := hs hb HB; clear hb hbox hg) | ((with_reducible refine gate_dst (N := 3) rfl ?_); refine box_event ?hg (N := 3) ?hd (cs := #[.bool a1_0, .int .u64 a1_1, .int .u64 a1_2]) (t := 115) ?hr ?_; (case hd => rfl); (case hg => rfl); (case hr => first | (go_simp; done) | (go_simp; rfl)); intro gb115 hg w5 hbox hb; have BK115 := Aside0.mk (hbox); have GW115 := ag hg HB; have GE115 := ag hg HB; have NB114_115 := na hg BK114; have NB115_114 := nb hg BK114; replace BK114 := ab hb BK114; replace HB := hs hb HB; clear hb hbox hg; have hnb6 := NB114_115.out; have hnc6 := NB115_114.out; obtain ⟨hcz7_0, hcz7_1, hcz7_2, hfz7_0, hfz7_1, hfz7_2⟩ := k3 BK114.out; obtain ⟨hcz8_0, hcz8_1, hcz8_2, hfz8_0, hfz8_1, hfz8_2⟩ := k3 BK115.out))
    go_ret
    exact ⟨by first | rfl | (simp [errW_none, errW_some] <;> rfl) | (simp [*, errW_none, errW_some] <;> rfl), by repeat (first | (with_reducible first | exact HB.out | apply below_alloc | apply pw_below_drewN | apply below_drew1 | refine below_set ?_ GE114.out | refine below_set ?_ GE115.out) | exact HB.out)⟩
  rw [if_neg c3] at H
  have c3b0 : (a0_0 != a1_0) = false := by simpa using c3
  (try (have c3b1 : decide (a0_0 = a1_0) = true := by simpa using c3))
  (try (have c3b2 : (a0_0 == a1_0) = true := by simpa using c3))
  clear c3
  by_cases c9 : a0_0 = true
  · subst c9
    have H1 : ((surtitleref3_above.f true a0_1 a0_2 a1_0 a1_1 a1_2).bind fun t116 => (some t116)) = some r := by rw [if_pos rfl] at H; exact H
    clear H
    have H := H1
    clear H1
    replace H := Option.bind_eq_some_iff.mp H
    obtain ⟨t116, A100, H⟩ := H
    replace H : (some t116) = some r := H
    have A10 := Aside0.mk A100
    clear A100
    obtain rfl := Option.some.inj H
    go_enter Tryd.func91, Tryd.ntmps91
    go_wp2_with (first | ((with_reducible refine gate_dst (N := 2) rfl ?_); refine box_event ?hg (N := 2) ?hd (cs := #[.bool true, .int .u64 a0_1, .int .u64 a0_2]) (t := 115) ?hr ?_; (case hd => rfl); (case hg => rfl); (case hr => first | (go_simp; done) | (go_simp; rfl)); intro gb114 hg w11 hbox hb; have BK114 := Aside0.mk (hbox); have GW114 := ag hg HB; have GE114 := ag hg HB; replace HB := hs hb HB; clear hb hbox hg) | ((with_reducible refine gate_dst (N := 3) rfl ?_); refine box_event ?hg (N := 3) ?hd (cs := #[.bool a1_0, .int .u64 a1_1, .int .u64 a1_2]) (t := 115) ?hr ?_; (case hd => rfl); (case hg => rfl); (case hr => first | (go_simp; done) | (go_simp; rfl)); intro gb115 hg w12 hbox hb; have BK115 := Aside0.mk (hbox); have GW115 := ag hg HB; have GE115 := ag hg HB; have NB114_115 := na hg BK114; have NB115_114 := nb hg BK114; replace BK114 := ab hb BK114; replace HB := hs hb HB; clear hb hbox hg; have hnb13 := NB114_115.out; have hnc13 := NB115_114.out; obtain ⟨hcz14_0, hcz14_1, hcz14_2, hfz14_0, hfz14_1, hfz14_2⟩ := k3 BK114.out; obtain ⟨hcz15_0, hcz15_1, hcz15_2, hfz15_0, hfz15_1, hfz15_2⟩ := k3 BK115.out) | ((with_reducible refine gate_callee (f := 115) rfl ?_); refine goesL_ (some 16) rfl rfl Tryd.func115 (by kernel_rfl) rfl #[.agg #[.bool true, .int .u64 a0_1, .int .u64 a0_2], .agg #[.bool a1_0, .int .u64 a1_1, .int .u64 a1_2]] rfl (by (try simp only [List.map_toArray, List.map_cons, List.map_nil]); first | done | rfl | (simp only [List.length_drop, List.length_take]; rfl)) ?_; (with_reducible refine (surtitleref3_above.calls true a0_1 a0_2 a1_0 a1_1 a1_2 t116 _ A10.out).mono ?_); rintro e w16 ⟨rfl, hb⟩; refine ⟨_, rfl, ?_⟩; replace BK114 := ab hb BK114; replace BK115 := ab hb BK115; replace HB := hs hb HB; (try clear hb); (try clear hb2); (try clear hk); (try clear hi)))
    go_ret
    exact ⟨by first | rfl | (simp [errW_none, errW_some] <;> rfl) | (simp [*, errW_none, errW_some] <;> rfl), by repeat (first | (with_reducible first | exact HB.out | apply below_alloc | apply pw_below_drewN | apply below_drew1 | refine below_set ?_ GE114.out | refine below_set ?_ GE115.out) | exact HB.out)⟩
  replace c9 := Bool.eq_false_iff.mpr c9
  subst c9
  have H1 : ((surtitleref3_above.f a1_0 a1_1 a1_2 false a0_1 a0_2).bind fun t117 => (some t117)) = some r := by rw [if_neg (show ¬ (false = true) by decide)] at H; exact H
  clear H
  have H := H1
  clear H1
  replace H := Option.bind_eq_some_iff.mp H
  obtain ⟨t117, A170, H⟩ := H
  replace H : (some t117) = some r := H
  have A17 := Aside0.mk A170
  clear A170
  obtain rfl := Option.some.inj H
  go_enter Tryd.func91, Tryd.ntmps91
  go_wp2_with (first | ((with_reducible refine gate_dst (N := 2) rfl ?_); refine box_event ?hg (N := 2) ?hd (cs := #[.bool false, .int .u64 a0_1, .int .u64 a0_2]) (t := 115) ?hr ?_; (case hd => rfl); (case hg => rfl); (case hr => first | (go_simp; done) | (go_simp; rfl)); intro gb114 hg w18 hbox hb; have BK114 := Aside0.mk (hbox); have GW114 := ag hg HB; have GE114 := ag hg HB; replace HB := hs hb HB; clear hb hbox hg) | ((with_reducible refine gate_dst (N := 3) rfl ?_); refine box_event ?hg (N := 3) ?hd (cs := #[.bool a1_0, .int .u64 a1_1, .int .u64 a1_2]) (t := 115) ?hr ?_; (case hd => rfl); (case hg => rfl); (case hr => first | (go_simp; done) | (go_simp; rfl)); intro gb115 hg w19 hbox hb; have BK115 := Aside0.mk (hbox); have GW115 := ag hg HB; have GE115 := ag hg HB; have NB114_115 := na hg BK114; have NB115_114 := nb hg BK114; replace BK114 := ab hb BK114; replace HB := hs hb HB; clear hb hbox hg; have hnb20 := NB114_115.out; have hnc20 := NB115_114.out; obtain ⟨hcz21_0, hcz21_1, hcz21_2, hfz21_0, hfz21_1, hfz21_2⟩ := k3 BK114.out; obtain ⟨hcz22_0, hcz22_1, hcz22_2, hfz22_0, hfz22_1, hfz22_2⟩ := k3 BK115.out) | ((with_reducible refine gate_callee (f := 115) rfl ?_); refine goesL_ (some 19) rfl rfl Tryd.func115 (by kernel_rfl) rfl #[.agg #[.bool a1_0, .int .u64 a1_1, .int .u64 a1_2], .agg #[.bool false, .int .u64 a0_1, .int .u64 a0_2]] rfl (by (try simp only [List.map_toArray, List.map_cons, List.map_nil]); first | done | rfl | (simp only [List.length_drop, List.length_take]; rfl)) ?_; (with_reducible refine (surtitleref3_above.calls a1_0 a1_1 a1_2 false a0_1 a0_2 t117 _ A17.out).mono ?_); rintro e w23 ⟨rfl, hb⟩; refine ⟨_, rfl, ?_⟩; replace BK114 := ab hb BK114; replace BK115 := ab hb BK115; replace HB := hs hb HB; (try clear hb); (try clear hb2); (try clear hk); (try clear hi)))
  go_ret
  exact ⟨by first | rfl | (simp [errW_none, errW_some] <;> rfl) | (simp [*, errW_none, errW_some] <;> rfl), by repeat (first | (with_reducible first | exact HB.out | apply below_alloc | apply pw_below_drewN | apply below_drew1 | refine below_set ?_ GE114.out | refine below_set ?_ GE115.out) | exact HB.out)⟩

/-! ### surtitleref3_Cmp: function 70 -/
def surtitleref3_Cmp.f (a0_0 : Int) (a0_1 : Int) (a1_0 : Int) (a1_1 : Int) : Option (Int) := (surtitleref3_Times.f a0_0 a1_1).bind fun bt120 => ((surtitleref3_Times.f a1_0 a0_1).bind fun bt124 => ((surtitleref3_Less.f bt120.1 bt120.2.1 bt120.2.2 bt124.1 bt124.2.1 bt124.2.2).bind fun t128 => (if t128 = true then (some (-1)) else ((surtitleref3_Less.f bt124.1 bt124.2.1 bt124.2.2 bt120.1 bt120.2.1 bt120.2.2).bind fun t129 => (if t129 = true then (some 1) else (some 0))))))
set_option maxHeartbeats 8000000 in
set_option maxRecDepth 100000 in
theorem surtitleref3_Cmp.calls (a0_0 : Int) (a0_1 : Int) (a1_0 : Int) (a1_1 : Int) (r : Int) (w : World) (h : surtitleref3_Cmp.f a0_0 a0_1 a1_0 a1_1 = some r) :
    Calls Tryd.prog 70 #[.agg #[.int .i64 a0_0, .int .i64 a0_1], .agg #[.int .i64 a1_0, .int .i64 a1_1]] w fun e w' => e = .returned (.int .i64 r) ∧ Below w.heap.size w w' := by
  have hu26 := Tryd.underlying26
  have hu115 := Tryd.underlying115
  have HB := Aside0.mk (Below.refl w.heap.size w)
  have H : ((surtitleref3_Times.f a0_0 a1_1).bind fun bt120 => ((surtitleref3_Times.f a1_0 a0_1).bind fun bt124 => ((surtitleref3_Less.f bt120.1 bt120.2.1 bt120.2.2 bt124.1 bt124.2.1 bt124.2.2).bind fun t128 => (if t128 = true then (some (-1)) else ((surtitleref3_Less.f bt124.1 bt124.2.1 bt124.2.2 bt120.1 bt120.2.1 bt120.2.2).bind fun t129 => (if t129 = true then (some 1) else (some 0))))))) = some r := h
  clear h
  replace H := Option.bind_eq_some_iff.mp H
  obtain ⟨⟨t120, t121, t122⟩, A30, H⟩ := H
  replace H : ((surtitleref3_Times.f a1_0 a0_1).bind fun bt124 => ((surtitleref3_Less.f t120 t121 t122 bt124.1 bt124.2.1 bt124.2.2).bind fun t128 => (if t128 = true then (some (-1)) else ((surtitleref3_Less.f bt124.1 bt124.2.1 bt124.2.2 t120 t121 t122).bind fun t129 => (if t129 = true then (some 1) else (some 0)))))) = some r := H
  have A3 := Aside0.mk A30
  clear A30
  replace H := Option.bind_eq_some_iff.mp H
  obtain ⟨⟨t124, t125, t126⟩, A40, H⟩ := H
  replace H : ((surtitleref3_Less.f t120 t121 t122 t124 t125 t126).bind fun t128 => (if t128 = true then (some (-1)) else ((surtitleref3_Less.f t124 t125 t126 t120 t121 t122).bind fun t129 => (if t129 = true then (some 1) else (some 0))))) = some r := H
  have A4 := Aside0.mk A40
  clear A40
  replace H := Option.bind_eq_some_iff.mp H
  obtain ⟨t128, A50, H⟩ := H
  replace H : (if t128 = true then (some (-1)) else ((surtitleref3_Less.f t124 t125 t126 t120 t121 t122).bind fun t129 => (if t129 = true then (some 1) else (some 0)))) = some r := H
  have A5 := Aside0.mk A50
  clear A50
  by_cases c6 : t128 = true
  · subst c6
    have H1 : (some (-1)) = some r := by rw [if_pos rfl] at H; exact H
    clear H
    have H := H1
    clear H1
    obtain rfl := Option.some.inj H
    go_enter Tryd.func70, Tryd.ntmps70
    go_wp2_with (first | ((with_reducible refine gate_dst (N := 2) rfl ?_); refine box_event ?hg (N := 2) ?hd (cs := #[.int .i64 a0_0, .int .i64 a0_1]) (t := 26) ?hr ?_; (case hd => rfl); (case hg => rfl); (case hr => first | (go_simp; done) | (go_simp; rfl)); intro gb118 hg w7 hbox hb; have BK118 := Aside0.mk (hbox); have GW118 := ag hg HB; have GE118 := ag hg HB; replace HB := hs hb HB; clear hb hbox hg) | ((with_reducible refine gate_dst (N := 3) rfl ?_); refine box_event ?hg (N := 3) ?hd (cs := #[.int .i64 a1_0, .int .i64 a1_1]) (t := 26) ?hr ?_; (case hd => rfl); (case hg => rfl); (case hr => first | (go_simp; done) | (go_simp; rfl)); intro gb119 hg w8 hbox hb; have BK119 := Aside0.mk (hbox); have GW119 := ag hg HB; have GE119 := ag hg HB; have NB118_119 := na hg BK118; have NB119_118 := nb hg BK118; replace BK118 := ab hb BK118; replace HB := hs hb HB; clear hb hbox hg; have hnb9 := NB118_119.out; have hnc9 := NB119_118.out; obtain ⟨hcz10_0, hcz10_1, hfz10_0, hfz10_1⟩ := k2 BK118.out; obtain ⟨hcz11_0, hcz11_1, hfz11_0, hfz11_1⟩ := k2 BK119.out) | ((with_reducible refine gate_callee (f := 90) rfl ?_); refine goesL_ (some 11) rfl rfl Tryd.func90 (by kernel_rfl) rfl #[.int .i64 a0_0, .int .i64 a1_1] rfl (by (try simp only [List.map_toArray, List.map_cons, List.map_nil]); first | done | rfl | (simp only [List.length_drop, List.length_take]; rfl)) ?_; (with_reducible refine (surtitleref3_Times.calls a0_0 a1_1 t120 t121 t122 _ A3.out).mono ?_); rintro e w12 ⟨rfl, hb⟩; refine ⟨_, rfl, ?_⟩; replace BK118 := ab hb BK118; replace BK119 := ab hb BK119; replace HB := hs hb HB; (try clear hb); (try clear hb2); (try clear hk); (try clear hi)) | ((with_reducible refine gate_dst (N := 5) rfl ?_); refine box_event ?hg (N := 5) ?hd (cs := #[.bool false, .int .u64 0, .int .u64 0]) (t := 115) ?hr ?_; (case hd => rfl); (case hg => rfl); (case hr => first | (go_simp; done) | (go_simp; rfl)); intro gb123 hg w13 hbox hb; have BK123 := Aside0.mk (hbox); have GW123 := ag hg HB; have GE123 := ag hg HB; have NB118_123 := na hg BK118; have NB123_118 := nb hg BK118; have NB119_123 := na hg BK119; have NB123_119 := nb hg BK119; replace BK118 := ab hb BK118; replace BK119 := ab hb BK119; replace HB := hs hb HB; clear hb hbox hg; have hnb14 := NB123_118.out; have hnc14 := NB118_123.out; have hnb15 := NB123_119.out; have hnc15 := NB119_123.out; obtain ⟨hcz16_0, hcz16_1, hcz16_2, hfz16_0, hfz16_1, hfz16_2⟩ := k3 BK123.out; obtain ⟨hcz17_0, hcz17_1, hfz17_0, hfz17_1⟩ := k2 BK119.out; obtain ⟨hcz18_0, hcz18_1, hfz18_0, hfz18_1⟩ := k2 BK118.out) | ((with_reducible refine gate_callee (f := 90) rfl ?_); refine goesL_ (some 16) rfl rfl Tryd.func90 (by kernel_rfl) rfl #[.int .i64 a1_0, .int .i64 a0_1] rfl (by (try simp only [List.map_toArray, List.map_cons, List.map_nil]); first | done | rfl | (simp only [List.length_drop, List.length_take]; rfl)) ?_; (with_reducible refine (surtitleref3_Times.calls a1_0 a0_1 t124 t125 t126 _ A4.out).mono ?_); rintro e w19 ⟨rfl, hb⟩; refine ⟨_, rfl, ?_⟩; have n0_ := ab hb BK118; have n1_ := ab hb BK119; have n2_ := Aside0.mk (blk_below (g := gb123) (o := .cells #[.bool t120, .int .u64 t121, .int .u64 t122] 115 (0, 0)) (by refine bk ?_; refine blk_put (cs := #[.bool t120, .int .u64 t121, .int .u64 0]) ?_ 2 _ rfl; refine bk ?_; refine blk_put (cs := #[.bool t120, .int .u64 0, .int .u64 0]) ?_ 1 _ rfl; refine bk ?_; refine blk_put (cs := #[.bool false, .int .u64 0, .int .u64 0]) ?_ 0 _ rfl; refine bk ?_; exact BK123.out) hb); have n3_ := hs hb HB; clear BK118; clear BK119; clear BK123; clear HB; have BK118 := n0_; have BK119 := n1_; have BK123 := n2_; have HB := n3_; clear n0_ n1_ n2_ n3_; (try clear hb); (try clear hb2); (try clear hk); (try clear hi)) | ((with_reducible refine gate_dst (N := 6) rfl ?_); refine box_event ?hg (N := 6) ?hd (cs := #[.bool false, .int .u64 0, .int .u64 0]) (t := 115) ?hr ?_; (case hd => rfl); (case hg => rfl); (case hr => first | (go_simp; done) | (go_simp; rfl)); intro gb127 hg w20 hbox hb; have BK127 := Aside0.mk (hbox); have GW127 := ag hg HB; have GE127 := ag hg HB; have NB118_127 := na hg BK118; have NB127_118 := nb hg BK118; have NB119_127 := na hg BK119; have NB127_119 := nb hg BK119; have NB123_127 := na hg BK123; have NB127_123 := nb hg BK123; replace BK118 := ab hb BK118; replace BK119 := ab hb BK119; replace BK123 := ab hb BK123; replace HB := hs hb HB; clear hb hbox hg; have hnb21 := NB127_118.out; have hnc21 := NB118_127.out; have hnb22 := NB127_119.out; have hnc22 := NB119_127.out; have hnb23 := NB127_123.out; have hnc23 := NB123_127.out; obtain ⟨hcz24_0, hcz24_1, hcz24_2, hfz24_0, hfz24_1, hfz24_2⟩ := k3 BK127.out; obtain ⟨hcz25_0, hcz25_1, hcz25_2, hfz25_0, hfz25_1, hfz25_2⟩ := k3 BK123.out) | ((with_reducible refine gate_callee (f := 91) rfl ?_); refine goesL_ (some 19) rfl rfl Tryd.func91 (by kernel_rfl) rfl #[.agg #[.bool t120, .int .u64 t121, .int .u64 t122], .agg #[.bool t124, .int .u64 t125, .int .u64 t126]] rfl (by (try simp only [List.map_toArray, List.map_cons, List.map_nil]); first | done | rfl | (simp only [List.length_drop, List.length_take]; rfl)) ?_; (with_reducible refine (surtitleref3_Less.calls t120 t121 t122 t124 t125 t126 true _ A5.out).mono ?_); rintro e w26 ⟨rfl, hb⟩; refine ⟨_, rfl, ?_⟩; have n0_ := ab hb BK118; have n1_ := ab hb BK119; have n2_ := ab hb BK123; have n3_ := Aside0.mk (blk_below (g := gb127) (o := .cells #[.bool t124, .int .u64 t125, .int .u64 t126] 115 (0, 0)) (by refine bk ?_; refine blk_put (cs := #[.bool t124, .int .u64 t125, .int .u64 0]) ?_ 2 _ rfl; refine bk ?_; refine blk_put (cs := #[.bool t124, .int .u64 0, .int .u64 0]) ?_ 1 _ rfl; refine bk ?_; refine blk_put (cs := #[.bool false, .int .u64 0, .int .u64 0]) ?_ 0 _ rfl; refine bk ?_; exact BK127.out) hb); have n4_ := hs hb HB; clear BK118; clear BK119; clear BK123; clear BK127; clear HB; have BK118 := n0_; have BK119 := n1_; have BK123 := n2_; have BK127 := n3_; have HB := n4_; clear n0_ n1_ n2_ n3_ n4_; (try clear hb); (try clear hb2); (try clear hk); (try clear hi)))
    go_ret
    exact ⟨by first | rfl | (simp [errW_none, errW_some] <;> rfl) | (simp [*, errW_none, errW_some] <;> rfl), by repeat (first | (with_reducible first | exact HB.out | apply below_alloc | apply pw_below_drewN | apply below_drew1 | refine below_set ?_ GE118.out | refine below_set ?_ GE119.out | refine below_set ?_ GE123.out | refine below_set ?_ GE127.out) | exact HB.out)⟩
  replace c6 := Bool.eq_false_iff.mpr c6
  subst c6
  have H1 : ((surtitleref3_Less.f t124 t125 t126 t120 t121 t122).bind fun t129 => (if t129 = true then (some 1) else (some 0))) = some r := by rw [if_neg (show ¬ (false = true) by decide)] at H; exact H
  clear H
  have H := H1
  clear H1
  replace H := Option.bind_eq_some_iff.mp H
  obtain ⟨t129, A270, H⟩ := H
  replace H : (if t129 = true then (some 1) else (some 0)) = some r := H
  have A27 := Aside0.mk A270
  clear A270
  by_cases c28 : t129 = true
  · subst c28
    have H1 : (some 1) = some r := by rw [if_pos rfl] at H; exact H
    clear H
    have H := H1
    clear H1
    obtain rfl := Option.some.inj H
    go_enter Tryd.func70, Tryd.ntmps70
    go_wp2_with (first | ((with_reducible refine gate_dst (N := 2) rfl ?_); refine box_event ?hg (N := 2) ?hd (cs := #[.int .i64 a0_0, .int .i64 a0_1]) (t := 26) ?hr ?_; (case hd => rfl); (case hg => rfl); (case hr => first | (go_simp; done) | (go_simp; rfl)); intro gb118 hg w29 hbox hb; have BK118 := Aside0.mk (hbox); have GW118 := ag hg HB; have GE118 := ag hg HB; replace HB := hs hb HB; clear hb hbox hg) | ((with_reducible refine gate_dst (N := 3) rfl ?_); refine box_event ?hg (N := 3) ?hd (cs := #[.int .i64 a1_0, .int .i64 a1_1]) (t := 26) ?hr ?_; (case hd => rfl); (case hg => rfl); (case hr => first | (go_simp; done) | (go_simp; rfl)); intro gb119 hg w30 hbox hb; have BK119 := Aside0.mk (hbox); have GW119 := ag hg HB; have GE119 := ag hg HB; have NB118_119 := na hg BK118; have NB119_118 := nb hg BK118; replace BK118 := ab hb BK118; replace HB := hs hb HB; clear hb hbox hg; have hnb31 := NB118_119.out; have hnc31 := NB119_118.out; obtain ⟨hcz32_0, hcz32_1, hfz32_0, hfz32_1⟩ := k2 BK118.out; obtain ⟨hcz33_0, hcz33_1, hfz33_0, hfz33_1⟩ := k2 BK119.out) | ((with_reducible refine gate_callee (f := 90) rfl ?_); refine goesL_ (some 11) rfl rfl Tryd.func90 (by kernel_rfl) rfl #[.int .i64 a0_0, .int .i64 a1_1] rfl (by (try simp only [List.map_toArray, List.map_cons, List.map_nil]); first | done | rfl | (simp only [List.length_drop, List.length_take]; rfl)) ?_; (with_reducible refine (surtitleref3_Times.calls a0_0 a1_1 t120 t121 t122 _ A3.out).mono ?_); rintro e w34 ⟨rfl, hb⟩; refine ⟨_, rfl, ?_⟩; replace BK118 := ab hb BK118; replace BK119 := ab hb BK119; replace HB := hs hb HB; (try clear hb); (try clear hb2); (try clear hk); (try clear hi)) | ((with_reducible refine gate_dst (N := 5) rfl ?_); refine box_event ?hg (N := 5) ?hd (cs := #[.bool false, .int .u64 0, .int .u64 0]) (t := 115) ?hr ?_; (case hd => rfl); (case hg => rfl); (case hr => first | (go_simp; done) | (go_simp; rfl)); intro gb123 hg w35 hbox hb; have BK123 := Aside0.mk (hbox); have GW123 := ag hg HB; have GE123 := ag hg HB; have NB118_123 := na hg BK118; have NB123_118 := nb hg BK118; have NB119_123 := na hg BK119; have NB123_119 := nb hg BK119; replace BK118 := ab hb BK118; replace BK119 := ab hb BK119; replace HB := hs hb HB; clear hb hbox hg; have hnb36 := NB123_118.out; have hnc36 := NB118_123.out; have hnb37 := NB123_119.out; have hnc37 := NB119_123.out; obtain ⟨hcz38_0, hcz38_1, hcz38_2, hfz38_0, hfz38_1, hfz38_2⟩ := k3 BK123.out; obtain ⟨hcz39_0, hcz39_1, hfz39_0, hfz39_1⟩ := k2 BK119.out; obtain ⟨hcz40_0, hcz40_1, hfz40_0, hfz40_1⟩ := k2 BK118.out) | ((with_reducible refine gate_callee (f := 90) rfl ?_); refine goesL_ (some 16) rfl rfl Tryd.func90 (by kernel_rfl) rfl #[.int .i64 a1_0, .int .i64 a0_1] rfl (by (try simp only [List.map_toArray, List.map_cons, List.map_nil]); first | done | rfl | (simp only [List.length_drop, List.length_take]; rfl)) ?_; (with_reducible refine (surtitleref3_Times.calls a1_0 a0_1 t124 t125 t126 _ A4.out).mono ?_); rintro e w41 ⟨rfl, hb⟩; refine ⟨_, rfl, ?_⟩; have n0_ := ab hb BK118; have n1_ := ab hb BK119; have n2_ := Aside0.mk (blk_below (g := gb123) (o := .cells #[.bool t120, .int .u64 t121, .int .u64 t122] 115 (0, 0)) (by refine bk ?_; refine blk_put (cs := #[.bool t120, .int .u64 t121, .int .u64 0]) ?_ 2 _ rfl; refine bk ?_; refine blk_put (cs := #[.bool t120, .int .u64 0, .int .u64 0]) ?_ 1 _ rfl; refine bk ?_; refine blk_put (cs := #[.bool false, .int .u64 0, .int .u64 0]) ?_ 0 _ rfl; refine bk ?_; exact BK123.out) hb); have n3_ := hs hb HB; clear BK118; clear BK119; clear BK123; clear HB; have BK118 := n0_; have BK119 := n1_; have BK123 := n2_; have HB := n3_; clear n0_ n1_ n2_ n3_; (try clear hb); (try clear hb2); (try clear hk); (try clear hi)) | ((with_reducible refine gate_dst (N := 6) rfl ?_); refine box_event ?hg (N := 6) ?hd (cs := #[.bool false, .int .u64 0, .int .u64 0]) (t := 115) ?hr ?_; (case hd => rfl); (case hg => rfl); (case hr => first | (go_simp; done) | (go_simp; rfl)); intro gb127 hg w42 hbox hb; have BK127 := Aside0.mk (hbox); have GW127 := ag hg HB; have GE127 := ag hg HB; have NB118_127 := na hg BK118; have NB127_118 := nb hg BK118; have NB119_127 := na hg BK119; have NB127_119 := nb hg BK119; have NB123_127 := na hg BK123; have NB127_123 := nb hg BK123; replace BK118 := ab hb BK118; replace BK119 := ab hb BK119; replace BK123 := ab hb BK123; replace HB := hs hb HB; clear hb hbox hg; have hnb43 := NB127_118.out; have hnc43 := NB118_127.out; have hnb44 := NB127_119.out; have hnc44 := NB119_127.out; have hnb45 := NB127_123.out; have hnc45 := NB123_127.out; obtain ⟨hcz46_0, hcz46_1, hcz46_2, hfz46_0, hfz46_1, hfz46_2⟩ := k3 BK127.out; obtain ⟨hcz47_0, hcz47_1, hcz47_2, hfz47_0, hfz47_1, hfz47_2⟩ := k3 BK123.out) | ((with_reducible refine gate_callee (f := 91) rfl ?_); refine goesL_ (some 19) rfl rfl Tryd.func91 (by kernel_rfl) rfl #[.agg #[.bool t120, .int .u64 t121, .int .u64 t122], .agg #[.bool t124, .int .u64 t125, .int .u64 t126]] rfl (by (try simp only [List.map_toArray, List.map_cons, List.map_nil]); first | done | rfl | (simp only [List.length_drop, List.length_take]; rfl)) ?_; (with_reducible refine (surtitleref3_Less.calls t120 t121 t122 t124 t125 t126 false _ A5.out).mono ?_); rintro e w48 ⟨rfl, hb⟩; refine ⟨_, rfl, ?_⟩; have n0_ := ab hb BK118; have n1_ := ab hb BK119; have n2_ := ab hb BK123; have n3_ := Aside0.mk (blk_below (g := gb127) (o := .cells #[.bool t124, .int .u64 t125, .int .u64 t126] 115 (0, 0)) (by refine bk ?_; refine blk_put (cs := #[.bool t124, .int .u64 t125, .int .u64 0]) ?_ 2 _ rfl; refine bk ?_; refine blk_put (cs := #[.bool t124, .int .u64 0, .int .u64 0]) ?_ 1 _ rfl; refine bk ?_; refine blk_put (cs := #[.bool false, .int .u64 0, .int .u64 0]) ?_ 0 _ rfl; refine bk ?_; exact BK127.out) hb); have n4_ := hs hb HB; clear BK118; clear BK119; clear BK123; clear BK127; clear HB; have BK118 := n0_; have BK119 := n1_; have BK123 := n2_; have BK127 := n3_; have HB := n4_; clear n0_ n1_ n2_ n3_ n4_; (try clear hb); (try clear hb2); (try clear hk); (try clear hi); obtain ⟨hcz49_0, hcz49_1, hcz49_2, hfz49_0, hfz49_1, hfz49_2⟩ := k3 BK127.out; obtain ⟨hcz50_0, hcz50_1, hcz50_2, hfz50_0, hfz50_1, hfz50_2⟩ := k3 BK123.out) | ((with_reducible refine gate_callee (f := 91) rfl ?_); refine goesL_ (some 22) rfl rfl Tryd.func91 (by kernel_rfl) rfl #[.agg #[.bool t124, .int .u64 t125, .int .u64 t126], .agg #[.bool t120, .int .u64 t121, .int .u64 t122]] rfl (by (try simp only [List.map_toArray, List.map_cons, List.map_nil]); first | done | rfl | (simp only [List.length_drop, List.length_take]; rfl)) ?_; (with_reducible refine (surtitleref3_Less.calls t124 t125 t126 t120 t121 t122 true _ A27.out).mono ?_); rintro e w51 ⟨rfl, hb⟩; refine ⟨_, rfl, ?_⟩; replace BK118 := ab hb BK118; replace BK119 := ab hb BK119; replace BK123 := ab hb BK123; replace BK127 := ab hb BK127; replace HB := hs hb HB; (try clear hb); (try clear hb2); (try clear hk); (try clear hi)))
    go_ret
    exact ⟨by first | rfl | (simp [errW_none, errW_some] <;> rfl) | (simp [*, errW_none, errW_some] <;> rfl), by repeat (first | (with_reducible first | exact HB.out | apply below_alloc | apply pw_below_drewN | apply below_drew1 | refine below_set ?_ GE118.out | refine below_set ?_ GE119.out | refine below_set ?_ GE123.out | refine below_set ?_ GE127.out) | exact HB.out)⟩
  replace c28 := Bool.eq_false_iff.mpr c28
  subst c28
  have H1 : (some 0) = some r := by rw [if_neg (show ¬ (false = true) by decide)] at H; exact H
  clear H
  have H := H1
  clear H1
  obtain rfl := Option.some.inj H
  go_enter Tryd.func70, Tryd.ntmps70
  go_wp2_with (first | ((with_reducible refine gate_dst (N := 2) rfl ?_); refine box_event ?hg (N := 2) ?hd (cs := #[.int .i64 a0_0, .int .i64 a0_1]) (t := 26) ?hr ?_; (case hd => rfl); (case hg => rfl); (case hr => first | (go_simp; done) | (go_simp; rfl)); intro gb118 hg w52 hbox hb; have BK118 := Aside0.mk (hbox); have GW118 := ag hg HB; have GE118 := ag hg HB; replace HB := hs hb HB; clear hb hbox hg) | ((with_reducible refine gate_dst (N := 3) rfl ?_); refine box_event ?hg (N := 3) ?hd (cs := #[.int .i64 a1_0, .int .i64 a1_1]) (t := 26) ?hr ?_; (case hd => rfl); (case hg => rfl); (case hr => first | (go_simp; done) | (go_simp; rfl)); intro gb119 hg w53 hbox hb; have BK119 := Aside0.mk (hbox); have GW119 := ag hg HB; have GE119 := ag hg HB; have NB118_119 := na hg BK118; have NB119_118 := nb hg BK118; replace BK118 := ab hb BK118; replace HB := hs hb HB; clear hb hbox hg; have hnb54 := NB118_119.out; have hnc54 := NB119_118.out; obtain ⟨hcz55_0, hcz55_1, hfz55_0, hfz55_1⟩ := k2 BK118.out; obtain ⟨hcz56_0, hcz56_1, hfz56_0, hfz56_1⟩ := k2 BK119.out) | ((with_reducible refine gate_callee (f := 90) rfl ?_); refine goesL_ (some 11) rfl rfl Tryd.func90 (by kernel_rfl) rfl #[.int .i64 a0_0, .int .i64 a1_1] rfl (by (try simp only [List.map_toArray, List.map_cons, List.map_nil]); first | done | rfl | (simp only [List.length_drop, List.length_take]; rfl)) ?_; (with_reducible refine (surtitleref3_Times.calls a0_0 a1_1 t120 t121 t122 _ A3.out).mono ?_); rintro e w57 ⟨rfl, hb⟩; refine ⟨_, rfl, ?_⟩; replace BK118 := ab hb BK118; replace BK119 := ab hb BK119; replace HB := hs hb HB; (try clear hb); (try clear hb2); (try clear hk); (try clear hi)) | ((with_reducible refine gate_dst (N := 5) rfl ?_); refine box_event ?hg (N := 5) ?hd (cs := #[.bool false, .int .u64 0, .int .u64 0]) (t := 115) ?hr ?_; (case hd => rfl); (case hg => rfl); (case hr => first | (go_simp; done) | (go_simp; rfl)); intro gb123 hg w58 hbox hb; have BK123 := Aside0.mk (hbox); have GW123 := ag hg HB; have GE123 := ag hg HB; have NB118_123 := na hg BK118; have NB123_118 := nb hg BK118; have NB119_123 := na hg BK119; have NB123_119 := nb hg BK119; replace BK118 := ab hb BK118; replace BK119 := ab hb BK119; replace HB := hs hb HB; clear hb hbox hg; have hnb59 := NB123_118.out; have hnc59 := NB118_123.out; have hnb60 := NB123_119.out; have hnc60 := NB119_123.out; obtain ⟨hcz61_0, hcz61_1, hcz61_2, hfz61_0, hfz61_1, hfz61_2⟩ := k3 BK123.out; obtain ⟨hcz62_0, hcz62_1, hfz62_0, hfz62_1⟩ := k2 BK119.out; obtain ⟨hcz63_0, hcz63_1, hfz63_0, hfz63_1⟩ := k2 BK118.out) | ((with_reducible refine gate_callee (f := 90) rfl ?_); refine goesL_ (some 16) rfl rfl Tryd.func90 (by kernel_rfl) rfl #[.int .i64 a1_0, .int .i64 a0_1] rfl (by (try simp only [List.map_toArray, List.map_cons, List.map_nil]); first | done | rfl | (simp only [List.length_drop, List.length_take]; rfl)) ?_; (with_reducible refine (surtitleref3_Times.calls a1_0 a0_1 t124 t125 t126 _ A4.out).mono ?_); rintro e w64 ⟨rfl, hb⟩; refine ⟨_, rfl, ?_⟩; have n0_ := ab hb BK118; have n1_ := ab hb BK119; have n2_ := Aside0.mk (blk_below (g := gb123) (o := .cells #[.bool t120, .int .u64 t121, .int .u64 t122] 115 (0, 0)) (by refine bk ?_; refine blk_put (cs := #[.bool t120, .int .u64 t121, .int .u64 0]) ?_ 2 _ rfl; refine bk ?_; refine blk_put (cs := #[.bool t120, .int .u64 0, .int .u64 0]) ?_ 1 _ rfl; refine bk ?_; refine blk_put (cs := #[.bool false, .int .u64 0, .int .u64 0]) ?_ 0 _ rfl; refine bk ?_; exact BK123.out) hb); have n3_ := hs hb HB; clear BK118; clear BK119; clear BK123; clear HB; have BK118 := n0_; have BK119 := n1_; have BK123 := n2_; have HB := n3_; clear n0_ n1_ n2_ n3_; (try clear hb); (try clear hb2); (try clear hk); (try clear hi)) | ((with_reducible refine gate_dst (N := 6) rfl ?_); refine box_event ?hg (N := 6) ?hd (cs := #[.bool false, .int .u64 0, .int .u64 0]) (t := 115) ?hr ?_; (case hd => rfl); (case hg => rfl); (case hr => first | (go_simp; done) | (go_simp; rfl)); intro gb127 hg w65 hbox hb; have BK127 := Aside0.mk (hbox); have GW127 := ag hg HB; have GE127 := ag hg HB; have NB118_127 := na hg BK118; have NB127_118 := nb hg BK118; have NB119_127 := na hg BK119; have NB127_119 := nb hg BK119; have NB123_127 := na hg BK123; have NB127_123 := nb hg BK123; replace BK118 := ab hb BK118; replace BK119 := ab hb BK119; replace BK123 := ab hb BK123; replace HB := hs hb HB; clear hb hbox hg; have hnb66 := NB127_118.out; have hnc66 := NB118_127.out; have hnb67 := NB127_119.out; have hnc67 := NB119_127.out; have hnb68 := NB127_123.out; have hnc68 := NB123_127.out; obtain ⟨hcz69_0, hcz69_1, hcz69_2, hfz69_0, hfz69_1, hfz69_2⟩ := k3 BK127.out; obtain ⟨hcz70_0, hcz70_1, hcz70_2, hfz70_0, hfz70_1, hfz70_2⟩ := k3 BK123.out) | ((with_reducible refine gate_callee (f := 91) rfl ?_); refine goesL_ (some 19) rfl rfl Tryd.func91 (by kernel_rfl) rfl #[.agg #[.bool t120, .int .u64 t121, .int .u64 t122], .agg #[.bool t124, .int .u64 t125, .int .u64 t126]] rfl (by (try simp only [List.map_toArray, List.map_cons, List.map_nil]); first | done | rfl | (simp only [List.length_drop, List.length_take]; rfl)) ?_; (with_reducible refine (surtitleref3_Less.calls t120 t121 t122 t124 t125 t126 false _ A5.out).mono ?_); rintro e w71 ⟨rfl, hb⟩; refine ⟨_, rfl, ?_⟩; have n0_ := ab hb BK118; have n1_ := ab hb BK119; have n2_ := ab hb BK123; have n3_ := Aside0.mk (blk_below (g := gb127) (o := .cells #[.bool t124, .int .u64 t125, .int .u64 t126] 115 (0, 0)) (by refine bk ?_; refine blk_put (cs := #[.bool t124, .int .u64 t125, .int .u64 0]) ?_ 2 _ rfl; refine bk ?_; refine blk_put (cs := #[.bool t124, .int .u64 0, .int .u64 0]) ?_ 1 _ rfl; refine bk ?_; refine blk_put (cs := #[.bool false, .int .u64 0, .int .u64 0]) ?_ 0 _ rfl; refine bk ?_; exact BK127.out) hb); have n4_ := hs hb HB; clear BK118; clear BK119; clear BK123; clear BK127; clear HB; have BK118 := n0_; have BK119 := n1_; have BK123 := n2_; have BK127 := n3_; have HB := n4_; clear n0_ n1_ n2_ n3_ n4_; (try clear hb); (try clear hb2); (try clear hk); (try clear hi); obtain ⟨hcz72_0, hcz72_1, hcz72_2, hfz72_0, hfz72_1, hfz72_2⟩ := k3 BK127.out; obtain ⟨hcz73_0, hcz73_1, hcz73_2, hfz73_0, hfz73_1, hfz73_2⟩ := k3 BK123.out) | ((with_reducible refine gate_callee (f := 91) rfl ?_); refine goesL_ (some 22) rfl rfl Tryd.func91 (by kernel_rfl) rfl #[.agg #[.bool t124, .int .u64 t125, .int .u64 t126], .agg #[.bool t120, .int .u64 t121, .int .u64 t122]] rfl (by (try simp only [List.map_toArray, List.map_cons, List.map_nil]); first | done | rfl | (simp only [List.length_drop, List.length_take]; rfl)) ?_; (with_reducible refine (surtitleref3_Less.calls t124 t125 t126 t120 t121 t122 false _ A27.out).mono ?_); rintro e w74 ⟨rfl, hb⟩; refine ⟨_, rfl, ?_⟩; replace BK118 := ab hb BK118; replace BK119 := ab hb BK119; replace BK123 := ab hb BK123; replace BK127 := ab hb BK127; replace HB := hs hb HB; (try clear hb); (try clear hb2); (try clear hk); (try clear hi)))
  go_ret
  exact ⟨by first | rfl | (simp [errW_none, errW_some] <;> rfl) | (simp [*, errW_none, errW_some] <;> rfl), by repeat (first | (with_reducible first | exact HB.out | apply below_alloc | apply pw_below_drewN | apply below_drew1 | refine below_set ?_ GE118.out | refine below_set ?_ GE119.out | refine below_set ?_ GE123.out | refine below_set ?_ GE127.out) | exact HB.out)⟩

/-! ### surtitleref3_Time: function 32 -/
def surtitleref3_Time.j0 : Nat → Bool → Int → Int → Option (Int)
  | 0, _, _, _ => none
  | k + 1, x10, x131000, x131001 => if x10 = true then (some 12) else (if x131000 < 0 then (some 31) else ((surtitleref3_Cmp.f x131000 x131001 360000 1).bind fun t132 => (if t132 > 0 then (some 31) else (some 0))))
def surtitleref3_Time.f (k : Nat) (a0_0 : Int) (a0_1 : Int) : Option (Int) := (surtitleref3_Right.f k a0_0 a0_1).bind fun t131 => (if t131 = true then (surtitleref3_Time.j0 k (decide (a0_1 > 1048576)) a0_0 a0_1) else (surtitleref3_Time.j0 k true a0_0 a0_1))
set_option maxHeartbeats 8000000 in
set_option maxRecDepth 100000 in
theorem surtitleref3_Time.calls (k : Nat) (a0_0 : Int) (a0_1 : Int) (r : Int) (w : World) (h : surtitleref3_Time.f k a0_0 a0_1 = some r) :
    Calls Tryd.prog 32 #[.agg #[.int .i64 a0_0, .int .i64 a0_1]] w fun e w' => e = .returned (.int .i64 r) ∧ Below w.heap.size w w' := by
  have hu26 := Tryd.underlying26
  have HB := Aside0.mk (Below.refl w.heap.size w)
  have H : ((surtitleref3_Right.f k a0_0 a0_1).bind fun t131 => (if t131 = true then (surtitleref3_Time.j0 k (decide (a0_1 > 1048576)) a0_0 a0_1) else (surtitleref3_Time.j0 k true a0_0 a0_1))) = some r := h
  clear h
  have HC2 := Aside0.mk H
  clear H
  go_enter Tryd.func32, Tryd.ntmps32
  go_upto_region 1 with (first | ((with_reducible refine gate_dst (N := 1) rfl ?_); refine box_event ?hg (N := 1) ?hd (cs := #[.int .i64 a0_0, .int .i64 a0_1]) (t := 26) ?hr ?_; (case hd => rfl); (case hg => rfl); (case hr => first | (go_simp; done) | (go_simp; rfl)); intro gb130 hg w3 hbox hb; have BK130 := Aside0.mk (hbox); have GW130 := ag hg HB; have GE130 := ag hg HB; replace HB := hs hb HB; clear hb hbox hg))
  (try simp only [Act.put, List.setIfInBounds_toArray, List.set_cons_zero, List.set_cons_succ])
  go_cut [10] (fun v10 wc => ∃ (kq : Nat) (x10_1 : Bool), v10 = .bool x10_1 ∧ Aside0 (surtitleref3_Time.j0 kq x10_1 a0_0 a0_1 = some r) ∧ Aside0 (kq ≤ k) ∧ Aside0 (wc.heap[gb130]? = some (.cells #[.int .i64 a0_0, .int .i64 a0_1] 26 (0, 0))) ∧ Aside0 (Below w.heap.size w wc))
  case first =>
    have H := HC2.out
    clear HC2
    replace H := Option.bind_eq_some_iff.mp H
    obtain ⟨t131, A40, H⟩ := H
    replace H : (if t131 = true then (surtitleref3_Time.j0 k (decide (a0_1 > 1048576)) a0_0 a0_1) else (surtitleref3_Time.j0 k true a0_0 a0_1)) = some r := H
    have A4 := Aside0.mk A40
    clear A40
    by_cases c5 : t131 = true
    · subst c5
      have H1 : (surtitleref3_Time.j0 k (decide (a0_1 > 1048576)) a0_0 a0_1) = some r := by rw [if_pos rfl] at H; exact H
      clear H
      have H := H1
      clear H1
      have H' := Aside0.mk H
      clear H
      obtain ⟨hcz6_0, hcz6_1, hfz6_0, hfz6_1⟩ := k2 BK130.out
      go_wp2_with (first | ((with_reducible refine gate_callee (f := 69) rfl ?_); refine goesL_ (some 4) rfl rfl Tryd.func69 (by kernel_rfl) rfl #[.agg #[.int .i64 a0_0, .int .i64 a0_1]] rfl (by (try simp only [List.map_toArray, List.map_cons, List.map_nil]); first | done | rfl | (simp only [List.length_drop, List.length_take]; rfl)) ?_; (with_reducible refine (surtitleref3_Right.calls k a0_0 a0_1 true _ A4.out).mono ?_); rintro e w7 ⟨rfl, hb⟩; refine ⟨_, rfl, ?_⟩; replace BK130 := ab hb BK130; replace HB := hs hb HB; (try clear hb); (try clear hb2); (try clear hk); (try clear hi); obtain ⟨hcz8_0, hcz8_1, hfz8_0, hfz8_1⟩ := k2 BK130.out))
      go_meet
      case rel => exact ⟨_, (decide (a0_1 > 1048576)), (by first | rfl | (simp; done) | (simp [*]; done)), H', ⟨by first | omega | exact Nat.le_refl _⟩, ⟨by refine bk ?_; exact BK130.out⟩, ⟨by repeat (first | (with_reducible first | exact HB.out | apply below_alloc | apply pw_below_drewN | apply below_drew1 | refine below_set ?_ GE130.out) | exact HB.out)⟩⟩
    replace c5 := Bool.eq_false_iff.mpr c5
    subst c5
    have H1 : (surtitleref3_Time.j0 k true a0_0 a0_1) = some r := by rw [if_neg (show ¬ (false = true) by decide)] at H; exact H
    clear H
    have H := H1
    clear H1
    have H' := Aside0.mk H
    clear H
    obtain ⟨hcz9_0, hcz9_1, hfz9_0, hfz9_1⟩ := k2 BK130.out
    go_wp2_with (first | ((with_reducible refine gate_callee (f := 69) rfl ?_); refine goesL_ (some 4) rfl rfl Tryd.func69 (by kernel_rfl) rfl #[.agg #[.int .i64 a0_0, .int .i64 a0_1]] rfl (by (try simp only [List.map_toArray, List.map_cons, List.map_nil]); first | done | rfl | (simp only [List.length_drop, List.length_take]; rfl)) ?_; (with_reducible refine (surtitleref3_Right.calls k a0_0 a0_1 false _ A4.out).mono ?_); rintro e w10 ⟨rfl, hb⟩; refine ⟨_, rfl, ?_⟩; replace BK130 := ab hb BK130; replace HB := hs hb HB; (try clear hb); (try clear hb2); (try clear hk); (try clear hi)))
    go_meet
    case rel => exact ⟨_, (true), (by first | rfl | (simp; done) | (simp [*]; done)), H', ⟨by first | omega | exact Nat.le_refl _⟩, ⟨by refine bk ?_; exact BK130.out⟩, ⟨by repeat (first | (with_reducible first | exact HB.out | apply below_alloc | apply pw_below_drewN | apply below_drew1 | refine below_set ?_ GE130.out) | exact HB.out)⟩⟩
  clear HC2
  obtain ⟨kq, x10_1, rfl, HA, HJ1, BK130, HB⟩ := hcut
  obtain _ | kj1 := kq
  · exact absurd HA.out (by simp [surtitleref3_Time.j0])
  have H := HA.out
  clear HA
  simp only [surtitleref3_Time.j0] at H
  by_cases c11 : x10_1 = true
  · subst c11
    have H1 : (some 12) = some r := by rw [if_pos rfl] at H; exact H
    clear H
    have H := H1
    clear H1
    obtain rfl := Option.some.inj H
    go_wp2
    go_ret
    exact ⟨by first | rfl | (simp [errW_none, errW_some] <;> rfl) | (simp [*, errW_none, errW_some] <;> rfl), by repeat (first | (with_reducible first | exact HB.out | apply below_alloc | apply pw_below_drewN | apply below_drew1 | refine below_set ?_ GE130.out) | exact HB.out)⟩
  replace c11 := Bool.eq_false_iff.mpr c11
  subst c11
  have H1 : (if a0_0 < 0 then (some 31) else ((surtitleref3_Cmp.f a0_0 a0_1 360000 1).bind fun t132 => (if t132 > 0 then (some 31) else (some 0)))) = some r := by rw [if_neg (show ¬ (false = true) by decide)] at H; exact H
  clear H
  have H := H1
  clear H1
  by_cases c12 : a0_0 < 0
  · rw [if_pos c12] at H
    have c12b0 : decide (a0_0 < 0) = true := decide_eq_true c12
    clear c12
    obtain rfl := Option.some.inj H
    obtain ⟨hcz13_0, hcz13_1, hfz13_0, hfz13_1⟩ := k2 BK130.out
    go_wp2
    go_ret
    exact ⟨by first | rfl | (simp [errW_none, errW_some] <;> rfl) | (simp [*, errW_none, errW_some] <;> rfl), by repeat (first | (with_reducible first | exact HB.out | apply below_alloc | apply pw_below_drewN | apply below_drew1 | refine below_set ?_ GE130.out) | exact HB.out)⟩
  rw [if_neg c12] at H
  have c12b0 : decide (a0_0 < 0) = false := decide_eq_false c12
  clear c12
  replace H := Option.bind_eq_some_iff.mp H
  obtain ⟨t132, A140, H⟩ := H
  replace H : (if t132 > 0 then (some 31) else (some 0)) = some r := H
  have A14 := Aside0.mk A140
  clear A140
  by_cases c15 : t132 > 0
  · rw [if_pos c15] at H
    have c15b0 : decide (0 < t132) = true := decide_eq_true c15
    clear c15
    obtain rfl := Option.some.inj H
    obtain ⟨hcz16_0, hcz16_1, hfz16_0, hfz16_1⟩ := k2 BK130.out
    go_wp2_with (first | (go_at_call 70; (with_reducible refine (surtitleref3_Cmp.calls a0_0 a0_1 360000 1 t132 _ A14.out).mono ?_); rintro e w17 ⟨rfl, hb⟩; replace BK130 := ab hb BK130; replace HB := hs hb HB; (try clear hb); (try clear hb2); (try clear hk); (try clear hi)))
    go_ret
    exact ⟨by first | rfl | (simp [errW_none, errW_some] <;> rfl) | (simp [*, errW_none, errW_some] <;> rfl), by repeat (first | (with_reducible first | exact HB.out | apply below_alloc | apply pw_below_drewN | apply below_drew1 | refine below_set ?_ GE130.out) | exact HB.out)⟩
  rw [if_neg c15] at H
  have c15b0 : decide (0 < t132) = false := decide_eq_false c15
  clear c15
  obtain rfl := Option.some.inj H
  obtain ⟨hcz18_0, hcz18_1, hfz18_0, hfz18_1⟩ := k2 BK130.out
  go_wp2_with (first | (go_at_call 70; (with_reducible refine (surtitleref3_Cmp.calls a0_0 a0_1 360000 1 t132 _ A14.out).mono ?_); rintro e w19 ⟨rfl, hb⟩; replace BK130 := ab hb BK130; replace HB := hs hb HB; (try clear hb); (try clear hb2); (try clear hk); (try clear hi)))
  go_ret
  exact ⟨by first | rfl | (simp [errW_none, errW_some] <;> rfl) | (simp [*, errW_none, errW_some] <;> rfl), by repeat (first | (with_reducible first | exact HB.out | apply below_alloc | apply pw_below_drewN | apply below_drew1 | refine below_set ?_ GE130.out) | exact HB.out)⟩

end Go.Proofs.YtghiibdhibcbaaaDoor.PG
