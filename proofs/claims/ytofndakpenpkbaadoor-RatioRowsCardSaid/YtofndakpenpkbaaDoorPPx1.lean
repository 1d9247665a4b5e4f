-- made by wip/pp2.py out of the translation, over contracts of my own
import Derived.Test.YtofndakpenpkbaaDoorProg
import Derived.Below
import Derived.Deep.Draws
import Derived.Deep.AppendLies
import Derived.Maps.AppendAt
import Derived.OwnWalk
import Derived.Laws.BytesArg
import Derived.Laws.MakeOwn
import Derived.Laws.OwnMore
import Derived.Deep.OwnRows
import Derived.Tactics
import Derived.Lib.ConvBytes
import Derived.Laws.Slices
import Derived.WalkKit
import Derived.KernelRfl
import Derived.RowKit3
import Derived.Deep.LoopGhost
import Derived.Deep.QuietTactic
import Derived.BigQuiet
import Derived.WideLaws
import Derived.Deep.DeepCutAuto
import Derived.Deep.CutBlock
import Derived.Deep.RegionHeld3
import Derived.Laws.Rows
import Derived.Lib.AppendStr
import Derived.ArgAppend
import Derived.Laws.IdiomCopy
import Derived.OrdersHeld
import Derived.Laws.BitsLemmas
import Derived.RowKit
import Derived.Test.YtofndakpenpkbaaDoorPRx1
import Derived.Test.YtofndakpenpkbaaDoorRefD
import Derived.Test.YtofndakpenpkbaaDoorXW
namespace Go.Proofs.YtofndakpenpkbaaDoor.PP
open Go.Proofs.YtofndakpenpkbaaDoor.PA Go.Proofs.YtofndakpenpkbaaDoor.PR
open Go.RowKit Go.Proofs.YtofndakpenpkbaaDoorW.PrintWords Go.Proofs.YtofndakpenpkbaaDoorW.PrintLast Go.Proofs.YtofndakpenpkbaaDoorW.PrintMore
set_option linter.unusedVariables false
set_option linter.unusedSimpArgs false



def errW : Option Int → Value
  | none => .nilIface
  | some c => .iface 0 (.int .i64 c)
theorem errW_none : errW none = .nilIface := rfl
theorem errW_some (c : Int) : errW (some c) = .iface 0 (.int .i64 c) := rfl

-- the values' own types
/-! #### struct type 74 -/
structure S74 where
  f0 : Bool
  f1 : Int
  f2 : Int
def z74 : S74 := ⟨false, (0 : Int), (0 : Int)⟩
def k74 : Kd S74 := Kd.iso (Kd.pair Kd.bool (Kd.pair (Kd.int .u64) (Kd.int .u64))) (fun x : S74 => (x.f0, x.f1, x.f2))
theorem k74_open {w : World} {x : S74} {cs : List Value} (h : k74.K w x cs) : cs = [.bool x.f0, .int .u64 x.f1, .int .u64 x.f2] := by
  obtain ⟨_, _, rfl, rfl, ⟨_, _, rfl, rfl, rfl⟩⟩ := h
  exact rfl
theorem k74_openM {w : World} {base : Nat} {ok : Nat → Prop} {x : S74} {cs : List Value} (h : k74.M w base ok x cs) : cs = [.bool x.f0, .int .u64 x.f1, .int .u64 x.f2] := by
  obtain ⟨_, _, rfl, rfl, ⟨_, _, rfl, rfl, rfl⟩⟩ := h
  exact rfl
theorem k74_mk (w : World) (x : S74)  : k74.K w x [.bool x.f0, .int .u64 x.f1, .int .u64 x.f2] := ⟨[.bool x.f0], [.int .u64 x.f1, .int .u64 x.f2], rfl, rfl, ⟨[.int .u64 x.f1], [.int .u64 x.f2], rfl, rfl, rfl⟩⟩
theorem k74_mkM (w : World) (base : Nat) (ok : Nat → Prop) (x : S74)  : k74.M w base ok x [.bool x.f0, .int .u64 x.f1, .int .u64 x.f2] := ⟨[.bool x.f0], [.int .u64 x.f1, .int .u64 x.f2], rfl, rfl, ⟨[.int .u64 x.f1], [.int .u64 x.f2], rfl, rfl, rfl⟩⟩
def rd_T74 (xs : List S74) (i : Int) : S74 := xs.getD i.toNat z74
theorem at_T74 {w : World} {A : Option Addr} {n : Nat} {xs : List S74} (h : Kd.C k74 w A n xs) (i : Int) (h0 : 0 ≤ i) (h1 : i < n) : ∃ ad , A = some ad ∧ w.cell? (ad.add (i.toNat * 3)) = some (.bool (rd_T74 xs i).f0) ∧ w.cell? ⟨(ad.add (i.toNat * 3)).block, (ad.add (i.toNat * 3)).off + 1, none⟩ = some (.int .u64 (rd_T74 xs i).f1) ∧ w.cell? ⟨(ad.add (i.toNat * 3)).block, (ad.add (i.toNat * 3)).off + 2, none⟩ = some (.int .u64 (rd_T74 xs i).f2) := by
  obtain ⟨ad, c, e, _, hK, hc0⟩ := Kd.C_get h z74 i h0 h1
  have hc : ∀ j u, c[j]? = some u → w.cell? (ad.add (i.toNat * 3 + j)) = some u := hc0
  obtain rfl := k74_open hK
  exact ⟨ad, e, hc 0 _ rfl, by rw [← add_field _ _ 1 (by omega)]; exact hc 1 _ rfl, by rw [← add_field _ _ 2 (by omega)]; exact hc 2 _ rfl⟩

end Go.Proofs.YtofndakpenpkbaaDoor.PP

namespace Go.Proofs.YtofndakpenpkbaaDoor.PP
open Go.Proofs.YtofndakpenpkbaaDoor.PA Go.Proofs.YtofndakpenpkbaaDoor.PR
open Go.RowKit Go.Proofs.YtofndakpenpkbaaDoorW.PrintWords Go.Proofs.YtofndakpenpkbaaDoorW.PrintLast Go.Proofs.YtofndakpenpkbaaDoorW.PrintMore
set_option linter.unusedVariables false
set_option linter.unusedSimpArgs false

/-! ### surtitleref3_right: function 54: told elsewhere -/

/-! ### surtitleref3_above: function 89: told elsewhere -/

/-! ### surtitleref3_Plus: function 63 -/
def surtitleref3_Plus.f : Nat → Bool → Int → Int → Bool → Int → Int → Option (Bool × Int × Int)
  | 0, _, _, _, _, _, _ => none
  | k + 1, a0_0, a0_1, a0_2, a1_0, a1_1, a1_2 => if (a0_0 == a1_0) = true then (if (IntKind.u64.wrap (a0_2 + a1_2)) < a0_2 then ((surtitleref3_right.f a0_0 (IntKind.u64.wrap ((IntKind.u64.wrap (a0_1 + a1_1)) + 1)) (IntKind.u64.wrap (a0_2 + a1_2))).bind fun bt104 => (some (bt104.1, bt104.2.1, bt104.2.2))) else ((surtitleref3_right.f a0_0 (IntKind.u64.wrap (a0_1 + a1_1)) (IntKind.u64.wrap (a0_2 + a1_2))).bind fun bt107 => (some (bt107.1, bt107.2.1, bt107.2.2)))) else ((surtitleref3_above.f a1_0 a1_1 a1_2 a0_0 a0_1 a0_2).bind fun t110 => (if t110 = true then ((surtitleref3_Plus.f k a1_0 a1_1 a1_2 a0_0 a0_1 a0_2).bind fun bt111 => (some (bt111.1, bt111.2.1, bt111.2.2))) else (if a0_2 < a1_2 then ((surtitleref3_right.f a0_0 (IntKind.u64.wrap ((IntKind.u64.wrap (a0_1 - a1_1)) - 1)) (IntKind.u64.wrap (a0_2 - a1_2))).bind fun bt114 => (some (bt114.1, bt114.2.1, bt114.2.2))) else ((surtitleref3_right.f a0_0 (IntKind.u64.wrap (a0_1 - a1_1)) (IntKind.u64.wrap (a0_2 - a1_2))).bind fun bt117 => (some (bt117.1, bt117.2.1, bt117.2.2))))))
set_option maxHeartbeats 8000000 in
set_option maxRecDepth 100000 in
theorem surtitleref3_Plus.calls (k : Nat) : ∀ (a0_0 : Bool) (a0_1 : Int) (a0_2 : Int) (a1_0 : Bool) (a1_1 : Int) (a1_2 : Int) (r1 : Bool) (r2 : Int) (r3 : Int) (w : World) (h : surtitleref3_Plus.f k a0_0 a0_1 a0_2 a1_0 a1_1 a1_2 = some (r1, r2, r3)),
    Calls Tryd.prog 63 #[.agg #[.bool a0_0, .int .u64 a0_1, .int .u64 a0_2], .agg #[.bool a1_0, .int .u64 a1_1, .int .u64 a1_2]] w fun e w' => e = .returned (.agg #[.bool r1, .int .u64 r2, .int .u64 r3]) ∧ Below w.heap.size w w' := by
  induction k using Nat.strongRecOn with
  | _ k ih =>
  intro a0_0 a0_1 a0_2 a1_0 a1_1 a1_2 r1 r2 r3 w h
  cases k with
  | zero => exact absurd h (by simp [surtitleref3_Plus.f])
  | succ k =>
  simp only [surtitleref3_Plus.f] at h
  have hu74 := Tryd.underlying74
  have HB := Aside0.mk (Below.refl w.heap.size w)
  have H : (if (a0_0 == a1_0) = true then (if (IntKind.u64.wrap (a0_2 + a1_2)) < a0_2 then ((surtitleref3_right.f a0_0 (IntKind.u64.wrap ((IntKind.u64.wrap (a0_1 + a1_1)) + 1)) (IntKind.u64.wrap (a0_2 + a1_2))).bind fun bt104 => (some (bt104.1, bt104.2.1, bt104.2.2))) else ((surtitleref3_right.f a0_0 (IntKind.u64.wrap (a0_1 + a1_1)) (IntKind.u64.wrap (a0_2 + a1_2))).bind fun bt107 => (some (bt107.1, bt107.2.1, bt107.2.2)))) else ((surtitleref3_above.f a1_0 a1_1 a1_2 a0_0 a0_1 a0_2).bind fun t110 => (if t110 = true then ((surtitleref3_Plus.f k a1_0 a1_1 a1_2 a0_0 a0_1 a0_2).bind fun bt111 => (some (bt111.1, bt111.2.1, bt111.2.2))) else (if a0_2 < a1_2 then ((surtitleref3_right.f a0_0 (IntKind.u64.wrap ((IntKind.u64.wrap (a0_1 - a1_1)) - 1)) (IntKind.u64.wrap (a0_2 - a1_2))).bind fun bt114 => (some (bt114.1, bt114.2.1, bt114.2.2))) else ((surtitleref3_right.f a0_0 (IntKind.u64.wrap (a0_1 - a1_1)) (IntKind.u64.wrap (a0_2 - a1_2))).bind fun bt117 => (some (bt117.1, bt117.2.1, bt117.2.2))))))) = some (r1, r2, r3) := h
  clear h
  by_cases c3 : (a0_0 == a1_0) = true
  · rw [if_pos c3] at H
    have c3b0 : (a0_0 == a1_0) = true := c3
    (try (have c3b1 : decide (a0_0 = a1_0) = true := by simpa using c3))
    (try (have c3b2 : (a0_0 == a1_0) = true := by simpa using c3))
    clear c3
    by_cases c4 : (IntKind.u64.wrap (a0_2 + a1_2)) < a0_2
    · rw [if_pos c4] at H
      have c4b0 : decide ((IntKind.u64.wrap (a0_2 + a1_2)) < a0_2) = true := decide_eq_true c4
      clear c4
      replace H := Option.bind_eq_some_iff.mp H
      obtain ⟨⟨t104, t105, t106⟩, A50, H⟩ := H
      replace H : (some (t104, t105, t106)) = some (r1, r2, r3) := H
      have A5 := Aside0.mk A50
      clear A50
      simp only [Option.some.injEq, Prod.mk.injEq] at H
      obtain ⟨rfl, rfl, rfl⟩ := H
      go_enter Tryd.func63, Tryd.ntmps63
      go_wp2_with (first | ((with_reducible refine gate_dst (N := 2) rfl ?_); refine box_event ?hg (N := 2) ?hd (cs := #[.bool a0_0, .int .u64 a0_1, .int .u64 a0_2]) (t := 74) ?hr ?_; (case hd => rfl); (case hg => rfl); (case hr => first | (go_simp; done) | (go_simp; rfl)); intro gb101 hg w6 hbox hb; have BK101 := Aside0.mk (hbox); have GW101 := ag hg HB; have GE101 := ag hg HB; replace HB := hs hb HB; clear hb hbox hg) | ((with_reducible refine gate_dst (N := 3) rfl ?_); refine box_event ?hg (N := 3) ?hd (cs := #[.bool a1_0, .int .u64 a1_1, .int .u64 a1_2]) (t := 74) ?hr ?_; (case hd => rfl); (case hg => rfl); (case hr => first | (go_simp; done) | (go_simp; rfl)); intro gb102 hg w7 hbox hb; have BK102 := Aside0.mk (hbox); have GW102 := ag hg HB; have GE102 := ag hg HB; have NB101_102 := na hg BK101; have NB102_101 := nb hg BK101; replace BK101 := ab hb BK101; replace HB := hs hb HB; clear hb hbox hg) | ((with_reducible refine gate_dst (N := 4) rfl ?_); refine box_event ?hg (N := 4) ?hd (cs := #[.bool false, .int .u64 0, .int .u64 0]) (t := 74) ?hr ?_; (case hd => rfl); (case hg => rfl); (case hr => first | (go_simp; done) | (go_simp; rfl)); intro gb103 hg w8 hbox hb; have BK103 := Aside0.mk (hbox); have GW103 := ag hg HB; have GE103 := ag hg HB; have NB101_103 := na hg BK101; have NB103_101 := nb hg BK101; have NB102_103 := na hg BK102; have NB103_102 := nb hg BK102; replace BK101 := ab hb BK101; replace BK102 := ab hb BK102; replace HB := hs hb HB; clear hb hbox hg; have hnb9 := NB101_102.out; have hnc9 := NB102_101.out; have hnb10 := NB101_103.out; have hnc10 := NB103_101.out; obtain ⟨hcz11_0, hcz11_1, hcz11_2, hfz11_0, hfz11_1, hfz11_2⟩ := k3 BK101.out; have hnb12 := NB102_103.out; have hnc12 := NB103_102.out; obtain ⟨hcz13_0, hcz13_1, hcz13_2, hfz13_0, hfz13_1, hfz13_2⟩ := k3 BK102.out) | ((with_reducible refine gate_callee (f := 54) rfl ?_); refine goesL_ (some 35) rfl rfl Tryd.func54 (by kernel_rfl) rfl #[.agg #[.bool a0_0, .int .u64 (IntKind.u64.wrap ((IntKind.u64.wrap (a0_1 + a1_1)) + 1)), .int .u64 (IntKind.u64.wrap (a0_2 + a1_2))]] rfl (by (try simp only [List.map_toArray, List.map_cons, List.map_nil]); first | done | rfl | (simp only [List.length_drop, List.length_take]; rfl)) ?_; (with_reducible refine (surtitleref3_right.calls a0_0 (IntKind.u64.wrap ((IntKind.u64.wrap (a0_1 + a1_1)) + 1)) (IntKind.u64.wrap (a0_2 + a1_2)) t104 t105 t106 _ A5.out).mono ?_); rintro e w14 ⟨rfl, hb⟩; refine ⟨_, rfl, ?_⟩; replace BK101 := ab hb BK101; replace BK102 := ab hb BK102; replace BK103 := ab hb BK103; replace HB := hs hb HB; (try clear hb); (try clear hb2); (try clear hk); (try clear hi); obtain ⟨hcz15_0, hcz15_1, hcz15_2, hfz15_0, hfz15_1, hfz15_2⟩ := k3 BK103.out))
      refine bodyPost_ret (results_cell_row rfl _ _ gb103 74 #[.bool t104, .int .u64 t105, .int .u64 t106] (0, 0) _ rfl (by refine bk ?_; refine blk_put (cs := #[.bool t104, .int .u64 t105, .int .u64 0]) ?_ 2 _ rfl; refine bk ?_; refine blk_put (cs := #[.bool t104, .int .u64 0, .int .u64 0]) ?_ 1 _ rfl; refine bk ?_; refine blk_put (cs := #[.bool false, .int .u64 0, .int .u64 0]) ?_ 0 _ rfl; refine bk ?_; exact BK103.out) Tryd.underlying74 rfl (by kernel_rfl)) rfl ?_
      exact ⟨by first | rfl | (simp [errW_none, errW_some] <;> rfl) | (simp [*, errW_none, errW_some] <;> rfl), by repeat (first | (with_reducible first | exact HB.out | apply below_alloc | apply pw_below_drewN | apply below_drew1 | refine below_set ?_ GE101.out | refine below_set ?_ GE102.out | refine below_set ?_ GE103.out) | exact HB.out)⟩
    rw [if_neg c4] at H
    have c4b0 : decide ((IntKind.u64.wrap (a0_2 + a1_2)) < a0_2) = false := decide_eq_false c4
    clear c4
    replace H := Option.bind_eq_some_iff.mp H
    obtain ⟨⟨t107, t108, t109⟩, A160, H⟩ := H
    replace H : (some (t107, t108, t109)) = some (r1, r2, r3) := H
    have A16 := Aside0.mk A160
    clear A160
    simp only [Option.some.injEq, Prod.mk.injEq] at H
    obtain ⟨rfl, rfl, rfl⟩ := H
    go_enter Tryd.func63, Tryd.ntmps63
    go_wp2_with (first | ((with_reducible refine gate_dst (N := 2) rfl ?_); refine box_event ?hg (N := 2) ?hd (cs := #[.bool a0_0, .int .u64 a0_1, .int .u64 a0_2]) (t := 74) ?hr ?_; (case hd => rfl); (case hg => rfl); (case hr => first | (go_simp; done) | (go_simp; rfl)); intro gb101 hg w17 hbox hb; have BK101 := Aside0.mk (hbox); have GW101 := ag hg HB; have GE101 := ag hg HB; replace HB := hs hb HB; clear hb hbox hg) | ((with_reducible refine gate_dst (N := 3) rfl ?_); refine box_event ?hg (N := 3) ?hd (cs := #[.bool a1_0, .int .u64 a1_1, .int .u64 a1_2]) (t := 74) ?hr ?_; (case hd => rfl); (case hg => rfl); (case hr => first | (go_simp; done) | (go_simp; rfl)); intro gb102 hg w18 hbox hb; have BK102 := Aside0.mk (hbox); have GW102 := ag hg HB; have GE102 := ag hg HB; have NB101_102 := na hg BK101; have NB102_101 := nb hg BK101; replace BK101 := ab hb BK101; replace HB := hs hb HB; clear hb hbox hg) | ((with_reducible refine gate_dst (N := 4) rfl ?_); refine box_event ?hg (N := 4) ?hd (cs := #[.bool false, .int .u64 0, .int .u64 0]) (t := 74) ?hr ?_; (case hd => rfl); (case hg => rfl); (case hr => first | (go_simp; done) | (go_simp; rfl)); intro gb103 hg w19 hbox hb; have BK103 := Aside0.mk (hbox); have GW103 := ag hg HB; have GE103 := ag hg HB; have NB101_103 := na hg BK101; have NB103_101 := nb hg BK101; have NB102_103 := na hg BK102; have NB103_102 := nb hg BK102; replace BK101 := ab hb BK101; replace BK102 := ab hb BK102; replace HB := hs hb HB; clear hb hbox hg; have hnb20 := NB101_102.out; have hnc20 := NB102_101.out; have hnb21 := NB101_103.out; have hnc21 := NB103_101.out; obtain ⟨hcz22_0, hcz22_1, hcz22_2, hfz22_0, hfz22_1, hfz22_2⟩ := k3 BK101.out; have hnb23 := NB102_103.out; have hnc23 := NB103_102.out; obtain ⟨hcz24_0, hcz24_1, hcz24_2, hfz24_0, hfz24_1, hfz24_2⟩ := k3 BK102.out) | ((with_reducible refine gate_callee (f := 54) rfl ?_); refine goesL_ (some 35) rfl rfl Tryd.func54 (by kernel_rfl) rfl #[.agg #[.bool a0_0, .int .u64 (IntKind.u64.wrap (a0_1 + a1_1)), .int .u64 (IntKind.u64.wrap (a0_2 + a1_2))]] rfl (by (try simp only [List.map_toArray, List.map_cons, List.map_nil]); first | done | rfl | (simp only [List.length_drop, List.length_take]; rfl)) ?_; (with_reducible refine (surtitleref3_right.calls a0_0 (IntKind.u64.wrap (a0_1 + a1_1)) (IntKind.u64.wrap (a0_2 + a1_2)) t107 t108 t109 _ A16.out).mono ?_); rintro e w25 ⟨rfl, hb⟩; refine ⟨_, rfl, ?_⟩; replace BK101 := ab hb BK101; replace BK102 := ab hb BK102; replace BK103 := ab hb BK103; replace HB := hs hb HB; (try clear hb); (try clear hb2); (try clear hk); (try clear hi); obtain ⟨hcz26_0, hcz26_1, hcz26_2, hfz26_0, hfz26_1, hfz26_2⟩ := k3 BK103.out))
    refine bodyPost_ret (results_cell_row rfl _ _ gb103 74 #[.bool t107, .int .u64 t108, .int .u64 t109] (0, 0) _ rfl (by refine bk ?_; refine blk_put (cs := #[.bool t107, .int .u64 t108, .int .u64 0]) ?_ 2 _ rfl; refine bk ?_; refine blk_put (cs := #[.bool t107, .int .u64 0, .int .u64 0]) ?_ 1 _ rfl; refine bk ?_; refine blk_put (cs := #[.bool false, .int .u64 0, .int .u64 0]) ?_ 0 _ rfl; refine bk ?_; exact BK103.out) Tryd.underlying74 rfl (by kernel_rfl)) rfl ?_
    exact ⟨by first | rfl | (simp [errW_none, errW_some] <;> rfl) | (simp [*, errW_none, errW_some] <;> rfl), by repeat (first | (with_reducible first | exact HB.out | apply below_alloc | apply pw_below_drewN | apply below_drew1 | refine below_set ?_ GE101.out | refine below_set ?_ GE102.out | refine below_set ?_ GE103.out) | exact HB.out)⟩
  rw [if_neg c3] at H
  have c3b0 : (a0_0 == a1_0) = false := by simpa using c3
  (try (have c3b1 : decide (a0_0 = a1_0) = false := by simpa using c3))
  (try (have c3b2 : (a0_0 == a1_0) = false := by simpa using c3))
  (try (have c3b3 : ¬ (a0_0 = a1_0) := by simpa using c3))
  clear c3
  replace H := Option.bind_eq_some_iff.mp H
  obtain ⟨t110, A270, H⟩ := H
  replace H : (if t110 = true then ((surtitleref3_Plus.f k a1_0 a1_1 a1_2 a0_0 a0_1 a0_2).bind fun bt111 => (some (bt111.1, bt111.2.1, bt111.2.2))) else (if a0_2 < a1_2 then ((surtitleref3_right.f a0_0 (IntKind.u64.wrap ((IntKind.u64.wrap (a0_1 - a1_1)) - 1)) (IntKind.u64.wrap (a0_2 - a1_2))).bind fun bt114 => (some (bt114.1, bt114.2.1, bt114.2.2))) else ((surtitleref3_right.f a0_0 (IntKind.u64.wrap (a0_1 - a1_1)) (IntKind.u64.wrap (a0_2 - a1_2))).bind fun bt117 => (some (bt117.1, bt117.2.1, bt117.2.2))))) = some (r1, r2, r3) := H
  have A27 := Aside0.mk A270
  clear A270
  by_cases c28 : t110 = true
  · subst c28
    have H1 : ((surtitleref3_Plus.f k a1_0 a1_1 a1_2 a0_0 a0_1 a0_2).bind fun bt111 => (some (bt111.1, bt111.2.1, bt111.2.2))) = some (r1, r2, r3) := by rw [if_pos rfl] at H; exact H
    clear H
    have H := H1
    clear H1
    replace H := Option.bind_eq_some_iff.mp H
    obtain ⟨⟨t111, t112, t113⟩, A290, H⟩ := H
    replace H : (some (t111, t112, t113)) = some (r1, r2, r3) := H
    have A29 := Aside0.mk A290
    clear A290
    simp only [Option.some.injEq, Prod.mk.injEq] at H
    obtain ⟨rfl, rfl, rfl⟩ := H
    go_enter Tryd.func63, Tryd.ntmps63
    go_wp2_with (first | ((with_reducible refine gate_dst (N := 2) rfl ?_); refine box_event ?hg (N := 2) ?hd (cs := #[.bool a0_0, .int .u64 a0_1, .int .u64 a0_2]) (t := 74) ?hr ?_; (case hd => rfl); (case hg => rfl); (case hr => first | (go_simp; done) | (go_simp; rfl)); intro gb101 hg w30 hbox hb; have BK101 := Aside0.mk (hbox); have GW101 := ag hg HB; have GE101 := ag hg HB; replace HB := hs hb HB; clear hb hbox hg) | ((with_reducible refine gate_dst (N := 3) rfl ?_); refine box_event ?hg (N := 3) ?hd (cs := #[.bool a1_0, .int .u64 a1_1, .int .u64 a1_2]) (t := 74) ?hr ?_; (case hd => rfl); (case hg => rfl); (case hr => first | (go_simp; done) | (go_simp; rfl)); intro gb102 hg w31 hbox hb; have BK102 := Aside0.mk (hbox); have GW102 := ag hg HB; have GE102 := ag hg HB; have NB101_102 := na hg BK101; have NB102_101 := nb hg BK101; replace BK101 := ab hb BK101; replace HB := hs hb HB; clear hb hbox hg) | ((with_reducible refine gate_dst (N := 4) rfl ?_); refine box_event ?hg (N := 4) ?hd (cs := #[.bool false, .int .u64 0, .int .u64 0]) (t := 74) ?hr ?_; (case hd => rfl); (case hg => rfl); (case hr => first | (go_simp; done) | (go_simp; rfl)); intro gb103 hg w32 hbox hb; have BK103 := Aside0.mk (hbox); have GW103 := ag hg HB; have GE103 := ag hg HB; have NB101_103 := na hg BK101; have NB103_101 := nb hg BK101; have NB102_103 := na hg BK102; have NB103_102 := nb hg BK102; replace BK101 := ab hb BK101; replace BK102 := ab hb BK102; replace HB := hs hb HB; clear hb hbox hg; have hnb33 := NB101_102.out; have hnc33 := NB102_101.out; have hnb34 := NB101_103.out; have hnc34 := NB103_101.out; obtain ⟨hcz35_0, hcz35_1, hcz35_2, hfz35_0, hfz35_1, hfz35_2⟩ := k3 BK101.out; have hnb36 := NB102_103.out; have hnc36 := NB103_102.out; obtain ⟨hcz37_0, hcz37_1, hcz37_2, hfz37_0, hfz37_1, hfz37_2⟩ := k3 BK102.out) | ((with_reducible refine gate_callee (f := 89) rfl ?_); refine goesL_ (some 38) rfl rfl Tryd.func89 (by kernel_rfl) rfl #[.agg #[.bool a1_0, .int .u64 a1_1, .int .u64 a1_2], .agg #[.bool a0_0, .int .u64 a0_1, .int .u64 a0_2]] rfl (by (try simp only [List.map_toArray, List.map_cons, List.map_nil]); first | done | rfl | (simp only [List.length_drop, List.length_take]; rfl)) ?_; (with_reducible refine (surtitleref3_above.calls a1_0 a1_1 a1_2 a0_0 a0_1 a0_2 true _ A27.out).mono ?_); rintro e w38 ⟨rfl, hb⟩; refine ⟨_, rfl, ?_⟩; replace BK101 := ab hb BK101; replace BK102 := ab hb BK102; replace BK103 := ab hb BK103; replace HB := hs hb HB; (try clear hb); (try clear hb2); (try clear hk); (try clear hi); obtain ⟨hcz39_0, hcz39_1, hcz39_2, hfz39_0, hfz39_1, hfz39_2⟩ := k3 BK102.out; obtain ⟨hcz40_0, hcz40_1, hcz40_2, hfz40_0, hfz40_1, hfz40_2⟩ := k3 BK101.out) | ((with_reducible refine gate_callee (f := 63) rfl ?_); refine goesL_ (some 41) rfl rfl Tryd.func63 (by kernel_rfl) rfl #[.agg #[.bool a1_0, .int .u64 a1_1, .int .u64 a1_2], .agg #[.bool a0_0, .int .u64 a0_1, .int .u64 a0_2]] rfl (by (try simp only [List.map_toArray, List.map_cons, List.map_nil]); first | done | rfl | (simp only [List.length_drop, List.length_take]; rfl)) ?_; (with_reducible refine (ih k (by omega) a1_0 a1_1 a1_2 a0_0 a0_1 a0_2 t111 t112 t113 _ A29.out).mono ?_); rintro e w41 ⟨rfl, hb⟩; refine ⟨_, rfl, ?_⟩; replace BK101 := ab hb BK101; replace BK102 := ab hb BK102; replace BK103 := ab hb BK103; replace HB := hs hb HB; (try clear hb); (try clear hb2); (try clear hk); (try clear hi); obtain ⟨hcz42_0, hcz42_1, hcz42_2, hfz42_0, hfz42_1, hfz42_2⟩ := k3 BK103.out))
    refine bodyPost_ret (results_cell_row rfl _ _ gb103 74 #[.bool t111, .int .u64 t112, .int .u64 t113] (0, 0) _ rfl (by refine bk ?_; refine blk_put (cs := #[.bool t111, .int .u64 t112, .int .u64 0]) ?_ 2 _ rfl; refine bk ?_; refine blk_put (cs := #[.bool t111, .int .u64 0, .int .u64 0]) ?_ 1 _ rfl; refine bk ?_; refine blk_put (cs := #[.bool false, .int .u64 0, .int .u64 0]) ?_ 0 _ rfl; refine bk ?_; exact BK103.out) Tryd.underlying74 rfl (by kernel_rfl)) rfl ?_
    exact ⟨by first | rfl | (simp [errW_none, errW_some] <;> rfl) | (simp [*, errW_none, errW_some] <;> rfl), by repeat (first | (with_reducible first | exact HB.out | apply below_alloc | apply pw_below_drewN | apply below_drew1 | refine below_set ?_ GE101.out | refine below_set ?_ GE102.out | refine below_set ?_ GE103.out) | exact HB.out)⟩
  replace c28 := Bool.eq_false_iff.mpr c28
  subst c28
  have H1 : (if a0_2 < a1_2 then ((surtitleref3_right.f a0_0 (IntKind.u64.wrap ((IntKind.u64.wrap (a0_1 - a1_1)) - 1)) (IntKind.u64.wrap (a0_2 - a1_2))).bind fun bt114 => (some (bt114.1, bt114.2.1, bt114.2.2))) else ((surtitleref3_right.f a0_0 (IntKind.u64.wrap (a0_1 - a1_1)) (IntKind.u64.wrap (a0_2 - a1_2))).bind fun bt117 => (some (bt117.1, bt117.2.1, bt117.2.2)))) = some (r1, r2, r3) := by rw [if_neg (show ¬ (false = true) by decide)] at H; exact H
  clear H
  have H := H1
  clear H1
  by_cases c43 : a0_2 < a1_2
  · rw [if_pos c43] at H
    have c43b0 : decide (a0_2 < a1_2) = true := decide_eq_true c43
    clear c43
    replace H := Option.bind_eq_some_iff.mp H
    obtain ⟨⟨t114, t115, t116⟩, A440, H⟩ := H
    replace H : (some (t114, t115, t116)) = some (r1, r2, r3) := H
    have A44 := Aside0.mk A440
    clear A440
    simp only [Option.some.injEq, Prod.mk.injEq] at H
    obtain ⟨rfl, rfl, rfl⟩ := H
    go_enter Tryd.func63, Tryd.ntmps63
    go_wp2_with (first | ((with_reducible refine gate_dst (N := 2) rfl ?_); refine box_event ?hg (N := 2) ?hd (cs := #[.bool a0_0, .int .u64 a0_1, .int .u64 a0_2]) (t := 74) ?hr ?_; (case hd => rfl); (case hg => rfl); (case hr => first | (go_simp; done) | (go_simp; rfl)); intro gb101 hg w45 hbox hb; have BK101 := Aside0.mk (hbox); have GW101 := ag hg HB; have GE101 := ag hg HB; replace HB := hs hb HB; clear hb hbox hg) | ((with_reducible refine gate_dst (N := 3) rfl ?_); refine box_event ?hg (N := 3) ?hd (cs := #[.bool a1_0, .int .u64 a1_1, .int .u64 a1_2]) (t := 74) ?hr ?_; (case hd => rfl); (case hg => rfl); (case hr => first | (go_simp; done) | (go_simp; rfl)); intro gb102 hg w46 hbox hb; have BK102 := Aside0.mk (hbox); have GW102 := ag hg HB; have GE102 := ag hg HB; have NB101_102 := na hg BK101; have NB102_101 := nb hg BK101; replace BK101 := ab hb BK101; replace HB := hs hb HB; clear hb hbox hg) | ((with_reducible refine gate_dst (N := 4) rfl ?_); refine box_event ?hg (N := 4) ?hd (cs := #[.bool false, .int .u64 0, .int .u64 0]) (t := 74) ?hr ?_; (case hd => rfl); (case hg => rfl); (case hr => first | (go_simp; done) | (go_simp; rfl)); intro gb103 hg w47 hbox hb; have BK103 := Aside0.mk (hbox); have GW103 := ag hg HB; have GE103 := ag hg HB; have NB101_103 := na hg BK101; have NB103_101 := nb hg BK101; have NB102_103 := na hg BK102; have NB103_102 := nb hg BK102; replace BK101 := ab hb BK101; replace BK102 := ab hb BK102; replace HB := hs hb HB; clear hb hbox hg; have hnb48 := NB101_102.out; have hnc48 := NB102_101.out; have hnb49 := NB101_103.out; have hnc49 := NB103_101.out; obtain ⟨hcz50_0, hcz50_1, hcz50_2, hfz50_0, hfz50_1, hfz50_2⟩ := k3 BK101.out; have hnb51 := NB102_103.out; have hnc51 := NB103_102.out; obtain ⟨hcz52_0, hcz52_1, hcz52_2, hfz52_0, hfz52_1, hfz52_2⟩ := k3 BK102.out) | ((with_reducible refine gate_callee (f := 89) rfl ?_); refine goesL_ (some 38) rfl rfl Tryd.func89 (by kernel_rfl) rfl #[.agg #[.bool a1_0, .int .u64 a1_1, .int .u64 a1_2], .agg #[.bool a0_0, .int .u64 a0_1, .int .u64 a0_2]] rfl (by (try simp only [List.map_toArray, List.map_cons, List.map_nil]); first | done | rfl | (simp only [List.length_drop, List.length_take]; rfl)) ?_; (with_reducible refine (surtitleref3_above.calls a1_0 a1_1 a1_2 a0_0 a0_1 a0_2 false _ A27.out).mono ?_); rintro e w53 ⟨rfl, hb⟩; refine ⟨_, rfl, ?_⟩; replace BK101 := ab hb BK101; replace BK102 := ab hb BK102; replace BK103 := ab hb BK103; replace HB := hs hb HB; (try clear hb); (try clear hb2); (try clear hk); (try clear hi); obtain ⟨hcz54_0, hcz54_1, hcz54_2, hfz54_0, hfz54_1, hfz54_2⟩ := k3 BK101.out; obtain ⟨hcz55_0, hcz55_1, hcz55_2, hfz55_0, hfz55_1, hfz55_2⟩ := k3 BK102.out) | ((with_reducible refine gate_callee (f := 54) rfl ?_); refine goesL_ (some 64) rfl rfl Tryd.func54 (by kernel_rfl) rfl #[.agg #[.bool a0_0, .int .u64 (IntKind.u64.wrap ((IntKind.u64.wrap (a0_1 - a1_1)) - 1)), .int .u64 (IntKind.u64.wrap (a0_2 - a1_2))]] rfl (by (try simp only [List.map_toArray, List.map_cons, List.map_nil]); first | done | rfl | (simp only [List.length_drop, List.length_take]; rfl)) ?_; (with_reducible refine (surtitleref3_right.calls a0_0 (IntKind.u64.wrap ((IntKind.u64.wrap (a0_1 - a1_1)) - 1)) (IntKind.u64.wrap (a0_2 - a1_2)) t114 t115 t116 _ A44.out).mono ?_); rintro e w56 ⟨rfl, hb⟩; refine ⟨_, rfl, ?_⟩; replace BK101 := ab hb BK101; replace BK102 := ab hb BK102; replace BK103 := ab hb BK103; replace HB := hs hb HB; (try clear hb); (try clear hb2); (try clear hk); (try clear hi); obtain ⟨hcz57_0, hcz57_1, hcz57_2, hfz57_0, hfz57_1, hfz57_2⟩ := k3 BK103.out))
    refine bodyPost_ret (results_cell_row rfl _ _ gb103 74 #[.bool t114, .int .u64 t115, .int .u64 t116] (0, 0) _ rfl (by refine bk ?_; refine blk_put (cs := #[.bool t114, .int .u64 t115, .int .u64 0]) ?_ 2 _ rfl; refine bk ?_; refine blk_put (cs := #[.bool t114, .int .u64 0, .int .u64 0]) ?_ 1 _ rfl; refine bk ?_; refine blk_put (cs := #[.bool false, .int .u64 0, .int .u64 0]) ?_ 0 _ rfl; refine bk ?_; exact BK103.out) Tryd.underlying74 rfl (by kernel_rfl)) rfl ?_
    exact ⟨by first | rfl | (simp [errW_none, errW_some] <;> rfl) | (simp [*, errW_none, errW_some] <;> rfl), by repeat (first | (with_reducible first | exact HB.out | apply below_alloc | apply pw_below_drewN | apply below_drew1 | refine below_set ?_ GE101.out | refine below_set ?_ GE102.out | refine below_set ?_ GE103.out) | exact HB.out)⟩
  rw [if_neg c43] at H
  have c43b0 : decide (a0_2 < a1_2) = false := decide_eq_false c43
  clear c43
  replace H := Option.bind_eq_some_iff.mp H
  obtain ⟨⟨t117, t118, t119⟩, A580, H⟩ := H
  replace H : (some (t117, t118, t119)) = some (r1, r2, r3) := H
  have A58 := Aside0.mk A580
  clear A580
  simp only [Option.some.injEq, Prod.mk.injEq] at H
  obtain ⟨rfl, rfl, rfl⟩ := H
  go_enter Tryd.func63, Tryd.ntmps63
  go_wp2_with (first | ((with_reducible refine gate_dst (N := 2) rfl ?_); refine box_event ?hg (N := 2) ?hd (cs := #[.bool a0_0, .int .u64 a0_1, .int .u64 a0_2]) (t := 74) ?hr ?_; (case hd => rfl); (case hg => rfl); (case hr => first | (go_simp; done) | (go_simp; rfl)); intro gb101 hg w59 hbox hb; have BK101 := Aside0.mk (hbox); have GW101 := ag hg HB; have GE101 := ag hg HB; replace HB := hs hb HB; clear hb hbox hg) | ((with_reducible refine gate_dst (N := 3) rfl ?_); refine box_event ?hg (N := 3) ?hd (cs := #[.bool a1_0, .int .u64 a1_1, .int .u64 a1_2]) (t := 74) ?hr ?_; (case hd => rfl); (case hg => rfl); (case hr => first | (go_simp; done) | (go_simp; rfl)); intro gb102 hg w60 hbox hb; have BK102 := Aside0.mk (hbox); have GW102 := ag hg HB; have GE102 := ag hg HB; have NB101_102 := na hg BK101; have NB102_101 := nb hg BK101; replace BK101 := ab hb BK101; replace HB := hs hb HB; clear hb hbox hg) | ((with_reducible refine gate_dst (N := 4) rfl ?_); refine box_event ?hg (N := 4) ?hd (cs := #[.bool false, .int .u64 0, .int .u64 0]) (t := 74) ?hr ?_; (case hd => rfl); (case hg => rfl); (case hr => first | (go_simp; done) | (go_simp; rfl)); intro gb103 hg w61 hbox hb; have BK103 := Aside0.mk (hbox); have GW103 := ag hg HB; have GE103 := ag hg HB; have NB101_103 := na hg BK101; have NB103_101 := nb hg BK101; have NB102_103 := na hg BK102; have NB103_102 := nb hg BK102; replace BK101 := ab hb BK101; replace BK102 := ab hb BK102; replace HB := hs hb HB; clear hb hbox hg; have hnb62 := NB101_102.out; have hnc62 := NB102_101.out; have hnb63 := NB101_103.out; have hnc63 := NB103_101.out; obtain ⟨hcz64_0, hcz64_1, hcz64_2, hfz64_0, hfz64_1, hfz64_2⟩ := k3 BK101.out; have hnb65 := NB102_103.out; have hnc65 := NB103_102.out; obtain ⟨hcz66_0, hcz66_1, hcz66_2, hfz66_0, hfz66_1, hfz66_2⟩ := k3 BK102.out) | ((with_reducible refine gate_callee (f := 89) rfl ?_); refine goesL_ (some 38) rfl rfl Tryd.func89 (by kernel_rfl) rfl #[.agg #[.bool a1_0, .int .u64 a1_1, .int .u64 a1_2], .agg #[.bool a0_0, .int .u64 a0_1, .int .u64 a0_2]] rfl (by (try simp only [List.map_toArray, List.map_cons, List.map_nil]); first | done | rfl | (simp only [List.length_drop, List.length_take]; rfl)) ?_; (with_reducible refine (surtitleref3_above.calls a1_0 a1_1 a1_2 a0_0 a0_1 a0_2 false _ A27.out).mono ?_); rintro e w67 ⟨rfl, hb⟩; refine ⟨_, rfl, ?_⟩; replace BK101 := ab hb BK101; replace BK102 := ab hb BK102; replace BK103 := ab hb BK103; replace HB := hs hb HB; (try clear hb); (try clear hb2); (try clear hk); (try clear hi); obtain ⟨hcz68_0, hcz68_1, hcz68_2, hfz68_0, hfz68_1, hfz68_2⟩ := k3 BK101.out; obtain ⟨hcz69_0, hcz69_1, hcz69_2, hfz69_0, hfz69_1, hfz69_2⟩ := k3 BK102.out) | ((with_reducible refine gate_callee (f := 54) rfl ?_); refine goesL_ (some 64) rfl rfl Tryd.func54 (by kernel_rfl) rfl #[.agg #[.bool a0_0, .int .u64 (IntKind.u64.wrap (a0_1 - a1_1)), .int .u64 (IntKind.u64.wrap (a0_2 - a1_2))]] rfl (by (try simp only [List.map_toArray, List.map_cons, List.map_nil]); first | done | rfl | (simp only [List.length_drop, List.length_take]; rfl)) ?_; (with_reducible refine (surtitleref3_right.calls a0_0 (IntKind.u64.wrap (a0_1 - a1_1)) (IntKind.u64.wrap (a0_2 - a1_2)) t117 t118 t119 _ A58.out).mono ?_); rintro e w70 ⟨rfl, hb⟩; refine ⟨_, rfl, ?_⟩; replace BK101 := ab hb BK101; replace BK102 := ab hb BK102; replace BK103 := ab hb BK103; replace HB := hs hb HB; (try clear hb); (try clear hb2); (try clear hk); (try clear hi); obtain ⟨hcz71_0, hcz71_1, hcz71_2, hfz71_0, hfz71_1, hfz71_2⟩ := k3 BK103.out))
  refine bodyPost_ret (results_cell_row rfl _ _ gb103 74 #[.bool t117, .int .u64 t118, .int .u64 t119] (0, 0) _ rfl (by refine bk ?_; refine blk_put (cs := #[.bool t117, .int .u64 t118, .int .u64 0]) ?_ 2 _ rfl; refine bk ?_; refine blk_put (cs := #[.bool t117, .int .u64 0, .int .u64 0]) ?_ 1 _ rfl; refine bk ?_; refine blk_put (cs := #[.bool false, .int .u64 0, .int .u64 0]) ?_ 0 _ rfl; refine bk ?_; exact BK103.out) Tryd.underlying74 rfl (by kernel_rfl)) rfl ?_
  exact ⟨by first | rfl | (simp [errW_none, errW_some] <;> rfl) | (simp [*, errW_none, errW_some] <;> rfl), by repeat (first | (with_reducible first | exact HB.out | apply below_alloc | apply pw_below_drewN | apply below_drew1 | refine below_set ?_ GE101.out | refine below_set ?_ GE102.out | refine below_set ?_ GE103.out) | exact HB.out)⟩

end Go.Proofs.YtofndakpenpkbaaDoor.PP
