-- made by wip/pp2.py out of the translation, over contracts of my own
import Derived.Test.YtofndakpenpkbaaDoorProg
import Derived.Below
import Derived.Deep.Draws
import Derived.Deep.AppendLies
import Derived.Maps.AppendAt
import Derived.OwnWalk
import Derived.Laws.BytesArg
import Derived.Laws.MakeOwn
import Derived.Laws.OwnMore
import Derived.Deep.OwnRows
import Derived.Tactics
import Derived.Lib.ConvBytes
import Derived.Laws.Slices
import Derived.WalkKit
import Derived.KernelRfl
import Derived.RowKit3
import Derived.Deep.LoopGhost
import Derived.Deep.QuietTactic
import Derived.BigQuiet
import Derived.WideLaws
import Derived.Deep.DeepCutAuto
import Derived.Deep.CutBlock
import Derived.Deep.RegionHeld3
import Derived.Laws.Rows
import Derived.Lib.AppendStr
import Derived.ArgAppend
import Derived.Laws.IdiomCopy
import Derived.OrdersHeld
import Derived.Laws.BitsLemmas
import Derived.RowKit
import Derived.Test.YtofndakpenpkbaaDoorRatP
import Derived.Test.YtofndakpenpkbaaDoorXW
namespace Go.Proofs.YtofndakpenpkbaaDoor.PW
open Go.Proofs.YtofndakpenpkbaaDoor.PA
open Go.RowKit Go.Proofs.YtofndakpenpkbaaDoorW.PrintWords Go.Proofs.YtofndakpenpkbaaDoorW.PrintLast Go.Proofs.YtofndakpenpkbaaDoorW.PrintMore
set_option linter.unusedVariables false
set_option linter.unusedSimpArgs false



def errW : Option Int → Value
  | none => .nilIface
  | some c => .iface 0 (.int .i64 c)
theorem errW_none : errW none = .nilIface := rfl
theorem errW_some (c : Int) : errW (some c) = .iface 0 (.int .i64 c) := rfl

-- the values' own types
/-! #### struct type 24 -/
structure S24 where
  f0 : Int
  f1 : Int
def z24 : S24 := ⟨(0 : Int), (0 : Int)⟩
def k24 : Kd S24 := Kd.iso (Kd.pair (Kd.int .i64) (Kd.int .i64)) (fun x : S24 => (x.f0, x.f1))
theorem k24_open {w : World} {x : S24} {cs : List Value} (h : k24.K w x cs) : cs = [.int .i64 x.f0, .int .i64 x.f1] := by
  obtain ⟨_, _, rfl, rfl, rfl⟩ := h
  exact rfl
theorem k24_openM {w : World} {base : Nat} {ok : Nat → Prop} {x : S24} {cs : List Value} (h : k24.M w base ok x cs) : cs = [.int .i64 x.f0, .int .i64 x.f1] := by
  obtain ⟨_, _, rfl, rfl, rfl⟩ := h
  exact rfl
theorem k24_mk (w : World) (x : S24)  : k24.K w x [.int .i64 x.f0, .int .i64 x.f1] := ⟨[.int .i64 x.f0], [.int .i64 x.f1], rfl, rfl, rfl⟩
theorem k24_mkM (w : World) (base : Nat) (ok : Nat → Prop) (x : S24)  : k24.M w base ok x [.int .i64 x.f0, .int .i64 x.f1] := ⟨[.int .i64 x.f0], [.int .i64 x.f1], rfl, rfl, rfl⟩
def rd_T24 (xs : List S24) (i : Int) : S24 := xs.getD i.toNat z24
theorem at_T24 {w : World} {A : Option Addr} {n : Nat} {xs : List S24} (h : Kd.C k24 w A n xs) (i : Int) (h0 : 0 ≤ i) (h1 : i < n) : ∃ ad , A = some ad ∧ w.cell? (ad.add (i.toNat * 2)) = some (.int .i64 (rd_T24 xs i).f0) ∧ w.cell? ⟨(ad.add (i.toNat * 2)).block, (ad.add (i.toNat * 2)).off + 1, none⟩ = some (.int .i64 (rd_T24 xs i).f1) := by
  obtain ⟨ad, c, e, _, hK, hc0⟩ := Kd.C_get h z24 i h0 h1
  have hc : ∀ j u, c[j]? = some u → w.cell? (ad.add (i.toNat * 2 + j)) = some u := hc0
  obtain rfl := k24_open hK
  exact ⟨ad, e, hc 0 _ rfl, by rw [← add_field _ _ 1 (by omega)]; exact hc 1 _ rfl⟩

/-! #### struct type 67 -/
structure S67 where
  f0 : Int
  f1 : Int
def z67 : S67 := ⟨(0 : Int), (0 : Int)⟩
def k67 : Kd S67 := Kd.iso (Kd.pair (Kd.int .u64) (Kd.int .u64)) (fun x : S67 => (x.f0, x.f1))
theorem k67_open {w : World} {x : S67} {cs : List Value} (h : k67.K w x cs) : cs = [.int .u64 x.f0, .int .u64 x.f1] := by
  obtain ⟨_, _, rfl, rfl, rfl⟩ := h
  exact rfl
theorem k67_openM {w : World} {base : Nat} {ok : Nat → Prop} {x : S67} {cs : List Value} (h : k67.M w base ok x cs) : cs = [.int .u64 x.f0, .int .u64 x.f1] := by
  obtain ⟨_, _, rfl, rfl, rfl⟩ := h
  exact rfl
theorem k67_mk (w : World) (x : S67)  : k67.K w x [.int .u64 x.f0, .int .u64 x.f1] := ⟨[.int .u64 x.f0], [.int .u64 x.f1], rfl, rfl, rfl⟩
theorem k67_mkM (w : World) (base : Nat) (ok : Nat → Prop) (x : S67)  : k67.M w base ok x [.int .u64 x.f0, .int .u64 x.f1] := ⟨[.int .u64 x.f0], [.int .u64 x.f1], rfl, rfl, rfl⟩
def rd_T67 (xs : List S67) (i : Int) : S67 := xs.getD i.toNat z67
theorem at_T67 {w : World} {A : Option Addr} {n : Nat} {xs : List S67} (h : Kd.C k67 w A n xs) (i : Int) (h0 : 0 ≤ i) (h1 : i < n) : ∃ ad , A = some ad ∧ w.cell? (ad.add (i.toNat * 2)) = some (.int .u64 (rd_T67 xs i).f0) ∧ w.cell? ⟨(ad.add (i.toNat * 2)).block, (ad.add (i.toNat * 2)).off + 1, none⟩ = some (.int .u64 (rd_T67 xs i).f1) := by
  obtain ⟨ad, c, e, _, hK, hc0⟩ := Kd.C_get h z67 i h0 h1
  have hc : ∀ j u, c[j]? = some u → w.cell? (ad.add (i.toNat * 2 + j)) = some u := hc0
  obtain rfl := k67_open hK
  exact ⟨ad, e, hc 0 _ rfl, by rw [← add_field _ _ 1 (by omega)]; exact hc 1 _ rfl⟩

end Go.Proofs.YtofndakpenpkbaaDoor.PW

namespace Go.Proofs.YtofndakpenpkbaaDoor.PW
open Go.Proofs.YtofndakpenpkbaaDoor.PA
open Go.RowKit Go.Proofs.YtofndakpenpkbaaDoorW.PrintWords Go.Proofs.YtofndakpenpkbaaDoorW.PrintLast Go.Proofs.YtofndakpenpkbaaDoorW.PrintMore
set_option linter.unusedVariables false
set_option linter.unusedSimpArgs false

theorem eqA67 (d : Nat) (w : World) (x0 y0 : Int) (x1 y1 : Int) :
    (Op.equalIn (d + 2) 67 (.agg #[.int .u64 x0, .int .u64 x1]) (.agg #[.int .u64 y0, .int .u64 y1])).run Tryd.prog w = .ok (x0 == y0 && (x1 == y1)) w := by
  refine eqA_of Tryd.underlying67 (by kernel_rfl) ?_
  refine eqf_cons (by rfl) (by go_simp; rfl) (by go_simp; rfl) (by go_simp) ?_
  exact eqf_last (by rfl) (by go_simp; rfl) (by go_simp; rfl) (by go_simp)
end Go.Proofs.YtofndakpenpkbaaDoor.PW

namespace Go.Proofs.YtofndakpenpkbaaDoor.PW
open Go.Proofs.YtofndakpenpkbaaDoor.PA
open Go.RowKit Go.Proofs.YtofndakpenpkbaaDoorW.PrintWords Go.Proofs.YtofndakpenpkbaaDoorW.PrintLast Go.Proofs.YtofndakpenpkbaaDoorW.PrintMore
set_option linter.unusedVariables false
set_option linter.unusedSimpArgs false

attribute [local go_sem high] eqA67
/-! ### ratio_Right: function 19: told elsewhere -/

/-! ### ratio_small: function 49: told elsewhere -/

/-! ### ratio_size: function 50: told elsewhere -/

/-! ### ratio_mul: function 58: told elsewhere -/

/-! ### ratio_wide_cmp: function 60: told elsewhere -/

/-! ### ratio_wide_plus: function 59: told elsewhere -/

/-! ### ratio_wide_over: function 84: told elsewhere -/

/-! ### ratio_frac_floor: function 90 -/
def ratio_frac_floor.j0 : Nat → Bool → Bool → Int → Int → Int → Int → Int → Int → Option (Int × Int × Bool)
  | 0, _, _, _, _, _, _, _, _ => none
  | k + 1, x20, x102000, x102001, x102002, x102003, x102004, x108000, x108001 => if x20 = true then ((ratio_small.f 1).bind fun bt109 => ((ratio_wide_plus.f x108000 x108001 bt109.1 bt109.2).bind fun bt111 => (some (bt111.1, bt111.2, x102000)))) else (some (x108000, x108001, x102000))
def ratio_frac_floor.f (k : Nat) (a0_0 : Bool) (a0_1 : Int) (a0_2 : Int) (a0_3 : Int) (a0_4 : Int) : Option (Int × Int × Bool) := (ratio_wide_over.f a0_1 a0_2 a0_3 a0_4).bind fun bt103 => (if a0_0 = true then (ratio_frac_floor.j0 k (!(bt103.2.2.1 == 0) || (!(bt103.2.2.2 == 0))) a0_0 a0_1 a0_2 a0_3 a0_4 bt103.1 bt103.2.1) else (ratio_frac_floor.j0 k false a0_0 a0_1 a0_2 a0_3 a0_4 bt103.1 bt103.2.1))
set_option maxHeartbeats 8000000 in
set_option maxRecDepth 100000 in
theorem ratio_frac_floor.calls (k : Nat) (a0_0 : Bool) (a0_1 : Int) (a0_2 : Int) (a0_3 : Int) (a0_4 : Int) (r1 : Int) (r2 : Int) (r3 : Bool) (w : World) (h : ratio_frac_floor.f k a0_0 a0_1 a0_2 a0_3 a0_4 = some (r1, r2, r3)) :
    Calls Tryd.prog 90 #[.agg #[.bool a0_0, .int .u64 a0_1, .int .u64 a0_2, .int .u64 a0_3, .int .u64 a0_4]] w fun e w' => e = .returned (.tuple #[.agg #[.int .u64 r1, .int .u64 r2], .bool r3]) ∧ Below w.heap.size w w' := by
  have hu71 := Tryd.underlying71
  have hu67 := Tryd.underlying67
  have HB := Aside0.mk (Below.refl w.heap.size w)
  have H : ((ratio_wide_over.f a0_1 a0_2 a0_3 a0_4).bind fun bt103 => (if a0_0 = true then (ratio_frac_floor.j0 k (!(bt103.2.2.1 == 0) || (!(bt103.2.2.2 == 0))) a0_0 a0_1 a0_2 a0_3 a0_4 bt103.1 bt103.2.1) else (ratio_frac_floor.j0 k false a0_0 a0_1 a0_2 a0_3 a0_4 bt103.1 bt103.2.1))) = some (r1, r2, r3) := h
  clear h
  replace H := Option.bind_eq_some_iff.mp H
  obtain ⟨⟨t103, t104, t105, t106⟩, A20, H⟩ := H
  replace H : (if a0_0 = true then (ratio_frac_floor.j0 k (!(t105 == 0) || (!(t106 == 0))) a0_0 a0_1 a0_2 a0_3 a0_4 t103 t104) else (ratio_frac_floor.j0 k false a0_0 a0_1 a0_2 a0_3 a0_4 t103 t104)) = some (r1, r2, r3) := H
  have A2 := Aside0.mk A20
  clear A20
  have HC3 := Aside0.mk H
  clear H
  go_enter Tryd.func90, Tryd.ntmps90
  go_upto_region 2 with (first | ((with_reducible refine gate_dst (N := 1) rfl ?_); refine box_event ?hg (N := 1) ?hd (cs := #[.bool a0_0, .int .u64 a0_1, .int .u64 a0_2, .int .u64 a0_3, .int .u64 a0_4]) (t := 71) ?hr ?_; (case hd => rfl); (case hg => rfl); (case hr => first | (go_simp; done) | (go_simp; rfl)); intro gb101 hg w4 hbox hb; have BK101 := Aside0.mk (hbox); have GW101 := ag hg HB; have GE101 := ag hg HB; replace HB := hs hb HB; clear hb hbox hg) | ((with_reducible refine gate_dst (N := 2) rfl ?_); refine box_event ?hg (N := 2) ?hd (cs := #[.int .u64 0, .int .u64 0]) (t := 67) ?hr ?_; (case hd => rfl); (case hg => rfl); (case hr => first | (go_simp; done) | (go_simp; rfl)); intro gb102 hg w5 hbox hb; have BK102 := Aside0.mk (hbox); have GW102 := ag hg HB; have GE102 := ag hg HB; have NB101_102 := na hg BK101; have NB102_101 := nb hg BK101; replace BK101 := ab hb BK101; replace HB := hs hb HB; clear hb hbox hg; have hnb6 := NB101_102.out; have hnc6 := NB102_101.out; obtain ⟨hcz7_0, hcz7_1, hcz7_2, hcz7_3, hcz7_4, hfz7_0, hfz7_1, hfz7_2, hfz7_3, hfz7_4⟩ := k5 BK101.out) | ((with_reducible refine gate_callee (f := 84) rfl ?_); refine goesL_ (some 11) rfl rfl Tryd.func84 (by kernel_rfl) rfl #[.agg #[.int .u64 a0_1, .int .u64 a0_2], .agg #[.int .u64 a0_3, .int .u64 a0_4]] rfl (by (try simp only [List.map_toArray, List.map_cons, List.map_nil]); first | done | rfl | (simp only [List.length_drop, List.length_take]; rfl)) ?_; (with_reducible refine (ratio_wide_over.calls a0_1 a0_2 a0_3 a0_4 t103 t104 t105 t106 _ A2.out).mono ?_); rintro e w8 ⟨rfl, hb⟩; refine ⟨_, rfl, ?_⟩; replace BK101 := ab hb BK101; replace BK102 := ab hb BK102; replace HB := hs hb HB; (try clear hb); (try clear hb2); (try clear hk); (try clear hi)) | ((with_reducible refine gate_dst (N := 4) rfl ?_); refine box_event ?hg (N := 4) ?hd (cs := #[.int .u64 0, .int .u64 0]) (t := 67) ?hr ?_; (case hd => rfl); (case hg => rfl); (case hr => first | (go_simp; done) | (go_simp; rfl)); intro gb107 hg w9 hbox hb; have BK107 := Aside0.mk (hbox); have GW107 := ag hg HB; have GE107 := ag hg HB; have NB101_107 := na hg BK101; have NB107_101 := nb hg BK101; have NB102_107 := na hg BK102; have NB107_102 := nb hg BK102; replace BK101 := ab hb BK101; replace BK102 := ab hb BK102; replace HB := hs hb HB; clear hb hbox hg) | ((with_reducible refine gate_dst (N := 5) rfl ?_); refine box_event ?hg (N := 5) ?hd (cs := #[.int .u64 0, .int .u64 0]) (t := 67) ?hr ?_; (case hd => rfl); (case hg => rfl); (case hr => first | (go_simp; done) | (go_simp; rfl)); intro gb108 hg w10 hbox hb; have BK108 := Aside0.mk (hbox); have GW108 := ag hg HB; have GE108 := ag hg HB; have NB101_108 := na hg BK101; have NB108_101 := nb hg BK101; have NB102_108 := na hg BK102; have NB108_102 := nb hg BK102; have NB107_108 := na hg BK107; have NB108_107 := nb hg BK107; replace BK101 := ab hb BK101; replace BK102 := ab hb BK102; replace BK107 := ab hb BK107; replace HB := hs hb HB; clear hb hbox hg; have hnb11 := NB107_101.out; have hnc11 := NB101_107.out; have hnb12 := NB107_102.out; have hnc12 := NB102_107.out; have hnb13 := NB107_108.out; have hnc13 := NB108_107.out; obtain ⟨hcz14_0, hcz14_1, hfz14_0, hfz14_1⟩ := k2 BK107.out; have hnb15 := NB108_101.out; have hnc15 := NB101_108.out; have hnb16 := NB108_102.out; have hnc16 := NB102_108.out; obtain ⟨hcz17_0, hcz17_1, hfz17_0, hfz17_1⟩ := k2 BK108.out))
  (try simp only [Act.put, List.setIfInBounds_toArray, List.set_cons_zero, List.set_cons_succ])
  go_cut [20] (fun v20 wc => ∃ (kq : Nat) (x20_2 : Bool), v20 = .bool x20_2 ∧ Aside0 (ratio_frac_floor.j0 kq x20_2 a0_0 a0_1 a0_2 a0_3 a0_4 t103 t104 = some (r1, r2, r3)) ∧ Aside0 (kq ≤ k) ∧ Aside0 (wc.heap[gb101]? = some (.cells #[.bool a0_0, .int .u64 a0_1, .int .u64 a0_2, .int .u64 a0_3, .int .u64 a0_4] 71 (0, 0))) ∧ Aside0 (wc.heap[gb102]? = some (.cells #[.int .u64 0, .int .u64 0] 67 (0, 0))) ∧ Aside0 (wc.heap[gb107]? = some (.cells #[.int .u64 t103, .int .u64 t104] 67 (0, 0))) ∧ Aside0 (wc.heap[gb108]? = some (.cells #[.int .u64 t105, .int .u64 t106] 67 (0, 0))) ∧ Aside0 (Below w.heap.size w wc))
  case first =>
    have H := HC3.out
    clear HC3
    by_cases c18 : a0_0 = true
    · subst c18
      have H1 : (ratio_frac_floor.j0 k (!(t105 == 0) || (!(t106 == 0))) true a0_1 a0_2 a0_3 a0_4 t103 t104) = some (r1, r2, r3) := by rw [if_pos rfl] at H; exact H
      clear H
      have H := H1
      clear H1
      have H' := Aside0.mk H
      clear H
      have hnb19 := NB101_102.out
      have hnc19 := NB102_101.out
      have hnb20 := NB101_107.out
      have hnc20 := NB107_101.out
      have hnb21 := NB101_108.out
      have hnc21 := NB108_101.out
      obtain ⟨hcz22_0, hcz22_1, hcz22_2, hcz22_3, hcz22_4, hfz22_0, hfz22_1, hfz22_2, hfz22_3, hfz22_4⟩ := k5 BK101.out
      have hnb23 := NB108_102.out
      have hnc23 := NB102_108.out
      have hnb24 := NB108_107.out
      have hnc24 := NB107_108.out
      obtain ⟨hcz25_0, hcz25_1, hfz25_0, hfz25_1⟩ := k2 BK108.out
      go_wp2
      go_meet
      case rel => exact ⟨_, ((!(t105 == 0) || (!(t106 == 0)))), (by first | rfl | (simp; done) | (simp [*]; done)), H', ⟨by first | omega | exact Nat.le_refl _⟩, ⟨by refine bk ?_; exact BK101.out⟩, ⟨by refine bk ?_; exact BK102.out⟩, ⟨by refine bk ?_; refine blk_put (cs := #[.int .u64 t103, .int .u64 0]) ?_ 1 _ rfl; refine bk ?_; refine blk_put (cs := #[.int .u64 0, .int .u64 0]) ?_ 0 _ rfl; refine bk ?_; exact BK107.out⟩, ⟨by refine bk ?_; refine blk_put (cs := #[.int .u64 t105, .int .u64 0]) ?_ 1 _ rfl; refine bk ?_; refine blk_put (cs := #[.int .u64 0, .int .u64 0]) ?_ 0 _ rfl; refine bk ?_; exact BK108.out⟩, ⟨by repeat (first | (with_reducible first | exact HB.out | apply below_alloc | apply pw_below_drewN | apply below_drew1 | refine below_set ?_ GE101.out | refine below_set ?_ GE102.out | refine below_set ?_ GE107.out | refine below_set ?_ GE108.out) | exact HB.out)⟩⟩
    replace c18 := Bool.eq_false_iff.mpr c18
    subst c18
    have H1 : (ratio_frac_floor.j0 k false false a0_1 a0_2 a0_3 a0_4 t103 t104) = some (r1, r2, r3) := by rw [if_neg (show ¬ (false = true) by decide)] at H; exact H
    clear H
    have H := H1
    clear H1
    have H' := Aside0.mk H
    clear H
    have hnb26 := NB101_102.out
    have hnc26 := NB102_101.out
    have hnb27 := NB101_107.out
    have hnc27 := NB107_101.out
    have hnb28 := NB101_108.out
    have hnc28 := NB108_101.out
    obtain ⟨hcz29_0, hcz29_1, hcz29_2, hcz29_3, hcz29_4, hfz29_0, hfz29_1, hfz29_2, hfz29_3, hfz29_4⟩ := k5 BK101.out
    go_wp2
    go_meet
    case rel => exact ⟨_, (false), (by first | rfl | (simp; done) | (simp [*]; done)), H', ⟨by first | omega | exact Nat.le_refl _⟩, ⟨by refine bk ?_; exact BK101.out⟩, ⟨by refine bk ?_; exact BK102.out⟩, ⟨by refine bk ?_; refine blk_put (cs := #[.int .u64 t103, .int .u64 0]) ?_ 1 _ rfl; refine bk ?_; refine blk_put (cs := #[.int .u64 0, .int .u64 0]) ?_ 0 _ rfl; refine bk ?_; exact BK107.out⟩, ⟨by refine bk ?_; refine blk_put (cs := #[.int .u64 t105, .int .u64 0]) ?_ 1 _ rfl; refine bk ?_; refine blk_put (cs := #[.int .u64 0, .int .u64 0]) ?_ 0 _ rfl; refine bk ?_; exact BK108.out⟩, ⟨by repeat (first | (with_reducible first | exact HB.out | apply below_alloc | apply pw_below_drewN | apply below_drew1 | refine below_set ?_ GE101.out | refine below_set ?_ GE102.out | refine below_set ?_ GE107.out | refine below_set ?_ GE108.out) | exact HB.out)⟩⟩
  clear HC3
  try clear hcz14_0
  try clear hcz14_1
  try clear hcz17_0
  try clear hcz17_1
  try clear hcz7_0
  try clear hcz7_1
  try clear hcz7_2
  try clear hcz7_3
  try clear hcz7_4
  try clear hfz14_0
  try clear hfz14_1
  try clear hfz17_0
  try clear hfz17_1
  try clear hfz7_0
  try clear hfz7_1
  try clear hfz7_2
  try clear hfz7_3
  try clear hfz7_4
  obtain ⟨kq, x20_2, rfl, HA, HJ2, BK101, BK102, BK107, BK108, HB⟩ := hcut
  obtain _ | kj2 := kq
  · exact absurd HA.out (by simp [ratio_frac_floor.j0])
  have H := HA.out
  clear HA
  simp only [ratio_frac_floor.j0] at H
  by_cases c30 : x20_2 = true
  · subst c30
    have H1 : ((ratio_small.f 1).bind fun bt109 => ((ratio_wide_plus.f t103 t104 bt109.1 bt109.2).bind fun bt111 => (some (bt111.1, bt111.2, a0_0)))) = some (r1, r2, r3) := by rw [if_pos rfl] at H; exact H
    clear H
    have H := H1
    clear H1
    replace H := Option.bind_eq_some_iff.mp H
    obtain ⟨⟨t109, t110⟩, A310, H⟩ := H
    replace H : ((ratio_wide_plus.f t103 t104 t109 t110).bind fun bt111 => (some (bt111.1, bt111.2, a0_0))) = some (r1, r2, r3) := H
    have A31 := Aside0.mk A310
    clear A310
    replace H := Option.bind_eq_some_iff.mp H
    obtain ⟨⟨t111, t112⟩, A320, H⟩ := H
    replace H : (some (t111, t112, a0_0)) = some (r1, r2, r3) := H
    have A32 := Aside0.mk A320
    clear A320
    simp only [Option.some.injEq, Prod.mk.injEq] at H
    obtain ⟨rfl, rfl, rfl⟩ := H
    try go_wp2
    have n0_ := Aside0.mk (blk_drew BK101.out)
    have n1_ := Aside0.mk (blk_drew BK102.out)
    have n2_ := Aside0.mk (blk_drew BK107.out)
    have n3_ := Aside0.mk (blk_drew BK108.out)
    have n4_ := Aside0.mk (below_drew1 HB.out)
    clear BK101
    clear BK102
    clear BK107
    clear BK108
    clear HB
    have BK101 := n0_
    have BK102 := n1_
    have BK107 := n2_
    have BK108 := n3_
    have HB := n4_
    clear n0_ n1_ n2_ n3_ n4_
    refine start_ (n := 4) (S := fun w' => w'.cell? ⟨gb107, 0, none⟩ = some (.int .u64 t103) ∧ w'.cell? ⟨gb107, 1, none⟩ = some (.int .u64 t104)) (ds := [3]) #[false, false, false, false] (by kernel_rfl) rfl rfl ⟨c0 BK107.out, c1 BK107.out⟩ (fun hHeld => ?_)
    generalize wc.drew = w33 at BK101 BK102 BK107 BK108 HB hHeld ⊢
    refine take_ (i := 0) (N := some 21) (v := ?_) (a' := ?_) #[true, false, false, false] rfl rfl (by kernel_rfl) (fun _ _ _ h => h) (Or.inl ⟨by rfl, ?_⟩) hHeld ?_ ?_
    rotate_left
    · rintro w' ⟨s0, s1⟩
      go_simp
      with_reducible rfl
    rotate_left
    · simp only [Act.put, List.setIfInBounds_toArray, List.set_cons_zero, List.set_cons_succ, i64_w, i32_w]
      rfl
    refine one_ (i := 1) (N := some 22) #[true, true, false, false] rfl rfl (by kernel_rfl) (by decide) (fun K hK => ?_)
    refine goes_ Tryd.func49 (by kernel_rfl) rfl #[.int .u64 1] (by rfl) rfl rfl (by (try simp only [List.map_toArray, List.map_cons, List.map_nil]); first | done | rfl | (simp only [List.length_drop, List.length_take]; rfl)) ?_
    with_reducible refine (ratio_small.calls 1 t109 t110 _ A31.out).mono ?_
    rintro e w34 ⟨rfl, hb⟩
    refine ⟨_, rfl, ?_⟩
    have n0_ := ab hb BK101
    have n1_ := ab hb BK102
    have n2_ := ab hb BK107
    have n3_ := ab hb BK108
    have n4_ := hs hb HB
    clear BK101
    clear BK102
    clear BK107
    clear BK108
    clear HB
    have BK101 := n0_
    have BK102 := n1_
    have BK107 := n2_
    have BK108 := n3_
    have HB := n4_
    clear n0_ n1_ n2_ n3_ n4_
    (try clear hb)
    (try clear hb2)
    (try clear hk)
    (try clear hi)
    refine hK.out _ _ ⟨c0 BK107.out, c1 BK107.out⟩ (fun hHeld => ?_)
    clear hK K
    refine norm_ (a' := ?_) ?_ ?_
    rotate_left
    · show Act.put _ (some 22) _ = _
      simp only [Act.put, List.setIfInBounds_toArray, List.set_cons_zero, List.set_cons_succ, i64_w, i32_w]
      rfl
    refine one_ (i := 2) (N := some 23) #[true, true, true, false] rfl rfl (by kernel_rfl) (by decide) (fun K hK => ?_)
    refine goes_ Tryd.func59 (by kernel_rfl) rfl #[.agg #[.int .u64 t103, .int .u64 t104], .agg #[.int .u64 t109, .int .u64 t110]] (by rfl) rfl rfl (by (try simp only [List.map_toArray, List.map_cons, List.map_nil]); first | done | rfl | (simp only [List.length_drop, List.length_take]; rfl)) ?_
    with_reducible refine (ratio_wide_plus.calls t103 t104 t109 t110 t111 t112 _ A32.out).mono ?_
    rintro e w35 ⟨rfl, hb⟩
    refine ⟨_, rfl, ?_⟩
    have n0_ := ab hb BK101
    have n1_ := ab hb BK102
    have n2_ := ab hb BK107
    have n3_ := ab hb BK108
    have n4_ := hs hb HB
    clear BK101
    clear BK102
    clear BK107
    clear BK108
    clear HB
    have BK101 := n0_
    have BK102 := n1_
    have BK107 := n2_
    have BK108 := n3_
    have HB := n4_
    clear n0_ n1_ n2_ n3_ n4_
    (try clear hb)
    (try clear hb2)
    (try clear hk)
    (try clear hi)
    refine hK.out _ _ ⟨c0 BK107.out, c1 BK107.out⟩ (fun hHeld => ?_)
    clear hK K
    refine norm_ (a' := ?_) ?_ ?_
    rotate_left
    · show Act.put _ (some 23) _ = _
      simp only [Act.put, List.setIfInBounds_toArray, List.set_cons_zero, List.set_cons_succ, i64_w, i32_w]
      rfl
    refine last_ (i := 3) (N := none) #[true, true, true, true] rfl rfl (by kernel_rfl) (by decide) (fun K hK => ?_)
    have hs36 : w35.cell? ⟨gb107, 0, none⟩ = some (.int .u64 t103) := c0 BK107.out
    have hfs36 := blk_frozen BK107.out 0
    have hns36_0 := NB101_107.out
    have hns36_1 := NB102_107.out
    have hns36_3 := NB108_107.out
    have hms36_0 := NB107_101.out
    have hms36_1 := NB107_102.out
    have hms36_3 := NB107_108.out
    have hs37 : w35.cell? ⟨gb107, 1, none⟩ = some (.int .u64 t104) := c1 BK107.out
    have hfs37 := blk_frozen BK107.out 1
    have hns37_0 := NB101_107.out
    have hns37_1 := NB102_107.out
    have hns37_3 := NB108_107.out
    have hms37_0 := NB107_101.out
    have hms37_1 := NB107_102.out
    have hms37_3 := NB107_108.out
    refine skip_ (w1 := ?_) (by rfl) rfl ?_ ?_
    rotate_left
    · go_simp
      rfl
    refine hK.out _ _ ?_
    clear hK K
    refine done_ (by kernel_rfl) ?_
    try go_wp2
    have n0_ : Aside0 (((w35.setCell ⟨gb107, 0, none⟩ (.int .u64 t111)).setCell ⟨gb107, 1, none⟩ (.int .u64 t112)).heap[gb101]? = some (.cells #[.bool a0_0, .int .u64 a0_1, .int .u64 a0_2, .int .u64 a0_3, .int .u64 a0_4] 71 (0, 0))) := ⟨by refine bk ?_; exact BK101.out⟩
    have n1_ : Aside0 (((w35.setCell ⟨gb107, 0, none⟩ (.int .u64 t111)).setCell ⟨gb107, 1, none⟩ (.int .u64 t112)).heap[gb102]? = some (.cells #[.int .u64 0, .int .u64 0] 67 (0, 0))) := ⟨by refine bk ?_; exact BK102.out⟩
    have n2_ : Aside0 (((w35.setCell ⟨gb107, 0, none⟩ (.int .u64 t111)).setCell ⟨gb107, 1, none⟩ (.int .u64 t112)).heap[gb107]? = some (.cells #[.int .u64 t111, .int .u64 t112] 67 (0, 0))) := ⟨by refine bk ?_; refine blk_put (cs := #[.int .u64 t111, .int .u64 t104]) ?_ 1 _ rfl; refine bk ?_; refine blk_put (cs := #[.int .u64 t103, .int .u64 t104]) ?_ 0 _ rfl; refine bk ?_; exact BK107.out⟩
    have n3_ : Aside0 (((w35.setCell ⟨gb107, 0, none⟩ (.int .u64 t111)).setCell ⟨gb107, 1, none⟩ (.int .u64 t112)).heap[gb108]? = some (.cells #[.int .u64 t105, .int .u64 t106] 67 (0, 0))) := ⟨by refine bk ?_; exact BK108.out⟩
    have n4_ : Aside0 (Below w.heap.size w ((w35.setCell ⟨gb107, 0, none⟩ (.int .u64 t111)).setCell ⟨gb107, 1, none⟩ (.int .u64 t112))) := ⟨by repeat (first | (with_reducible first | exact HB.out | apply below_alloc | apply pw_below_drewN | apply below_drew1 | refine below_set ?_ GE101.out | refine below_set ?_ GE102.out | refine below_set ?_ GE107.out | refine below_set ?_ GE108.out) | exact HB.out)⟩
    (try clear BK101)
    (try clear BK102)
    (try clear BK107)
    (try clear BK108)
    (try clear HB)
    generalize ((w35.setCell ⟨gb107, 0, none⟩ (.int .u64 t111)).setCell ⟨gb107, 1, none⟩ (.int .u64 t112)) = w38 at n0_ n1_ n2_ n3_ n4_ ⊢
    have BK101 := n0_
    have BK102 := n1_
    have BK107 := n2_
    have BK108 := n3_
    have HB := n4_
    clear n0_ n1_ n2_ n3_ n4_
    have n0_ := Aside0.mk (blk_drew BK101.out)
    have n1_ := Aside0.mk (blk_drew BK102.out)
    have n2_ := Aside0.mk (blk_drew BK107.out)
    have n3_ := Aside0.mk (blk_drew BK108.out)
    have n4_ := Aside0.mk (below_drew1 HB.out)
    clear BK101
    clear BK102
    clear BK107
    clear BK108
    clear HB
    have BK101 := n0_
    have BK102 := n1_
    have BK107 := n2_
    have BK108 := n3_
    have HB := n4_
    clear n0_ n1_ n2_ n3_ n4_
    refine start_ (n := 5) (S := fun w' => w'.cell? ⟨gb107, 0, none⟩ = some (.int .u64 t111) ∧ w'.cell? ⟨gb107, 1, none⟩ = some (.int .u64 t112) ∧ w'.cell? ⟨gb101, 0, none⟩ = some (.bool a0_0) ∧ w'.cell? ⟨gb101, 1, none⟩ = some (.int .u64 a0_1) ∧ w'.cell? ⟨gb101, 2, none⟩ = some (.int .u64 a0_2) ∧ w'.cell? ⟨gb101, 3, none⟩ = some (.int .u64 a0_3) ∧ w'.cell? ⟨gb101, 4, none⟩ = some (.int .u64 a0_4)) (ds := []) #[false, false, false, false, false] (by kernel_rfl) rfl rfl ⟨c0 BK107.out, c1 BK107.out, c0 BK101.out, c1 BK101.out, c2 BK101.out, c3 BK101.out, c4 BK101.out⟩ (fun hHeld => ?_)
    generalize w38.drew = w39 at BK101 BK102 BK107 BK108 HB hHeld ⊢
    refine pure_ (i := 1) (N := some 25) (v := ?_) (a' := ?_) #[false, true, false, false, false] rfl rfl (by kernel_rfl) (fun _ _ _ h => h) (Or.inl ⟨by rfl, ?_⟩) ?_ ?_
    rotate_left
    · intro w'
      go_simp
      with_reducible rfl
    rotate_left
    · simp only [Act.put, List.setIfInBounds_toArray, List.set_cons_zero, List.set_cons_succ, i64_w, i32_w]
      rfl
    refine take_ (i := 0) (N := some 24) (v := ?_) (a' := ?_) #[true, true, false, false, false] rfl rfl (by kernel_rfl) (fun _ _ _ h => h) (Or.inl ⟨by rfl, ?_⟩) hHeld ?_ ?_
    rotate_left
    · rintro w' ⟨s0, s1, s2, s3, s4, s5, s6⟩
      go_simp
      with_reducible rfl
    rotate_left
    · simp only [Act.put, List.setIfInBounds_toArray, List.set_cons_zero, List.set_cons_succ, i64_w, i32_w]
      rfl
    refine take_ (i := 2) (N := some 26) (v := ?_) (a' := ?_) #[true, true, true, false, false] rfl rfl (by kernel_rfl) (fun _ _ _ h => h) (Or.inl ⟨by rfl, ?_⟩) hHeld ?_ ?_
    rotate_left
    · rintro w' ⟨s0, s1, s2, s3, s4, s5, s6⟩
      go_simp
      with_reducible rfl
    rotate_left
    · simp only [Act.put, List.setIfInBounds_toArray, List.set_cons_zero, List.set_cons_succ, i64_w, i32_w]
      rfl
    refine one_ (i := 3) (N := none) #[true, true, true, true, false] rfl rfl (by kernel_rfl) (by decide) (fun K hK => ?_)
    have hs40 : w39.cell? ⟨gb102, 0, none⟩ = some (.int .u64 0) := c0 BK102.out
    have hfs40 := blk_frozen BK102.out 0
    have hns40_0 := NB101_102.out
    have hns40_2 := NB107_102.out
    have hns40_3 := NB108_102.out
    have hms40_0 := NB102_101.out
    have hms40_2 := NB102_107.out
    have hms40_3 := NB102_108.out
    have hs41 : w39.cell? ⟨gb102, 1, none⟩ = some (.int .u64 0) := c1 BK102.out
    have hfs41 := blk_frozen BK102.out 1
    have hns41_0 := NB101_102.out
    have hns41_2 := NB107_102.out
    have hns41_3 := NB108_102.out
    have hms41_0 := NB102_101.out
    have hms41_2 := NB102_107.out
    have hms41_3 := NB102_108.out
    refine skip_ (w1 := ?_) (by rfl) rfl ?_ ?_
    rotate_left
    · go_simp
      rfl
    refine hK.out _ _ ⟨((cell_far (p := ⟨gb102, _, none⟩) NB107_102.out _).trans (((cell_far (p := ⟨gb102, _, none⟩) NB107_102.out _).trans (hHeld.1)))), ((cell_far (p := ⟨gb102, _, none⟩) NB107_102.out _).trans (((cell_far (p := ⟨gb102, _, none⟩) NB107_102.out _).trans (hHeld.2.1)))), ((cell_far (p := ⟨gb102, _, none⟩) NB101_102.out _).trans (((cell_far (p := ⟨gb102, _, none⟩) NB101_102.out _).trans (hHeld.2.2.1)))), ((cell_far (p := ⟨gb102, _, none⟩) NB101_102.out _).trans (((cell_far (p := ⟨gb102, _, none⟩) NB101_102.out _).trans (hHeld.2.2.2.1)))), ((cell_far (p := ⟨gb102, _, none⟩) NB101_102.out _).trans (((cell_far (p := ⟨gb102, _, none⟩) NB101_102.out _).trans (hHeld.2.2.2.2.1)))), ((cell_far (p := ⟨gb102, _, none⟩) NB101_102.out _).trans (((cell_far (p := ⟨gb102, _, none⟩) NB101_102.out _).trans (hHeld.2.2.2.2.2.1)))), ((cell_far (p := ⟨gb102, _, none⟩) NB101_102.out _).trans (((cell_far (p := ⟨gb102, _, none⟩) NB101_102.out _).trans (hHeld.2.2.2.2.2.2))))⟩ (fun hHeld => ?_)
    clear hK K
    refine pure_ (i := 4) (N := some 3) (v := ?_) (a' := ?_) #[true, true, true, true, true] rfl rfl (by kernel_rfl) (fun _ _ _ h => h) (Or.inl ⟨by rfl, ?_⟩) ?_ ?_
    rotate_left
    · intro w'
      go_simp
      with_reducible rfl
    rotate_left
    · simp only [Act.put, List.setIfInBounds_toArray, List.set_cons_zero, List.set_cons_succ, i64_w, i32_w]
      rfl
    refine done_ (by kernel_rfl) ?_
    try go_wp2
    refine bodyPost_ret (results_ct rfl _ _ gb102 67 #[.int .u64 t111, .int .u64 t112] (0, 0) _ rfl (by refine bk ?_; refine blk_put (cs := #[.int .u64 t111, .int .u64 0]) ?_ 1 _ rfl; refine bk ?_; refine blk_put (cs := #[.int .u64 0, .int .u64 0]) ?_ 0 _ rfl; refine bk ?_; exact BK102.out) Tryd.underlying67 rfl (by kernel_rfl)) rfl ?_
    exact ⟨by first | rfl | (simp [errW_none, errW_some] <;> rfl) | (simp [*, errW_none, errW_some] <;> rfl), by repeat (first | (with_reducible first | exact HB.out | apply below_alloc | apply pw_below_drewN | apply below_drew1 | refine below_set ?_ GE101.out | refine below_set ?_ GE102.out | refine below_set ?_ GE107.out | refine below_set ?_ GE108.out) | exact HB.out)⟩
  replace c30 := Bool.eq_false_iff.mpr c30
  subst c30
  have H1 : (some (t103, t104, a0_0)) = some (r1, r2, r3) := by rw [if_neg (show ¬ (false = true) by decide)] at H; exact H
  clear H
  have H := H1
  clear H1
  simp only [Option.some.injEq, Prod.mk.injEq] at H
  obtain ⟨rfl, rfl, rfl⟩ := H
  try go_wp2
  have n0_ := Aside0.mk (blk_drew BK101.out)
  have n1_ := Aside0.mk (blk_drew BK102.out)
  have n2_ := Aside0.mk (blk_drew BK107.out)
  have n3_ := Aside0.mk (blk_drew BK108.out)
  have n4_ := Aside0.mk (below_drew1 HB.out)
  clear BK101
  clear BK102
  clear BK107
  clear BK108
  clear HB
  have BK101 := n0_
  have BK102 := n1_
  have BK107 := n2_
  have BK108 := n3_
  have HB := n4_
  clear n0_ n1_ n2_ n3_ n4_
  refine start_ (n := 5) (S := fun w' => w'.cell? ⟨gb107, 0, none⟩ = some (.int .u64 t103) ∧ w'.cell? ⟨gb107, 1, none⟩ = some (.int .u64 t104) ∧ w'.cell? ⟨gb101, 0, none⟩ = some (.bool a0_0) ∧ w'.cell? ⟨gb101, 1, none⟩ = some (.int .u64 a0_1) ∧ w'.cell? ⟨gb101, 2, none⟩ = some (.int .u64 a0_2) ∧ w'.cell? ⟨gb101, 3, none⟩ = some (.int .u64 a0_3) ∧ w'.cell? ⟨gb101, 4, none⟩ = some (.int .u64 a0_4)) (ds := []) #[false, false, false, false, false] (by kernel_rfl) rfl rfl ⟨c0 BK107.out, c1 BK107.out, c0 BK101.out, c1 BK101.out, c2 BK101.out, c3 BK101.out, c4 BK101.out⟩ (fun hHeld => ?_)
  generalize wc.drew = w42 at BK101 BK102 BK107 BK108 HB hHeld ⊢
  refine pure_ (i := 1) (N := some 25) (v := ?_) (a' := ?_) #[false, true, false, false, false] rfl rfl (by kernel_rfl) (fun _ _ _ h => h) (Or.inl ⟨by rfl, ?_⟩) ?_ ?_
  rotate_left
  · intro w'
    go_simp
    with_reducible rfl
  rotate_left
  · simp only [Act.put, List.setIfInBounds_toArray, List.set_cons_zero, List.set_cons_succ, i64_w, i32_w]
    rfl
  refine take_ (i := 0) (N := some 24) (v := ?_) (a' := ?_) #[true, true, false, false, false] rfl rfl (by kernel_rfl) (fun _ _ _ h => h) (Or.inl ⟨by rfl, ?_⟩) hHeld ?_ ?_
  rotate_left
  · rintro w' ⟨s0, s1, s2, s3, s4, s5, s6⟩
    go_simp
    with_reducible rfl
  rotate_left
  · simp only [Act.put, List.setIfInBounds_toArray, List.set_cons_zero, List.set_cons_succ, i64_w, i32_w]
    rfl
  refine take_ (i := 2) (N := some 26) (v := ?_) (a' := ?_) #[true, true, true, false, false] rfl rfl (by kernel_rfl) (fun _ _ _ h => h) (Or.inl ⟨by rfl, ?_⟩) hHeld ?_ ?_
  rotate_left
  · rintro w' ⟨s0, s1, s2, s3, s4, s5, s6⟩
    go_simp
    with_reducible rfl
  rotate_left
  · simp only [Act.put, List.setIfInBounds_toArray, List.set_cons_zero, List.set_cons_succ, i64_w, i32_w]
    rfl
  refine one_ (i := 3) (N := none) #[true, true, true, true, false] rfl rfl (by kernel_rfl) (by decide) (fun K hK => ?_)
  have hs43 : w42.cell? ⟨gb102, 0, none⟩ = some (.int .u64 0) := c0 BK102.out
  have hfs43 := blk_frozen BK102.out 0
  have hns43_0 := NB101_102.out
  have hns43_2 := NB107_102.out
  have hns43_3 := NB108_102.out
  have hms43_0 := NB102_101.out
  have hms43_2 := NB102_107.out
  have hms43_3 := NB102_108.out
  have hs44 : w42.cell? ⟨gb102, 1, none⟩ = some (.int .u64 0) := c1 BK102.out
  have hfs44 := blk_frozen BK102.out 1
  have hns44_0 := NB101_102.out
  have hns44_2 := NB107_102.out
  have hns44_3 := NB108_102.out
  have hms44_0 := NB102_101.out
  have hms44_2 := NB102_107.out
  have hms44_3 := NB102_108.out
  refine skip_ (w1 := ?_) (by rfl) rfl ?_ ?_
  rotate_left
  · go_simp
    rfl
  refine hK.out _ _ ⟨((cell_far (p := ⟨gb102, _, none⟩) NB107_102.out _).trans (((cell_far (p := ⟨gb102, _, none⟩) NB107_102.out _).trans (hHeld.1)))), ((cell_far (p := ⟨gb102, _, none⟩) NB107_102.out _).trans (((cell_far (p := ⟨gb102, _, none⟩) NB107_102.out _).trans (hHeld.2.1)))), ((cell_far (p := ⟨gb102, _, none⟩) NB101_102.out _).trans (((cell_far (p := ⟨gb102, _, none⟩) NB101_102.out _).trans (hHeld.2.2.1)))), ((cell_far (p := ⟨gb102, _, none⟩) NB101_102.out _).trans (((cell_far (p := ⟨gb102, _, none⟩) NB101_102.out _).trans (hHeld.2.2.2.1)))), ((cell_far (p := ⟨gb102, _, none⟩) NB101_102.out _).trans (((cell_far (p := ⟨gb102, _, none⟩) NB101_102.out _).trans (hHeld.2.2.2.2.1)))), ((cell_far (p := ⟨gb102, _, none⟩) NB101_102.out _).trans (((cell_far (p := ⟨gb102, _, none⟩) NB101_102.out _).trans (hHeld.2.2.2.2.2.1)))), ((cell_far (p := ⟨gb102, _, none⟩) NB101_102.out _).trans (((cell_far (p := ⟨gb102, _, none⟩) NB101_102.out _).trans (hHeld.2.2.2.2.2.2))))⟩ (fun hHeld => ?_)
  clear hK K
  refine pure_ (i := 4) (N := some 3) (v := ?_) (a' := ?_) #[true, true, true, true, true] rfl rfl (by kernel_rfl) (fun _ _ _ h => h) (Or.inl ⟨by rfl, ?_⟩) ?_ ?_
  rotate_left
  · intro w'
    go_simp
    with_reducible rfl
  rotate_left
  · simp only [Act.put, List.setIfInBounds_toArray, List.set_cons_zero, List.set_cons_succ, i64_w, i32_w]
    rfl
  refine done_ (by kernel_rfl) ?_
  try go_wp2
  refine bodyPost_ret (results_ct rfl _ _ gb102 67 #[.int .u64 t103, .int .u64 t104] (0, 0) _ rfl (by refine bk ?_; refine blk_put (cs := #[.int .u64 t103, .int .u64 0]) ?_ 1 _ rfl; refine bk ?_; refine blk_put (cs := #[.int .u64 0, .int .u64 0]) ?_ 0 _ rfl; refine bk ?_; exact BK102.out) Tryd.underlying67 rfl (by kernel_rfl)) rfl ?_
  exact ⟨by first | rfl | (simp [errW_none, errW_some] <;> rfl) | (simp [*, errW_none, errW_some] <;> rfl), by repeat (first | (with_reducible first | exact HB.out | apply below_alloc | apply pw_below_drewN | apply below_drew1 | refine below_set ?_ GE101.out | refine below_set ?_ GE102.out | refine below_set ?_ GE107.out | refine below_set ?_ GE108.out) | exact HB.out)⟩

/-! ### ratio_wide_minus: function 61: told elsewhere -/

end Go.Proofs.YtofndakpenpkbaaDoor.PW

namespace Go.Proofs.YtofndakpenpkbaaDoor.PW
open Go.Proofs.YtofndakpenpkbaaDoor.PA
open Go.RowKit Go.Proofs.YtofndakpenpkbaaDoorW.PrintWords Go.Proofs.YtofndakpenpkbaaDoorW.PrintLast Go.Proofs.YtofndakpenpkbaaDoorW.PrintMore
set_option linter.unusedVariables false
set_option linter.unusedSimpArgs false

/-! ### ratio_frac_half: function 91 -/
def ratio_frac_half.j0 : Nat → Bool → Bool → Int → Int → Int → Int → Int → Int → Bool → Int → Int → Int → Int → Option (Bool × Int × Int × Int × Int)
  | 0, _, _, _, _, _, _, _, _, _, _, _, _, _ => none
  | k + 1, x22, x114000, x114001, x114002, x114003, x114004, x118000, x118001, x123000, x123001, x123002, x123003, x123004 => if x22 = true then ((ratio_wide_minus.f x118000 x118001 x114003 x114004).bind fun bt124 => (some (x123000, bt124.1, bt124.2, x123003, x123004))) else (if x114000 = true then ((ratio_wide_minus.f x114003 x114004 x118000 x118001).bind fun bt126 => (some (false, bt126.1, bt126.2, x123003, x123004))) else (some (x123000, x123001, x123002, x123003, x123004)))
def ratio_frac_half.f (k : Nat) (a0_0 : Bool) (a0_1 : Int) (a0_2 : Int) (a0_3 : Int) (a0_4 : Int) : Option (Bool × Int × Int × Int × Int) := (ratio_wide_plus.f a0_1 a0_2 a0_1 a0_2).bind fun bt115 => ((ratio_wide_plus.f bt115.1 bt115.2 a0_3 a0_4).bind fun bt118 => ((ratio_wide_plus.f a0_3 a0_4 a0_3 a0_4).bind fun bt120 => (if a0_0 = true then ((ratio_wide_cmp.f bt115.1 bt115.2 a0_3 a0_4).bind fun t123 => (ratio_frac_half.j0 k (decide (t123 > 0)) a0_0 a0_1 a0_2 a0_3 a0_4 bt115.1 bt115.2 a0_0 bt118.1 bt118.2 bt120.1 bt120.2)) else (ratio_frac_half.j0 k false a0_0 a0_1 a0_2 a0_3 a0_4 bt115.1 bt115.2 a0_0 bt118.1 bt118.2 bt120.1 bt120.2))))
def ratio_frac_half.T2 : Bool × List (List Nat × List Nat) := (true, [([], []), ([0], [0]), ([], []), ([], []), ([3], [3]), ([2, 4], [2, 4]), ([], []), ([6], [6]), ([], []), ([8], [8]), ([7, 9, 5], [7, 9]), ([1, 5, 10], [1, 5, 10]), ([], []), ([12, 11, 10, 0, 1, 2, 3, 4, 5, 6, 7, 8, 9, 10, 11, 12], [11, 12])])
def ratio_frac_half.B2 : List Nat := [0, 1, 0, 0, 8, 28, 0, 64, 0, 256, 1020, 2047, 0, 8191]
theorem ratio_frac_half.tab2 : rtab .any (opsOf Tryd.f91 2) = ratio_frac_half.T2 := by kernel_rfl
theorem ratio_frac_half.bits2 : waitsOk ratio_frac_half.T2.2 ratio_frac_half.B2 = true := by kernel_rfl
set_option maxHeartbeats 8000000 in
set_option maxRecDepth 100000 in
theorem ratio_frac_half.calls (k : Nat) (a0_0 : Bool) (a0_1 : Int) (a0_2 : Int) (a0_3 : Int) (a0_4 : Int) (r1 : Bool) (r2 : Int) (r3 : Int) (r4 : Int) (r5 : Int) (w : World) (h : ratio_frac_half.f k a0_0 a0_1 a0_2 a0_3 a0_4 = some (r1, r2, r3, r4, r5)) :
    Calls Tryd.prog 91 #[.agg #[.bool a0_0, .int .u64 a0_1, .int .u64 a0_2, .int .u64 a0_3, .int .u64 a0_4]] w fun e w' => e = .returned (.agg #[.bool r1, .int .u64 r2, .int .u64 r3, .int .u64 r4, .int .u64 r5]) ∧ Below w.heap.size w w' := by
  have hu71 := Tryd.underlying71
  have hu67 := Tryd.underlying67
  have HB := Aside0.mk (Below.refl w.heap.size w)
  have H : ((ratio_wide_plus.f a0_1 a0_2 a0_1 a0_2).bind fun bt115 => ((ratio_wide_plus.f bt115.1 bt115.2 a0_3 a0_4).bind fun bt118 => ((ratio_wide_plus.f a0_3 a0_4 a0_3 a0_4).bind fun bt120 => (if a0_0 = true then ((ratio_wide_cmp.f bt115.1 bt115.2 a0_3 a0_4).bind fun t123 => (ratio_frac_half.j0 k (decide (t123 > 0)) a0_0 a0_1 a0_2 a0_3 a0_4 bt115.1 bt115.2 a0_0 bt118.1 bt118.2 bt120.1 bt120.2)) else (ratio_frac_half.j0 k false a0_0 a0_1 a0_2 a0_3 a0_4 bt115.1 bt115.2 a0_0 bt118.1 bt118.2 bt120.1 bt120.2))))) = some (r1, r2, r3, r4, r5) := h
  clear h
  replace H := Option.bind_eq_some_iff.mp H
  obtain ⟨⟨t115, t116⟩, A20, H⟩ := H
  replace H : ((ratio_wide_plus.f t115 t116 a0_3 a0_4).bind fun bt118 => ((ratio_wide_plus.f a0_3 a0_4 a0_3 a0_4).bind fun bt120 => (if a0_0 = true then ((ratio_wide_cmp.f t115 t116 a0_3 a0_4).bind fun t123 => (ratio_frac_half.j0 k (decide (t123 > 0)) a0_0 a0_1 a0_2 a0_3 a0_4 t115 t116 a0_0 bt118.1 bt118.2 bt120.1 bt120.2)) else (ratio_frac_half.j0 k false a0_0 a0_1 a0_2 a0_3 a0_4 t115 t116 a0_0 bt118.1 bt118.2 bt120.1 bt120.2)))) = some (r1, r2, r3, r4, r5) := H
  have A2 := Aside0.mk A20
  clear A20
  replace H := Option.bind_eq_some_iff.mp H
  obtain ⟨⟨t118, t119⟩, A30, H⟩ := H
  replace H : ((ratio_wide_plus.f a0_3 a0_4 a0_3 a0_4).bind fun bt120 => (if a0_0 = true then ((ratio_wide_cmp.f t115 t116 a0_3 a0_4).bind fun t123 => (ratio_frac_half.j0 k (decide (t123 > 0)) a0_0 a0_1 a0_2 a0_3 a0_4 t115 t116 a0_0 t118 t119 bt120.1 bt120.2)) else (ratio_frac_half.j0 k false a0_0 a0_1 a0_2 a0_3 a0_4 t115 t116 a0_0 t118 t119 bt120.1 bt120.2))) = some (r1, r2, r3, r4, r5) := H
  have A3 := Aside0.mk A30
  clear A30
  replace H := Option.bind_eq_some_iff.mp H
  obtain ⟨⟨t120, t121⟩, A40, H⟩ := H
  replace H : (if a0_0 = true then ((ratio_wide_cmp.f t115 t116 a0_3 a0_4).bind fun t123 => (ratio_frac_half.j0 k (decide (t123 > 0)) a0_0 a0_1 a0_2 a0_3 a0_4 t115 t116 a0_0 t118 t119 t120 t121)) else (ratio_frac_half.j0 k false a0_0 a0_1 a0_2 a0_3 a0_4 t115 t116 a0_0 t118 t119 t120 t121)) = some (r1, r2, r3, r4, r5) := H
  have A4 := Aside0.mk A40
  clear A40
  have HC5 := Aside0.mk H
  clear H
  go_enter Tryd.func91, Tryd.ntmps91
  try go_wp2_with (first | ((with_reducible refine gate_dst (N := 1) rfl ?_); refine box_event ?hg (N := 1) ?hd (cs := #[.bool a0_0, .int .u64 a0_1, .int .u64 a0_2, .int .u64 a0_3, .int .u64 a0_4]) (t := 71) ?hr ?_; (case hd => rfl); (case hg => rfl); (case hr => first | (go_simp; done) | (go_simp; rfl)); intro gb113 hg w6 hbox hb; have BK113 := Aside0.mk (hbox); have GW113 := ag hg HB; have GE113 := ag hg HB; replace HB := hs hb HB; clear hb hbox hg) | ((with_reducible refine gate_dst (N := 2) rfl ?_); refine box_event ?hg (N := 2) ?hd (cs := #[.bool false, .int .u64 0, .int .u64 0, .int .u64 0, .int .u64 0]) (t := 71) ?hr ?_; (case hd => rfl); (case hg => rfl); (case hr => first | (go_simp; done) | (go_simp; rfl)); intro gb114 hg w7 hbox hb; have BK114 := Aside0.mk (hbox); have GW114 := ag hg HB; have GE114 := ag hg HB; have NB113_114 := na hg BK113; have NB114_113 := nb hg BK113; replace BK113 := ab hb BK113; replace HB := hs hb HB; clear hb hbox hg; have hnb8 := NB113_114.out; have hnc8 := NB114_113.out; obtain ⟨hcz9_0, hcz9_1, hcz9_2, hcz9_3, hcz9_4, hfz9_0, hfz9_1, hfz9_2, hfz9_3, hfz9_4⟩ := k5 BK113.out) | ((with_reducible refine gate_callee (f := 59) rfl ?_); refine goesL_ (some 9) rfl rfl Tryd.func59 (by kernel_rfl) rfl #[.agg #[.int .u64 a0_1, .int .u64 a0_2], .agg #[.int .u64 a0_1, .int .u64 a0_2]] rfl (by (try simp only [List.map_toArray, List.map_cons, List.map_nil]); first | done | rfl | (simp only [List.length_drop, List.length_take]; rfl)) ?_; (with_reducible refine (ratio_wide_plus.calls a0_1 a0_2 a0_1 a0_2 t115 t116 _ A2.out).mono ?_); rintro e w10 ⟨rfl, hb⟩; refine ⟨_, rfl, ?_⟩; replace BK113 := ab hb BK113; replace BK114 := ab hb BK114; replace HB := hs hb HB; (try clear hb); (try clear hb2); (try clear hk); (try clear hi)) | ((with_reducible refine gate_dst (N := 3) rfl ?_); refine box_event ?hg (N := 3) ?hd (cs := #[.int .u64 0, .int .u64 0]) (t := 67) ?hr ?_; (case hd => rfl); (case hg => rfl); (case hr => first | (go_simp; done) | (go_simp; rfl)); intro gb117 hg w11 hbox hb; have BK117 := Aside0.mk (hbox); have GW117 := ag hg HB; have GE117 := ag hg HB; have NB113_117 := na hg BK113; have NB117_113 := nb hg BK113; have NB114_117 := na hg BK114; have NB117_114 := nb hg BK114; replace BK113 := ab hb BK113; replace BK114 := ab hb BK114; replace HB := hs hb HB; clear hb hbox hg; have hnb12 := NB117_113.out; have hnc12 := NB113_117.out; have hnb13 := NB117_114.out; have hnc13 := NB114_117.out; obtain ⟨hcz14_0, hcz14_1, hfz14_0, hfz14_1⟩ := k2 BK117.out))
  have n0_ : Aside0 (((w11.setCell ⟨gb117, 0, none⟩ (.int .u64 t115)).setCell ⟨gb117, 1, none⟩ (.int .u64 t116)).heap[gb113]? = some (.cells #[.bool a0_0, .int .u64 a0_1, .int .u64 a0_2, .int .u64 a0_3, .int .u64 a0_4] 71 (0, 0))) := ⟨by refine bk ?_; exact BK113.out⟩
  have n1_ : Aside0 (((w11.setCell ⟨gb117, 0, none⟩ (.int .u64 t115)).setCell ⟨gb117, 1, none⟩ (.int .u64 t116)).heap[gb114]? = some (.cells #[.bool false, .int .u64 0, .int .u64 0, .int .u64 0, .int .u64 0] 71 (0, 0))) := ⟨by refine bk ?_; exact BK114.out⟩
  have n2_ : Aside0 (((w11.setCell ⟨gb117, 0, none⟩ (.int .u64 t115)).setCell ⟨gb117, 1, none⟩ (.int .u64 t116)).heap[gb117]? = some (.cells #[.int .u64 t115, .int .u64 t116] 67 (0, 0))) := ⟨by refine bk ?_; refine blk_put (cs := #[.int .u64 t115, .int .u64 0]) ?_ 1 _ rfl; refine bk ?_; refine blk_put (cs := #[.int .u64 0, .int .u64 0]) ?_ 0 _ rfl; refine bk ?_; exact BK117.out⟩
  have n3_ : Aside0 (Below w.heap.size w ((w11.setCell ⟨gb117, 0, none⟩ (.int .u64 t115)).setCell ⟨gb117, 1, none⟩ (.int .u64 t116))) := ⟨by repeat (first | (with_reducible first | exact HB.out | apply below_alloc | apply pw_below_drewN | apply below_drew1 | refine below_set ?_ GE113.out | refine below_set ?_ GE114.out | refine below_set ?_ GE117.out) | exact HB.out)⟩
  (try clear BK113)
  (try clear BK114)
  (try clear BK117)
  (try clear HB)
  generalize ((w11.setCell ⟨gb117, 0, none⟩ (.int .u64 t115)).setCell ⟨gb117, 1, none⟩ (.int .u64 t116)) = w15 at n0_ n1_ n2_ n3_ ⊢
  have BK113 := n0_
  have BK114 := n1_
  have BK117 := n2_
  have HB := n3_
  clear n0_ n1_ n2_ n3_
  have n0_ := Aside0.mk (blk_drew BK113.out)
  have n1_ := Aside0.mk (blk_drew BK114.out)
  have n2_ := Aside0.mk (blk_drew BK117.out)
  have n3_ := Aside0.mk (below_drew1 HB.out)
  clear BK113
  clear BK114
  clear BK117
  clear HB
  have BK113 := n0_
  have BK114 := n1_
  have BK117 := n2_
  have HB := n3_
  clear n0_ n1_ n2_ n3_
  refine start_ (n := 14) (S := fun w' => w'.cell? ⟨gb113, 0, none⟩ = some (.bool a0_0) ∧ w'.cell? ⟨gb113, 1, none⟩ = some (.int .u64 a0_1) ∧ w'.cell? ⟨gb113, 2, none⟩ = some (.int .u64 a0_2) ∧ w'.cell? ⟨gb113, 3, none⟩ = some (.int .u64 a0_3) ∧ w'.cell? ⟨gb113, 4, none⟩ = some (.int .u64 a0_4) ∧ w'.cell? ⟨gb117, 0, none⟩ = some (.int .u64 t115) ∧ w'.cell? ⟨gb117, 1, none⟩ = some (.int .u64 t116)) (ds := []) #[false, false, false, false, false, false, false, false, false, false, false, false, false, false] (by kernel_rfl) rfl rfl ⟨c0 BK113.out, c1 BK113.out, c2 BK113.out, c3 BK113.out, c4 BK113.out, c0 BK117.out, c1 BK117.out⟩ (fun hHeld => ?_); refine with_tabW ratio_frac_half.tab2 ratio_frac_half.bits2 (fun HT_ HW_ => ?_)
  generalize w15.drew = w16 at BK113 BK114 BK117 HB hHeld ⊢
  refine pure_ (i := 0) (N := some 10) (v := ?_) (a' := ?_) #[true, false, false, false, false, false, false, false, false, false, false, false, false, false] rfl rfl (any_of HT_.out (by kernel_rfl)) (fun _ _ _ h => h) (Or.inl ⟨by rfl, ?_⟩) ?_ ?_
  rotate_left
  · intro w'
    go_simp
    with_reducible rfl
  rotate_left
  · simp only [Act.put, List.setIfInBounds_toArray, List.set_cons_zero, List.set_cons_succ, i64_w, i32_w]
    rfl
  refine pure_ (i := 3) (N := some 13) (v := ?_) (a' := ?_) #[true, false, false, true, false, false, false, false, false, false, false, false, false, false] rfl rfl (any_of HT_.out (by kernel_rfl)) (fun _ _ _ h => h) (Or.inl ⟨by rfl, ?_⟩) ?_ ?_
  rotate_left
  · intro w'
    go_simp
    with_reducible rfl
  rotate_left
  · simp only [Act.put, List.setIfInBounds_toArray, List.set_cons_zero, List.set_cons_succ, i64_w, i32_w]
    rfl
  refine pure_ (i := 6) (N := some 16) (v := ?_) (a' := ?_) #[true, false, false, true, false, false, true, false, false, false, false, false, false, false] rfl rfl (any_of HT_.out (by kernel_rfl)) (fun _ _ _ h => h) (Or.inl ⟨by rfl, ?_⟩) ?_ ?_
  rotate_left
  · intro w'
    go_simp
    with_reducible rfl
  rotate_left
  · simp only [Act.put, List.setIfInBounds_toArray, List.set_cons_zero, List.set_cons_succ, i64_w, i32_w]
    rfl
  refine pure_ (i := 8) (N := some 18) (v := ?_) (a' := ?_) #[true, false, false, true, false, false, true, false, true, false, false, false, false, false] rfl rfl (any_of HT_.out (by kernel_rfl)) (fun _ _ _ h => h) (Or.inl ⟨by rfl, ?_⟩) ?_ ?_
  rotate_left
  · intro w'
    go_simp
    with_reducible rfl
  rotate_left
  · simp only [Act.put, List.setIfInBounds_toArray, List.set_cons_zero, List.set_cons_succ, i64_w, i32_w]
    rfl
  refine take_ (i := 1) (N := some 11) (v := ?_) (a' := ?_) #[true, true, false, true, false, false, true, false, true, false, false, false, false, false] rfl rfl (take_ofW HT_.out HW_.out (by kernel_rfl)) (fun _ _ _ h => h) (Or.inl ⟨by rfl, ?_⟩) hHeld ?_ ?_
  rotate_left
  · rintro w' ⟨s0, s1, s2, s3, s4, s5, s6⟩
    go_simp
    with_reducible rfl
  rotate_left
  · simp only [Act.put, List.setIfInBounds_toArray, List.set_cons_zero, List.set_cons_succ, i64_w, i32_w]
    rfl
  refine take_ (i := 2) (N := some 12) (v := ?_) (a' := ?_) #[true, true, true, true, false, false, true, false, true, false, false, false, false, false] rfl rfl (take_ofW HT_.out HW_.out (by kernel_rfl)) (fun _ _ _ h => h) (Or.inl ⟨by rfl, ?_⟩) hHeld ?_ ?_
  rotate_left
  · rintro w' ⟨s0, s1, s2, s3, s4, s5, s6⟩
    go_simp
    with_reducible rfl
  rotate_left
  · simp only [Act.put, List.setIfInBounds_toArray, List.set_cons_zero, List.set_cons_succ, i64_w, i32_w]
    rfl
  refine take_ (i := 4) (N := some 14) (v := ?_) (a' := ?_) #[true, true, true, true, true, false, true, false, true, false, false, false, false, false] rfl rfl (take_ofW HT_.out HW_.out (by kernel_rfl)) (fun _ _ _ h => h) (Or.inl ⟨by rfl, ?_⟩) hHeld ?_ ?_
  rotate_left
  · rintro w' ⟨s0, s1, s2, s3, s4, s5, s6⟩
    go_simp
    with_reducible rfl
  rotate_left
  · simp only [Act.put, List.setIfInBounds_toArray, List.set_cons_zero, List.set_cons_succ, i64_w, i32_w]
    rfl
  refine take_ (i := 7) (N := some 17) (v := ?_) (a' := ?_) #[true, true, true, true, true, false, true, true, true, false, false, false, false, false] rfl rfl (take_ofW HT_.out HW_.out (by kernel_rfl)) (fun _ _ _ h => h) (Or.inl ⟨by rfl, ?_⟩) hHeld ?_ ?_
  rotate_left
  · rintro w' ⟨s0, s1, s2, s3, s4, s5, s6⟩
    go_simp
    with_reducible rfl
  rotate_left
  · simp only [Act.put, List.setIfInBounds_toArray, List.set_cons_zero, List.set_cons_succ, i64_w, i32_w]
    rfl
  refine take_ (i := 9) (N := some 19) (v := ?_) (a' := ?_) #[true, true, true, true, true, false, true, true, true, true, false, false, false, false] rfl rfl (take_ofW HT_.out HW_.out (by kernel_rfl)) (fun _ _ _ h => h) (Or.inl ⟨by rfl, ?_⟩) hHeld ?_ ?_
  rotate_left
  · rintro w' ⟨s0, s1, s2, s3, s4, s5, s6⟩
    go_simp
    with_reducible rfl
  rotate_left
  · simp only [Act.put, List.setIfInBounds_toArray, List.set_cons_zero, List.set_cons_succ, i64_w, i32_w]
    rfl
  refine join_ (σ := Nat) 1 #[true, true, true, true, true, true, true, true, true, true, true, true, true, false] (fun s_ => [(15, .agg #[.int .u64 t118, .int .u64 t119]), (20, .agg #[.int .u64 t120, .int .u64 t121]), (4, .pointer (some ⟨s_, 0, none⟩)), (21, .agg #[.bool a0_0, .int .u64 t118, .int .u64 t119, .int .u64 t120, .int .u64 t121])]) (fun s_ w' => (w'.cell? ⟨gb113, 0, none⟩ = some (.bool a0_0) ∧ w'.cell? ⟨gb113, 1, none⟩ = some (.int .u64 a0_1) ∧ w'.cell? ⟨gb113, 2, none⟩ = some (.int .u64 a0_2) ∧ w'.cell? ⟨gb113, 3, none⟩ = some (.int .u64 a0_3) ∧ w'.cell? ⟨gb113, 4, none⟩ = some (.int .u64 a0_4) ∧ w'.cell? ⟨gb117, 0, none⟩ = some (.int .u64 t115) ∧ w'.cell? ⟨gb117, 1, none⟩ = some (.int .u64 t116)) ∧ (w'.heap[gb113]? = some (.cells #[.bool a0_0, .int .u64 a0_1, .int .u64 a0_2, .int .u64 a0_3, .int .u64 a0_4] 71 (0, 0))) ∧ (w'.heap[gb114]? = some (.cells #[.bool false, .int .u64 0, .int .u64 0, .int .u64 0, .int .u64 0] 71 (0, 0))) ∧ (w'.heap[gb117]? = some (.cells #[.int .u64 t115, .int .u64 t116] 67 (0, 0))) ∧ (w'.heap[s_]? = some (.cells #[.bool false, .int .u64 0, .int .u64 0, .int .u64 0, .int .u64 0] 71 (0, 0))) ∧ (w.heap.size ≤ s_) ∧ (w.heap.size ≤ s_) ∧ (gb113 ≠ s_) ∧ (s_ ≠ gb113) ∧ (gb114 ≠ s_) ∧ (s_ ≠ gb114) ∧ (gb117 ≠ s_) ∧ (s_ ≠ gb117) ∧ (Below w.heap.size w w')) ?_ ?_
  rotate_left
  · intro hCont
    refine two_ (i := 5) (j := 12) (Ni := some 15) (Nj := some 4) #[true, true, true, true, true, true, true, true, true, true, false, false, false, false] #[true, true, true, true, true, false, true, true, true, true, false, false, true, false] rfl rfl rfl rfl (two_of HT_.out (by kernel_rfl)) (by decide) (by decide) (fun K hK => ?_) (fun K hK => ?_)
    · skip
      refine goes_ Tryd.func59 (by kernel_rfl) rfl #[.agg #[.int .u64 t115, .int .u64 t116], .agg #[.int .u64 a0_3, .int .u64 a0_4]] (by rfl) rfl rfl (by (try simp only [List.map_toArray, List.map_cons, List.map_nil]); first | done | rfl | (simp only [List.length_drop, List.length_take]; rfl)) ?_
      with_reducible refine (ratio_wide_plus.calls t115 t116 a0_3 a0_4 t118 t119 _ A3.out).mono ?_
      rintro e w17 ⟨rfl, hb⟩
      refine ⟨_, rfl, ?_⟩
      have n0_ := ab hb BK113
      have n1_ := ab hb BK114
      have n2_ := ab hb BK117
      have n3_ := hs hb HB
      clear BK113
      clear BK114
      clear BK117
      clear HB
      have BK113 := n0_
      have BK114 := n1_
      have BK117 := n2_
      have HB := n3_
      clear n0_ n1_ n2_ n3_
      (try clear hb)
      (try clear hb2)
      (try clear hk)
      (try clear hi)
      refine hK.out _ _ ⟨c0 BK113.out, c1 BK113.out, c2 BK113.out, c3 BK113.out, c4 BK113.out, c0 BK117.out, c1 BK117.out⟩ (fun hHeld => ?_)
      clear hK K
      refine norm_ (a' := ?_) ?_ ?_
      rotate_left
      · show Act.put _ (some 15) _ = _
        simp only [Act.put, List.setIfInBounds_toArray, List.set_cons_zero, List.set_cons_succ, i64_w, i32_w]
        rfl
      refine two_ (i := 10) (j := 12) (Ni := some 20) (Nj := some 4) #[true, true, true, true, true, true, true, true, true, true, true, false, false, false] #[true, true, true, true, true, true, true, true, true, true, false, false, true, false] rfl rfl rfl rfl (two_of HT_.out (by kernel_rfl)) (by decide) (by decide) (fun K hK => ?_) (fun K hK => ?_)
      · skip
        refine goes_ Tryd.func59 (by kernel_rfl) rfl #[.agg #[.int .u64 a0_3, .int .u64 a0_4], .agg #[.int .u64 a0_3, .int .u64 a0_4]] (by rfl) rfl rfl (by (try simp only [List.map_toArray, List.map_cons, List.map_nil]); first | done | rfl | (simp only [List.length_drop, List.length_take]; rfl)) ?_
        with_reducible refine (ratio_wide_plus.calls a0_3 a0_4 a0_3 a0_4 t120 t121 _ A4.out).mono ?_
        rintro e w18 ⟨rfl, hb⟩
        refine ⟨_, rfl, ?_⟩
        have n0_ := ab hb BK113
        have n1_ := ab hb BK114
        have n2_ := ab hb BK117
        have n3_ := hs hb HB
        clear BK113
        clear BK114
        clear BK117
        clear HB
        have BK113 := n0_
        have BK114 := n1_
        have BK117 := n2_
        have HB := n3_
        clear n0_ n1_ n2_ n3_
        (try clear hb)
        (try clear hb2)
        (try clear hk)
        (try clear hi)
        refine hK.out _ _ ⟨c0 BK113.out, c1 BK113.out, c2 BK113.out, c3 BK113.out, c4 BK113.out, c0 BK117.out, c1 BK117.out⟩ (fun hHeld => ?_)
        clear hK K
        refine norm_ (a' := ?_) ?_ ?_
        rotate_left
        · show Act.put _ (some 20) _ = _
          simp only [Act.put, List.setIfInBounds_toArray, List.set_cons_zero, List.set_cons_succ, i64_w, i32_w]
          rfl
        refine pure_ (i := 11) (N := some 21) (v := ?_) (a' := ?_) #[true, true, true, true, true, true, true, true, true, true, true, true, false, false] rfl rfl (any_of HT_.out (by kernel_rfl)) (fun _ _ _ h => h) (Or.inl ⟨by rfl, ?_⟩) ?_ ?_
        rotate_left
        · intro w'
          go_simp
          with_reducible rfl
        rotate_left
        · simp only [Act.put, List.setIfInBounds_toArray, List.set_cons_zero, List.set_cons_succ, i64_w, i32_w]
          rfl
        refine one_ (i := 12) (N := some 4) #[true, true, true, true, true, true, true, true, true, true, true, true, true, false] rfl rfl (one_of HT_.out (by kernel_rfl)) (by decide) (fun K hK => ?_)
        refine box_step ?hg (N := 4) ?hd (cs := #[.bool false, .int .u64 0, .int .u64 0, .int .u64 0, .int .u64 0]) (t := 71) ?hr ?_; (case hd => rfl); (case hg => rfl); (case hr => first | (go_simp; done) | (go_simp; rfl))
        intro gb122 hg w19 hbox hb
        have n0_ := ab hb BK113
        have n1_ := ab hb BK114
        have n2_ := ab hb BK117
        have n3_ := hs hb HB
        have n4_ := Aside0.mk (hbox)
        have n5_ := ag hg HB
        have n6_ := ag hg HB
        have n7_ := na hg BK113
        have n8_ := nb hg BK113
        have n9_ := na hg BK114
        have n10_ := nb hg BK114
        have n11_ := na hg BK117
        have n12_ := nb hg BK117
        clear BK113
        clear BK114
        clear BK117
        clear HB
        have BK113 := n0_
        have BK114 := n1_
        have BK117 := n2_
        have HB := n3_
        have BK122 := n4_
        have GW122 := n5_
        have GE122 := n6_
        have NB113_122 := n7_
        have NB122_113 := n8_
        have NB114_122 := n9_
        have NB122_114 := n10_
        have NB117_122 := n11_
        have NB122_117 := n12_
        clear n0_ n1_ n2_ n3_ n4_ n5_ n6_ n7_ n8_ n9_ n10_ n11_ n12_
        clear hb hbox hg
        refine hK.out _ _ ⟨c0 BK113.out, c1 BK113.out, c2 BK113.out, c3 BK113.out, c4 BK113.out, c0 BK117.out, c1 BK117.out⟩ (fun hHeld => ?_)
        clear hK K
        refine norm_ (a' := ?_) ?_ ?_
        rotate_left
        · show Act.put _ (some 4) _ = _
          simp only [Act.put, List.setIfInBounds_toArray, List.set_cons_zero, List.set_cons_succ, i64_w, i32_w]
          rfl
        exact norm_ (by simp only [putAll, Act.put, List.setIfInBounds_toArray, List.set_cons_zero, List.set_cons_succ]) (hCont (gb122) _ ⟨hHeld, (bk BK113.out), (bk BK114.out), (bk BK117.out), (bk BK122.out), GW122.out, GE122.out, NB113_122.out, NB122_113.out, NB114_122.out, NB122_114.out, NB117_122.out, NB122_117.out, (bw HB.out)⟩)
      skip
      refine box_step ?hg (N := 4) ?hd (cs := #[.bool false, .int .u64 0, .int .u64 0, .int .u64 0, .int .u64 0]) (t := 71) ?hr ?_; (case hd => rfl); (case hg => rfl); (case hr => first | (go_simp; done) | (go_simp; rfl))
      intro gb122 hg w18 hbox hb
      have n0_ := ab hb BK113
      have n1_ := ab hb BK114
      have n2_ := ab hb BK117
      have n3_ := hs hb HB
      have n4_ := Aside0.mk (hbox)
      have n5_ := ag hg HB
      have n6_ := ag hg HB
      have n7_ := na hg BK113
      have n8_ := nb hg BK113
      have n9_ := na hg BK114
      have n10_ := nb hg BK114
      have n11_ := na hg BK117
      have n12_ := nb hg BK117
      clear BK113
      clear BK114
      clear BK117
      clear HB
      have BK113 := n0_
      have BK114 := n1_
      have BK117 := n2_
      have HB := n3_
      have BK122 := n4_
      have GW122 := n5_
      have GE122 := n6_
      have NB113_122 := n7_
      have NB122_113 := n8_
      have NB114_122 := n9_
      have NB122_114 := n10_
      have NB117_122 := n11_
      have NB122_117 := n12_
      clear n0_ n1_ n2_ n3_ n4_ n5_ n6_ n7_ n8_ n9_ n10_ n11_ n12_
      clear hb hbox hg
      refine hK.out _ _ ⟨c0 BK113.out, c1 BK113.out, c2 BK113.out, c3 BK113.out, c4 BK113.out, c0 BK117.out, c1 BK117.out⟩ (fun hHeld => ?_)
      clear hK K
      refine norm_ (a' := ?_) ?_ ?_
      rotate_left
      · show Act.put _ (some 4) _ = _
        simp only [Act.put, List.setIfInBounds_toArray, List.set_cons_zero, List.set_cons_succ, i64_w, i32_w]
        rfl
      refine one_ (i := 10) (N := some 20) #[true, true, true, true, true, true, true, true, true, true, true, false, true, false] rfl rfl (one_of HT_.out (by kernel_rfl)) (by decide) (fun K hK => ?_)
      refine goes_ Tryd.func59 (by kernel_rfl) rfl #[.agg #[.int .u64 a0_3, .int .u64 a0_4], .agg #[.int .u64 a0_3, .int .u64 a0_4]] (by rfl) rfl rfl (by (try simp only [List.map_toArray, List.map_cons, List.map_nil]); first | done | rfl | (simp only [List.length_drop, List.length_take]; rfl)) ?_
      with_reducible refine (ratio_wide_plus.calls a0_3 a0_4 a0_3 a0_4 t120 t121 _ A4.out).mono ?_
      rintro e w19 ⟨rfl, hb⟩
      refine ⟨_, rfl, ?_⟩
      have n0_ := ab hb BK113
      have n1_ := ab hb BK114
      have n2_ := ab hb BK117
      have n3_ := ab hb BK122
      have n4_ := hs hb HB
      clear BK113
      clear BK114
      clear BK117
      clear BK122
      clear HB
      have BK113 := n0_
      have BK114 := n1_
      have BK117 := n2_
      have BK122 := n3_
      have HB := n4_
      clear n0_ n1_ n2_ n3_ n4_
      (try clear hb)
      (try clear hb2)
      (try clear hk)
      (try clear hi)
      refine hK.out _ _ ⟨c0 BK113.out, c1 BK113.out, c2 BK113.out, c3 BK113.out, c4 BK113.out, c0 BK117.out, c1 BK117.out⟩ (fun hHeld => ?_)
      clear hK K
      refine norm_ (a' := ?_) ?_ ?_
      rotate_left
      · show Act.put _ (some 20) _ = _
        simp only [Act.put, List.setIfInBounds_toArray, List.set_cons_zero, List.set_cons_succ, i64_w, i32_w]
        rfl
      refine pure_ (i := 11) (N := some 21) (v := ?_) (a' := ?_) #[true, true, true, true, true, true, true, true, true, true, true, true, true, false] rfl rfl (any_of HT_.out (by kernel_rfl)) (fun _ _ _ h => h) (Or.inl ⟨by rfl, ?_⟩) ?_ ?_
      rotate_left
      · intro w'
        go_simp
        with_reducible rfl
      rotate_left
      · simp only [Act.put, List.setIfInBounds_toArray, List.set_cons_zero, List.set_cons_succ, i64_w, i32_w]
        rfl
      exact norm_ (by simp only [putAll, Act.put, List.setIfInBounds_toArray, List.set_cons_zero, List.set_cons_succ]) (hCont (gb122) _ ⟨hHeld, (bk BK113.out), (bk BK114.out), (bk BK117.out), (bk BK122.out), GW122.out, GE122.out, NB113_122.out, NB122_113.out, NB114_122.out, NB122_114.out, NB117_122.out, NB122_117.out, (bw HB.out)⟩)
    skip
    refine box_step ?hg (N := 4) ?hd (cs := #[.bool false, .int .u64 0, .int .u64 0, .int .u64 0, .int .u64 0]) (t := 71) ?hr ?_; (case hd => rfl); (case hg => rfl); (case hr => first | (go_simp; done) | (go_simp; rfl))
    intro gb122 hg w17 hbox hb
    have n0_ := ab hb BK113
    have n1_ := ab hb BK114
    have n2_ := ab hb BK117
    have n3_ := hs hb HB
    have n4_ := Aside0.mk (hbox)
    have n5_ := ag hg HB
    have n6_ := ag hg HB
    have n7_ := na hg BK113
    have n8_ := nb hg BK113
    have n9_ := na hg BK114
    have n10_ := nb hg BK114
    have n11_ := na hg BK117
    have n12_ := nb hg BK117
    clear BK113
    clear BK114
    clear BK117
    clear HB
    have BK113 := n0_
    have BK114 := n1_
    have BK117 := n2_
    have HB := n3_
    have BK122 := n4_
    have GW122 := n5_
    have GE122 := n6_
    have NB113_122 := n7_
    have NB122_113 := n8_
    have NB114_122 := n9_
    have NB122_114 := n10_
    have NB117_122 := n11_
    have NB122_117 := n12_
    clear n0_ n1_ n2_ n3_ n4_ n5_ n6_ n7_ n8_ n9_ n10_ n11_ n12_
    clear hb hbox hg
    refine hK.out _ _ ⟨c0 BK113.out, c1 BK113.out, c2 BK113.out, c3 BK113.out, c4 BK113.out, c0 BK117.out, c1 BK117.out⟩ (fun hHeld => ?_)
    clear hK K
    refine norm_ (a' := ?_) ?_ ?_
    rotate_left
    · show Act.put _ (some 4) _ = _
      simp only [Act.put, List.setIfInBounds_toArray, List.set_cons_zero, List.set_cons_succ, i64_w, i32_w]
      rfl
    refine one_ (i := 5) (N := some 15) #[true, true, true, true, true, true, true, true, true, true, false, false, true, false] rfl rfl (one_of HT_.out (by kernel_rfl)) (by decide) (fun K hK => ?_)
    refine goes_ Tryd.func59 (by kernel_rfl) rfl #[.agg #[.int .u64 t115, .int .u64 t116], .agg #[.int .u64 a0_3, .int .u64 a0_4]] (by rfl) rfl rfl (by (try simp only [List.map_toArray, List.map_cons, List.map_nil]); first | done | rfl | (simp only [List.length_drop, List.length_take]; rfl)) ?_
    with_reducible refine (ratio_wide_plus.calls t115 t116 a0_3 a0_4 t118 t119 _ A3.out).mono ?_
    rintro e w18 ⟨rfl, hb⟩
    refine ⟨_, rfl, ?_⟩
    have n0_ := ab hb BK113
    have n1_ := ab hb BK114
    have n2_ := ab hb BK117
    have n3_ := ab hb BK122
    have n4_ := hs hb HB
    clear BK113
    clear BK114
    clear BK117
    clear BK122
    clear HB
    have BK113 := n0_
    have BK114 := n1_
    have BK117 := n2_
    have BK122 := n3_
    have HB := n4_
    clear n0_ n1_ n2_ n3_ n4_
    (try clear hb)
    (try clear hb2)
    (try clear hk)
    (try clear hi)
    refine hK.out _ _ ⟨c0 BK113.out, c1 BK113.out, c2 BK113.out, c3 BK113.out, c4 BK113.out, c0 BK117.out, c1 BK117.out⟩ (fun hHeld => ?_)
    clear hK K
    refine norm_ (a' := ?_) ?_ ?_
    rotate_left
    · show Act.put _ (some 15) _ = _
      simp only [Act.put, List.setIfInBounds_toArray, List.set_cons_zero, List.set_cons_succ, i64_w, i32_w]
      rfl
    refine one_ (i := 10) (N := some 20) #[true, true, true, true, true, true, true, true, true, true, true, false, true, false] rfl rfl (one_of HT_.out (by kernel_rfl)) (by decide) (fun K hK => ?_)
    refine goes_ Tryd.func59 (by kernel_rfl) rfl #[.agg #[.int .u64 a0_3, .int .u64 a0_4], .agg #[.int .u64 a0_3, .int .u64 a0_4]] (by rfl) rfl rfl (by (try simp only [List.map_toArray, List.map_cons, List.map_nil]); first | done | rfl | (simp only [List.length_drop, List.length_take]; rfl)) ?_
    with_reducible refine (ratio_wide_plus.calls a0_3 a0_4 a0_3 a0_4 t120 t121 _ A4.out).mono ?_
    rintro e w19 ⟨rfl, hb⟩
    refine ⟨_, rfl, ?_⟩
    have n0_ := ab hb BK113
    have n1_ := ab hb BK114
    have n2_ := ab hb BK117
    have n3_ := ab hb BK122
    have n4_ := hs hb HB
    clear BK113
    clear BK114
    clear BK117
    clear BK122
    clear HB
    have BK113 := n0_
    have BK114 := n1_
    have BK117 := n2_
    have BK122 := n3_
    have HB := n4_
    clear n0_ n1_ n2_ n3_ n4_
    (try clear hb)
    (try clear hb2)
    (try clear hk)
    (try clear hi)
    refine hK.out _ _ ⟨c0 BK113.out, c1 BK113.out, c2 BK113.out, c3 BK113.out, c4 BK113.out, c0 BK117.out, c1 BK117.out⟩ (fun hHeld => ?_)
    clear hK K
    refine norm_ (a' := ?_) ?_ ?_
    rotate_left
    · show Act.put _ (some 20) _ = _
      simp only [Act.put, List.setIfInBounds_toArray, List.set_cons_zero, List.set_cons_succ, i64_w, i32_w]
      rfl
    refine pure_ (i := 11) (N := some 21) (v := ?_) (a' := ?_) #[true, true, true, true, true, true, true, true, true, true, true, true, true, false] rfl rfl (any_of HT_.out (by kernel_rfl)) (fun _ _ _ h => h) (Or.inl ⟨by rfl, ?_⟩) ?_ ?_
    rotate_left
    · intro w'
      go_simp
      with_reducible rfl
    rotate_left
    · simp only [Act.put, List.setIfInBounds_toArray, List.set_cons_zero, List.set_cons_succ, i64_w, i32_w]
      rfl
    exact norm_ (by simp only [putAll, Act.put, List.setIfInBounds_toArray, List.set_cons_zero, List.set_cons_succ]) (hCont (gb122) _ ⟨hHeld, (bk BK113.out), (bk BK114.out), (bk BK117.out), (bk BK122.out), GW122.out, GE122.out, NB113_122.out, NB122_113.out, NB114_122.out, NB122_114.out, NB117_122.out, NB122_117.out, (bw HB.out)⟩)
  rintro gb122 w20 ⟨hS_, h0_, h1_, h2_, h3_, h4_, h5_, h6_, h7_, h8_, h9_, h10_, h11_, h12_⟩
  have n0_ : Aside0 (w20.heap[gb113]? = some (.cells #[.bool a0_0, .int .u64 a0_1, .int .u64 a0_2, .int .u64 a0_3, .int .u64 a0_4] 71 (0, 0))) := ⟨h0_⟩
  have n1_ : Aside0 (w20.heap[gb114]? = some (.cells #[.bool false, .int .u64 0, .int .u64 0, .int .u64 0, .int .u64 0] 71 (0, 0))) := ⟨h1_⟩
  have n2_ : Aside0 (w20.heap[gb117]? = some (.cells #[.int .u64 t115, .int .u64 t116] 67 (0, 0))) := ⟨h2_⟩
  have n3_ : Aside0 (w20.heap[gb122]? = some (.cells #[.bool false, .int .u64 0, .int .u64 0, .int .u64 0, .int .u64 0] 71 (0, 0))) := ⟨h3_⟩
  have n4_ : Aside0 (w.heap.size ≤ gb122) := ⟨h4_⟩
  have n5_ : Aside0 (w.heap.size ≤ gb122) := ⟨h5_⟩
  have n6_ : Aside0 (gb113 ≠ gb122) := ⟨h6_⟩
  have n7_ : Aside0 (gb122 ≠ gb113) := ⟨h7_⟩
  have n8_ : Aside0 (gb114 ≠ gb122) := ⟨h8_⟩
  have n9_ : Aside0 (gb122 ≠ gb114) := ⟨h9_⟩
  have n10_ : Aside0 (gb117 ≠ gb122) := ⟨h10_⟩
  have n11_ : Aside0 (gb122 ≠ gb117) := ⟨h11_⟩
  have n12_ : Aside0 (Below w.heap.size w w20) := ⟨h12_⟩
  clear BK113
  clear BK114
  clear BK117
  clear HB
  clear h0_ h1_ h2_ h3_ h4_ h5_ h6_ h7_ h8_ h9_ h10_ h11_ h12_
  have BK113 := n0_
  have BK114 := n1_
  have BK117 := n2_
  have BK122 := n3_
  have GW122 := n4_
  have GE122 := n5_
  have NB113_122 := n6_
  have NB122_113 := n7_
  have NB114_122 := n8_
  have NB122_114 := n9_
  have NB117_122 := n10_
  have NB122_117 := n11_
  have HB := n12_
  clear n0_ n1_ n2_ n3_ n4_ n5_ n6_ n7_ n8_ n9_ n10_ n11_ n12_
  have hHeld : w20.cell? ⟨gb113, 0, none⟩ = some (.bool a0_0) ∧ w20.cell? ⟨gb113, 1, none⟩ = some (.int .u64 a0_1) ∧ w20.cell? ⟨gb113, 2, none⟩ = some (.int .u64 a0_2) ∧ w20.cell? ⟨gb113, 3, none⟩ = some (.int .u64 a0_3) ∧ w20.cell? ⟨gb113, 4, none⟩ = some (.int .u64 a0_4) ∧ w20.cell? ⟨gb117, 0, none⟩ = some (.int .u64 t115) ∧ w20.cell? ⟨gb117, 1, none⟩ = some (.int .u64 t116) := hS_
  refine norm_ (a' := ?_) ?_ ?_
  rotate_left
  · simp only [putAll, Act.put, List.setIfInBounds_toArray, List.set_cons_zero, List.set_cons_succ]
    rfl
  refine one_ (i := 13) (N := none) #[true, true, true, true, true, true, true, true, true, true, true, true, true, true] rfl rfl (one_of HT_.out (by kernel_rfl)) (by decide) (fun K hK => ?_)
  have hs21 : w20.cell? ⟨gb122, 0, none⟩ = some (.bool false) := c0 BK122.out
  have hfs21 := blk_frozen BK122.out 0
  have hns21_0 := NB113_122.out
  have hns21_1 := NB114_122.out
  have hns21_2 := NB117_122.out
  have hms21_0 := NB122_113.out
  have hms21_1 := NB122_114.out
  have hms21_2 := NB122_117.out
  have hs22 : w20.cell? ⟨gb122, 1, none⟩ = some (.int .u64 0) := c1 BK122.out
  have hfs22 := blk_frozen BK122.out 1
  have hns22_0 := NB113_122.out
  have hns22_1 := NB114_122.out
  have hns22_2 := NB117_122.out
  have hms22_0 := NB122_113.out
  have hms22_1 := NB122_114.out
  have hms22_2 := NB122_117.out
  have hs23 : w20.cell? ⟨gb122, 2, none⟩ = some (.int .u64 0) := c2 BK122.out
  have hfs23 := blk_frozen BK122.out 2
  have hns23_0 := NB113_122.out
  have hns23_1 := NB114_122.out
  have hns23_2 := NB117_122.out
  have hms23_0 := NB122_113.out
  have hms23_1 := NB122_114.out
  have hms23_2 := NB122_117.out
  have hs24 : w20.cell? ⟨gb122, 3, none⟩ = some (.int .u64 0) := c3 BK122.out
  have hfs24 := blk_frozen BK122.out 3
  have hns24_0 := NB113_122.out
  have hns24_1 := NB114_122.out
  have hns24_2 := NB117_122.out
  have hms24_0 := NB122_113.out
  have hms24_1 := NB122_114.out
  have hms24_2 := NB122_117.out
  have hs25 : w20.cell? ⟨gb122, 4, none⟩ = some (.int .u64 0) := c4 BK122.out
  have hfs25 := blk_frozen BK122.out 4
  have hns25_0 := NB113_122.out
  have hns25_1 := NB114_122.out
  have hns25_2 := NB117_122.out
  have hms25_0 := NB122_113.out
  have hms25_1 := NB122_114.out
  have hms25_2 := NB122_117.out
  refine skip_ (w1 := ?_) (by rfl) rfl ?_ ?_
  rotate_left
  · go_simp
    rfl
  refine hK.out _ _ ⟨((cell_far (p := ⟨gb122, _, none⟩) NB113_122.out _).trans (((cell_far (p := ⟨gb122, _, none⟩) NB113_122.out _).trans (((cell_far (p := ⟨gb122, _, none⟩) NB113_122.out _).trans (((cell_far (p := ⟨gb122, _, none⟩) NB113_122.out _).trans (((cell_far (p := ⟨gb122, _, none⟩) NB113_122.out _).trans (hHeld.1)))))))))), ((cell_far (p := ⟨gb122, _, none⟩) NB113_122.out _).trans (((cell_far (p := ⟨gb122, _, none⟩) NB113_122.out _).trans (((cell_far (p := ⟨gb122, _, none⟩) NB113_122.out _).trans (((cell_far (p := ⟨gb122, _, none⟩) NB113_122.out _).trans (((cell_far (p := ⟨gb122, _, none⟩) NB113_122.out _).trans (hHeld.2.1)))))))))), ((cell_far (p := ⟨gb122, _, none⟩) NB113_122.out _).trans (((cell_far (p := ⟨gb122, _, none⟩) NB113_122.out _).trans (((cell_far (p := ⟨gb122, _, none⟩) NB113_122.out _).trans (((cell_far (p := ⟨gb122, _, none⟩) NB113_122.out _).trans (((cell_far (p := ⟨gb122, _, none⟩) NB113_122.out _).trans (hHeld.2.2.1)))))))))), ((cell_far (p := ⟨gb122, _, none⟩) NB113_122.out _).trans (((cell_far (p := ⟨gb122, _, none⟩) NB113_122.out _).trans (((cell_far (p := ⟨gb122, _, none⟩) NB113_122.out _).trans (((cell_far (p := ⟨gb122, _, none⟩) NB113_122.out _).trans (((cell_far (p := ⟨gb122, _, none⟩) NB113_122.out _).trans (hHeld.2.2.2.1)))))))))), ((cell_far (p := ⟨gb122, _, none⟩) NB113_122.out _).trans (((cell_far (p := ⟨gb122, _, none⟩) NB113_122.out _).trans (((cell_far (p := ⟨gb122, _, none⟩) NB113_122.out _).trans (((cell_far (p := ⟨gb122, _, none⟩) NB113_122.out _).trans (((cell_far (p := ⟨gb122, _, none⟩) NB113_122.out _).trans (hHeld.2.2.2.2.1)))))))))), ((cell_far (p := ⟨gb122, _, none⟩) NB117_122.out _).trans (((cell_far (p := ⟨gb122, _, none⟩) NB117_122.out _).trans (((cell_far (p := ⟨gb122, _, none⟩) NB117_122.out _).trans (((cell_far (p := ⟨gb122, _, none⟩) NB117_122.out _).trans (((cell_far (p := ⟨gb122, _, none⟩) NB117_122.out _).trans (hHeld.2.2.2.2.2.1)))))))))), ((cell_far (p := ⟨gb122, _, none⟩) NB117_122.out _).trans (((cell_far (p := ⟨gb122, _, none⟩) NB117_122.out _).trans (((cell_far (p := ⟨gb122, _, none⟩) NB117_122.out _).trans (((cell_far (p := ⟨gb122, _, none⟩) NB117_122.out _).trans (((cell_far (p := ⟨gb122, _, none⟩) NB117_122.out _).trans (hHeld.2.2.2.2.2.2))))))))))⟩ (fun hHeld => ?_)
  clear hK K
  refine done_ (done_of HT_.out (by kernel_rfl)) ?_
  go_upto_region 3 with (fail)
  go_cut [22] (fun v22 wc => ∃ (kq : Nat) (x22_4 : Bool), v22 = .bool x22_4 ∧ Aside0 (ratio_frac_half.j0 kq x22_4 a0_0 a0_1 a0_2 a0_3 a0_4 t115 t116 a0_0 t118 t119 t120 t121 = some (r1, r2, r3, r4, r5)) ∧ Aside0 (kq ≤ k) ∧ Aside0 (wc.heap[gb113]? = some (.cells #[.bool a0_0, .int .u64 a0_1, .int .u64 a0_2, .int .u64 a0_3, .int .u64 a0_4] 71 (0, 0))) ∧ Aside0 (wc.heap[gb114]? = some (.cells #[.bool false, .int .u64 0, .int .u64 0, .int .u64 0, .int .u64 0] 71 (0, 0))) ∧ Aside0 (wc.heap[gb117]? = some (.cells #[.int .u64 t115, .int .u64 t116] 67 (0, 0))) ∧ Aside0 (wc.heap[gb122]? = some (.cells #[.bool a0_0, .int .u64 t118, .int .u64 t119, .int .u64 t120, .int .u64 t121] 71 (0, 0))) ∧ Aside0 (Below w.heap.size w wc))
  case first =>
    have H := HC5.out
    clear HC5
    by_cases c26 : a0_0 = true
    · subst c26
      have H1 : ((ratio_wide_cmp.f t115 t116 a0_3 a0_4).bind fun t123 => (ratio_frac_half.j0 k (decide (t123 > 0)) true a0_1 a0_2 a0_3 a0_4 t115 t116 true t118 t119 t120 t121)) = some (r1, r2, r3, r4, r5) := by rw [if_pos rfl] at H; exact H
      clear H
      have H := H1
      clear H1
      replace H := Option.bind_eq_some_iff.mp H
      obtain ⟨t123, A270, H⟩ := H
      replace H : (ratio_frac_half.j0 k (decide (t123 > 0)) true a0_1 a0_2 a0_3 a0_4 t115 t116 true t118 t119 t120 t121) = some (r1, r2, r3, r4, r5) := H
      have A27 := Aside0.mk A270
      clear A270
      have H' := Aside0.mk H
      clear H
      have hnb28 := NB113_114.out
      have hnc28 := NB114_113.out
      have hnb29 := NB113_117.out
      have hnc29 := NB117_113.out
      have hnb30 := NB113_122.out
      have hnc30 := NB122_113.out
      obtain ⟨hcz31_0, hcz31_1, hcz31_2, hcz31_3, hcz31_4, hfz31_0, hfz31_1, hfz31_2, hfz31_3, hfz31_4⟩ := k5 BK113.out
      have hnb32 := NB117_114.out
      have hnc32 := NB114_117.out
      have hnb33 := NB117_122.out
      have hnc33 := NB122_117.out
      obtain ⟨hcz34_0, hcz34_1, hfz34_0, hfz34_1⟩ := k2 BK117.out
      go_wp2_with (first | (go_at_call 60; (with_reducible refine (ratio_wide_cmp.calls t115 t116 a0_3 a0_4 t123 _ A27.out).mono ?_); rintro e w35 ⟨rfl, hb⟩; have n0_ := ab hb BK113; have n1_ := ab hb BK114; have n2_ := ab hb BK117; have n3_ := Aside0.mk (blk_below (g := gb122) (o := .cells #[.bool true, .int .u64 t118, .int .u64 t119, .int .u64 t120, .int .u64 t121] 71 (0, 0)) (by refine bk ?_; refine blk_put (cs := #[.bool true, .int .u64 t118, .int .u64 t119, .int .u64 t120, .int .u64 0]) ?_ 4 _ rfl; refine bk ?_; refine blk_put (cs := #[.bool true, .int .u64 t118, .int .u64 t119, .int .u64 0, .int .u64 0]) ?_ 3 _ rfl; refine bk ?_; refine blk_put (cs := #[.bool true, .int .u64 t118, .int .u64 0, .int .u64 0, .int .u64 0]) ?_ 2 _ rfl; refine bk ?_; refine blk_put (cs := #[.bool true, .int .u64 0, .int .u64 0, .int .u64 0, .int .u64 0]) ?_ 1 _ rfl; refine bk ?_; refine blk_put (cs := #[.bool false, .int .u64 0, .int .u64 0, .int .u64 0, .int .u64 0]) ?_ 0 _ rfl; refine bk ?_; exact BK122.out) hb); have n4_ := hs hb HB; clear BK113; clear BK114; clear BK117; clear BK122; clear HB; have BK113 := n0_; have BK114 := n1_; have BK117 := n2_; have BK122 := n3_; have HB := n4_; clear n0_ n1_ n2_ n3_ n4_; (try clear hb); (try clear hb2); (try clear hk); (try clear hi)))
      go_meet
      case rel => exact ⟨_, (decide (t123 > 0)), (by first | rfl | (simp; done) | (simp [*]; done)), H', ⟨by first | omega | exact Nat.le_refl _⟩, ⟨by refine bk ?_; exact BK113.out⟩, ⟨by refine bk ?_; exact BK114.out⟩, ⟨by refine bk ?_; exact BK117.out⟩, ⟨by refine bk ?_; exact BK122.out⟩, ⟨by repeat (first | (with_reducible first | exact HB.out | apply below_alloc | apply pw_below_drewN | apply below_drew1 | refine below_set ?_ GE113.out | refine below_set ?_ GE114.out | refine below_set ?_ GE117.out | refine below_set ?_ GE122.out) | exact HB.out)⟩⟩
    replace c26 := Bool.eq_false_iff.mpr c26
    subst c26
    have H1 : (ratio_frac_half.j0 k false false a0_1 a0_2 a0_3 a0_4 t115 t116 false t118 t119 t120 t121) = some (r1, r2, r3, r4, r5) := by rw [if_neg (show ¬ (false = true) by decide)] at H; exact H
    clear H
    have H := H1
    clear H1
    have H' := Aside0.mk H
    clear H
    have hnb36 := NB113_114.out
    have hnc36 := NB114_113.out
    have hnb37 := NB113_117.out
    have hnc37 := NB117_113.out
    have hnb38 := NB113_122.out
    have hnc38 := NB122_113.out
    obtain ⟨hcz39_0, hcz39_1, hcz39_2, hcz39_3, hcz39_4, hfz39_0, hfz39_1, hfz39_2, hfz39_3, hfz39_4⟩ := k5 BK113.out
    go_wp2
    go_meet
    case rel => exact ⟨_, (false), (by first | rfl | (simp; done) | (simp [*]; done)), H', ⟨by first | omega | exact Nat.le_refl _⟩, ⟨by refine bk ?_; exact BK113.out⟩, ⟨by refine bk ?_; exact BK114.out⟩, ⟨by refine bk ?_; exact BK117.out⟩, ⟨by refine bk ?_; refine blk_put (cs := #[.bool false, .int .u64 t118, .int .u64 t119, .int .u64 t120, .int .u64 0]) ?_ 4 _ rfl; refine bk ?_; refine blk_put (cs := #[.bool false, .int .u64 t118, .int .u64 t119, .int .u64 0, .int .u64 0]) ?_ 3 _ rfl; refine bk ?_; refine blk_put (cs := #[.bool false, .int .u64 t118, .int .u64 0, .int .u64 0, .int .u64 0]) ?_ 2 _ rfl; refine bk ?_; refine blk_put (cs := #[.bool false, .int .u64 0, .int .u64 0, .int .u64 0, .int .u64 0]) ?_ 1 _ rfl; refine bk ?_; refine blk_put (cs := #[.bool false, .int .u64 0, .int .u64 0, .int .u64 0, .int .u64 0]) ?_ 0 _ rfl; refine bk ?_; exact BK122.out⟩, ⟨by repeat (first | (with_reducible first | exact HB.out | apply below_alloc | apply pw_below_drewN | apply below_drew1 | refine below_set ?_ GE113.out | refine below_set ?_ GE114.out | refine below_set ?_ GE117.out | refine below_set ?_ GE122.out) | exact HB.out)⟩⟩
  clear HC5
  try clear hcz14_0
  try clear hcz14_1
  try clear hcz9_0
  try clear hcz9_1
  try clear hcz9_2
  try clear hcz9_3
  try clear hcz9_4
  try clear hfz14_0
  try clear hfz14_1
  try clear hfz9_0
  try clear hfz9_1
  try clear hfz9_2
  try clear hfz9_3
  try clear hfz9_4
  obtain ⟨kq, x22_4, rfl, HA, HJ4, BK113, BK114, BK117, BK122, HB⟩ := hcut
  obtain _ | kj4 := kq
  · exact absurd HA.out (by simp [ratio_frac_half.j0])
  have H := HA.out
  clear HA
  simp only [ratio_frac_half.j0] at H
  by_cases c40 : x22_4 = true
  · subst c40
    have H1 : ((ratio_wide_minus.f t115 t116 a0_3 a0_4).bind fun bt124 => (some (a0_0, bt124.1, bt124.2, t120, t121))) = some (r1, r2, r3, r4, r5) := by rw [if_pos rfl] at H; exact H
    clear H
    have H := H1
    clear H1
    replace H := Option.bind_eq_some_iff.mp H
    obtain ⟨⟨t124, t125⟩, A410, H⟩ := H
    replace H : (some (a0_0, t124, t125, t120, t121)) = some (r1, r2, r3, r4, r5) := H
    have A41 := Aside0.mk A410
    clear A410
    simp only [Option.some.injEq, Prod.mk.injEq] at H
    obtain ⟨rfl, rfl, rfl, rfl, rfl⟩ := H
    have hnb42 := NB117_113.out
    have hnc42 := NB113_117.out
    have hnb43 := NB117_114.out
    have hnc43 := NB114_117.out
    have hnb44 := NB117_122.out
    have hnc44 := NB122_117.out
    obtain ⟨hcz45_0, hcz45_1, hfz45_0, hfz45_1⟩ := k2 BK117.out
    have hnb46 := NB113_114.out
    have hnc46 := NB114_113.out
    have hnb47 := NB113_122.out
    have hnc47 := NB122_113.out
    obtain ⟨hcz48_0, hcz48_1, hcz48_2, hcz48_3, hcz48_4, hfz48_0, hfz48_1, hfz48_2, hfz48_3, hfz48_4⟩ := k5 BK113.out
    go_wp2_with (first | ((with_reducible refine gate_callee (f := 61) rfl ?_); refine goesL_ (some 35) rfl rfl Tryd.func61 (by kernel_rfl) rfl #[.agg #[.int .u64 t115, .int .u64 t116], .agg #[.int .u64 a0_3, .int .u64 a0_4]] rfl (by (try simp only [List.map_toArray, List.map_cons, List.map_nil]); first | done | rfl | (simp only [List.length_drop, List.length_take]; rfl)) ?_; (with_reducible refine (ratio_wide_minus.calls t115 t116 a0_3 a0_4 t124 t125 _ A41.out).mono ?_); rintro e w49 ⟨rfl, hb⟩; refine ⟨_, rfl, ?_⟩; replace BK113 := ab hb BK113; replace BK114 := ab hb BK114; replace BK117 := ab hb BK117; replace BK122 := ab hb BK122; replace HB := hs hb HB; (try clear hb); (try clear hb2); (try clear hk); (try clear hi); have hnb50 := NB122_114.out; have hnc50 := NB114_122.out; obtain ⟨hcz51_0, hcz51_1, hcz51_2, hcz51_3, hcz51_4, hfz51_0, hfz51_1, hfz51_2, hfz51_3, hfz51_4⟩ := k5 BK122.out; obtain ⟨hcz52_0, hcz52_1, hcz52_2, hcz52_3, hcz52_4, hfz52_0, hfz52_1, hfz52_2, hfz52_3, hfz52_4⟩ := k5 BK114.out))
    refine bodyPost_ret (results_cell_row rfl _ _ gb114 71 #[.bool a0_0, .int .u64 t124, .int .u64 t125, .int .u64 t120, .int .u64 t121] (0, 0) _ rfl (by refine bk ?_; refine blk_put (cs := #[.bool a0_0, .int .u64 t124, .int .u64 t125, .int .u64 t120, .int .u64 0]) ?_ 4 _ rfl; refine bk ?_; refine blk_put (cs := #[.bool a0_0, .int .u64 t124, .int .u64 t125, .int .u64 0, .int .u64 0]) ?_ 3 _ rfl; refine bk ?_; refine blk_put (cs := #[.bool a0_0, .int .u64 t124, .int .u64 0, .int .u64 0, .int .u64 0]) ?_ 2 _ rfl; refine bk ?_; refine blk_put (cs := #[.bool a0_0, .int .u64 0, .int .u64 0, .int .u64 0, .int .u64 0]) ?_ 1 _ rfl; refine bk ?_; refine blk_put (cs := #[.bool false, .int .u64 0, .int .u64 0, .int .u64 0, .int .u64 0]) ?_ 0 _ rfl; refine bk ?_; exact BK114.out) Tryd.underlying71 rfl (by kernel_rfl)) rfl ?_
    exact ⟨by first | rfl | (simp [errW_none, errW_some] <;> rfl) | (simp [*, errW_none, errW_some] <;> rfl), by repeat (first | (with_reducible first | exact HB.out | apply below_alloc | apply pw_below_drewN | apply below_drew1 | refine below_set ?_ GE113.out | refine below_set ?_ GE114.out | refine below_set ?_ GE117.out | refine below_set ?_ GE122.out) | exact HB.out)⟩
  replace c40 := Bool.eq_false_iff.mpr c40
  subst c40
  have H1 : (if a0_0 = true then ((ratio_wide_minus.f a0_3 a0_4 t115 t116).bind fun bt126 => (some (false, bt126.1, bt126.2, t120, t121))) else (some (a0_0, t118, t119, t120, t121))) = some (r1, r2, r3, r4, r5) := by rw [if_neg (show ¬ (false = true) by decide)] at H; exact H
  clear H
  have H := H1
  clear H1
  by_cases c53 : a0_0 = true
  · subst c53
    have H1 : ((ratio_wide_minus.f a0_3 a0_4 t115 t116).bind fun bt126 => (some (false, bt126.1, bt126.2, t120, t121))) = some (r1, r2, r3, r4, r5) := by rw [if_pos rfl] at H; exact H
    clear H
    have H := H1
    clear H1
    replace H := Option.bind_eq_some_iff.mp H
    obtain ⟨⟨t126, t127⟩, A540, H⟩ := H
    replace H : (some (false, t126, t127, t120, t121)) = some (r1, r2, r3, r4, r5) := H
    have A54 := Aside0.mk A540
    clear A540
    simp only [Option.some.injEq, Prod.mk.injEq] at H
    obtain ⟨rfl, rfl, rfl, rfl, rfl⟩ := H
    have hnb55 := NB113_114.out
    have hnc55 := NB114_113.out
    have hnb56 := NB113_117.out
    have hnc56 := NB117_113.out
    have hnb57 := NB113_122.out
    have hnc57 := NB122_113.out
    obtain ⟨hcz58_0, hcz58_1, hcz58_2, hcz58_3, hcz58_4, hfz58_0, hfz58_1, hfz58_2, hfz58_3, hfz58_4⟩ := k5 BK113.out
    have hnb59 := NB117_114.out
    have hnc59 := NB114_117.out
    have hnb60 := NB117_122.out
    have hnc60 := NB122_117.out
    obtain ⟨hcz61_0, hcz61_1, hfz61_0, hfz61_1⟩ := k2 BK117.out
    go_wp2_with (first | ((with_reducible refine gate_callee (f := 61) rfl ?_); refine goesL_ (some 43) rfl rfl Tryd.func61 (by kernel_rfl) rfl #[.agg #[.int .u64 a0_3, .int .u64 a0_4], .agg #[.int .u64 t115, .int .u64 t116]] rfl (by (try simp only [List.map_toArray, List.map_cons, List.map_nil]); first | done | rfl | (simp only [List.length_drop, List.length_take]; rfl)) ?_; (with_reducible refine (ratio_wide_minus.calls a0_3 a0_4 t115 t116 t126 t127 _ A54.out).mono ?_); rintro e w62 ⟨rfl, hb⟩; refine ⟨_, rfl, ?_⟩; replace BK113 := ab hb BK113; replace BK114 := ab hb BK114; replace BK117 := ab hb BK117; replace BK122 := ab hb BK122; replace HB := hs hb HB; (try clear hb); (try clear hb2); (try clear hk); (try clear hi); have hnb63 := NB122_114.out; have hnc63 := NB114_122.out; obtain ⟨hcz64_0, hcz64_1, hcz64_2, hcz64_3, hcz64_4, hfz64_0, hfz64_1, hfz64_2, hfz64_3, hfz64_4⟩ := k5 BK122.out; obtain ⟨hcz65_0, hcz65_1, hcz65_2, hcz65_3, hcz65_4, hfz65_0, hfz65_1, hfz65_2, hfz65_3, hfz65_4⟩ := k5 BK114.out))
    refine bodyPost_ret (results_cell_row rfl _ _ gb114 71 #[.bool false, .int .u64 t126, .int .u64 t127, .int .u64 t120, .int .u64 t121] (0, 0) _ rfl (by refine bk ?_; refine blk_put (cs := #[.bool false, .int .u64 t126, .int .u64 t127, .int .u64 t120, .int .u64 0]) ?_ 4 _ rfl; refine bk ?_; refine blk_put (cs := #[.bool false, .int .u64 t126, .int .u64 t127, .int .u64 0, .int .u64 0]) ?_ 3 _ rfl; refine bk ?_; refine blk_put (cs := #[.bool false, .int .u64 t126, .int .u64 0, .int .u64 0, .int .u64 0]) ?_ 2 _ rfl; refine bk ?_; refine blk_put (cs := #[.bool false, .int .u64 0, .int .u64 0, .int .u64 0, .int .u64 0]) ?_ 1 _ rfl; refine bk ?_; refine blk_put (cs := #[.bool false, .int .u64 0, .int .u64 0, .int .u64 0, .int .u64 0]) ?_ 0 _ rfl; refine bk ?_; exact BK114.out) Tryd.underlying71 rfl (by kernel_rfl)) rfl ?_
    exact ⟨by first | rfl | (simp [errW_none, errW_some] <;> rfl) | (simp [*, errW_none, errW_some] <;> rfl), by repeat (first | (with_reducible first | exact HB.out | apply below_alloc | apply pw_below_drewN | apply below_drew1 | refine below_set ?_ GE113.out | refine below_set ?_ GE114.out | refine below_set ?_ GE117.out | refine below_set ?_ GE122.out) | exact HB.out)⟩
  replace c53 := Bool.eq_false_iff.mpr c53
  subst c53
  have H1 : (some (false, t118, t119, t120, t121)) = some (r1, r2, r3, r4, r5) := by rw [if_neg (show ¬ (false = true) by decide)] at H; exact H
  clear H
  have H := H1
  clear H1
  simp only [Option.some.injEq, Prod.mk.injEq] at H
  obtain ⟨rfl, rfl, rfl, rfl, rfl⟩ := H
  have hnb66 := NB113_114.out
  have hnc66 := NB114_113.out
  have hnb67 := NB113_117.out
  have hnc67 := NB117_113.out
  have hnb68 := NB113_122.out
  have hnc68 := NB122_113.out
  obtain ⟨hcz69_0, hcz69_1, hcz69_2, hcz69_3, hcz69_4, hfz69_0, hfz69_1, hfz69_2, hfz69_3, hfz69_4⟩ := k5 BK113.out
  have hnb70 := NB122_114.out
  have hnc70 := NB114_122.out
  have hnb71 := NB122_117.out
  have hnc71 := NB117_122.out
  obtain ⟨hcz72_0, hcz72_1, hcz72_2, hcz72_3, hcz72_4, hfz72_0, hfz72_1, hfz72_2, hfz72_3, hfz72_4⟩ := k5 BK122.out
  have hnb73 := NB114_117.out
  have hnc73 := NB117_114.out
  obtain ⟨hcz74_0, hcz74_1, hcz74_2, hcz74_3, hcz74_4, hfz74_0, hfz74_1, hfz74_2, hfz74_3, hfz74_4⟩ := k5 BK114.out
  go_wp2
  refine bodyPost_ret (results_cell_row rfl _ _ gb114 71 #[.bool false, .int .u64 t118, .int .u64 t119, .int .u64 t120, .int .u64 t121] (0, 0) _ rfl (by refine bk ?_; refine blk_put (cs := #[.bool false, .int .u64 t118, .int .u64 t119, .int .u64 t120, .int .u64 0]) ?_ 4 _ rfl; refine bk ?_; refine blk_put (cs := #[.bool false, .int .u64 t118, .int .u64 t119, .int .u64 0, .int .u64 0]) ?_ 3 _ rfl; refine bk ?_; refine blk_put (cs := #[.bool false, .int .u64 t118, .int .u64 0, .int .u64 0, .int .u64 0]) ?_ 2 _ rfl; refine bk ?_; refine blk_put (cs := #[.bool false, .int .u64 0, .int .u64 0, .int .u64 0, .int .u64 0]) ?_ 1 _ rfl; refine bk ?_; refine blk_put (cs := #[.bool false, .int .u64 0, .int .u64 0, .int .u64 0, .int .u64 0]) ?_ 0 _ rfl; refine bk ?_; exact BK114.out) Tryd.underlying71 rfl (by kernel_rfl)) rfl ?_
  exact ⟨by first | rfl | (simp [errW_none, errW_some] <;> rfl) | (simp [*, errW_none, errW_some] <;> rfl), by repeat (first | (with_reducible first | exact HB.out | apply below_alloc | apply pw_below_drewN | apply below_drew1 | refine below_set ?_ GE113.out | refine below_set ?_ GE114.out | refine below_set ?_ GE117.out | refine below_set ?_ GE122.out) | exact HB.out)⟩

end Go.Proofs.YtofndakpenpkbaaDoor.PW

namespace Go.Proofs.YtofndakpenpkbaaDoor.PW
open Go.Proofs.YtofndakpenpkbaaDoor.PA
open Go.RowKit Go.Proofs.YtofndakpenpkbaaDoorW.PrintWords Go.Proofs.YtofndakpenpkbaaDoorW.PrintLast Go.Proofs.YtofndakpenpkbaaDoorW.PrintMore
set_option linter.unusedVariables false
set_option linter.unusedSimpArgs false

/-! ### ratio_frac_whole: function 67 -/
def ratio_frac_whole.j0 : Nat → Bool → Int → Int → Option (Int × Int)
  | 0, _, _, _ => none
  | k + 1, x7, x130000, x130001 => (ratio_small.f 4611686018427387904).bind fun bt144 => ((ratio_wide_cmp.f x130000 x130001 bt144.1 bt144.2).bind fun t146 => (if t146 > 0 then (some (0, 12)) else (if x7 = true then (some (wrap64 (-(wrap64 (x130001))), 0)) else (some (wrap64 (x130001), 0)))))
def ratio_frac_whole.f (k : Nat) (a0_0 : Bool) (a0_1 : Int) (a0_2 : Int) (a0_3 : Int) (a0_4 : Int) (a1 : Int) : Option (Int × Int) := if a1 = 1 then ((ratio_frac_floor.f k a0_0 a0_1 a0_2 a0_3 a0_4).bind fun bt130 => (ratio_frac_whole.j0 k bt130.2.2 bt130.1 bt130.2.1)) else (if a1 = 2 then ((ratio_frac_half.f k a0_0 a0_1 a0_2 a0_3 a0_4).bind fun bt133 => ((ratio_frac_floor.f k bt133.1 bt133.2.1 bt133.2.2.1 bt133.2.2.2.1 bt133.2.2.2.2).bind fun bt138 => (ratio_frac_whole.j0 k bt138.2.2 bt138.1 bt138.2.1))) else (if a1 = 3 then ((ratio_frac_floor.f k (!a0_0) a0_1 a0_2 a0_3 a0_4).bind fun bt141 => (ratio_frac_whole.j0 k (!bt141.2.2) bt141.1 bt141.2.1)) else (some (0, 1))))
set_option maxHeartbeats 8000000 in
set_option maxRecDepth 100000 in
theorem ratio_frac_whole.calls (k : Nat) (a0_0 : Bool) (a0_1 : Int) (a0_2 : Int) (a0_3 : Int) (a0_4 : Int) (a1 : Int) (r1 : Int) (r2 : Int) (w : World) (h : ratio_frac_whole.f k a0_0 a0_1 a0_2 a0_3 a0_4 a1 = some (r1, r2)) :
    Calls Tryd.prog 67 #[.agg #[.bool a0_0, .int .u64 a0_1, .int .u64 a0_2, .int .u64 a0_3, .int .u64 a0_4], .int .i64 a1] w fun e w' => e = .returned (.tuple #[.int .i64 r1, .int .i64 r2]) ∧ Below w.heap.size w w' := by
  have hu71 := Tryd.underlying71
  have hu67 := Tryd.underlying67
  have HB := Aside0.mk (Below.refl w.heap.size w)
  have H : (if a1 = 1 then ((ratio_frac_floor.f k a0_0 a0_1 a0_2 a0_3 a0_4).bind fun bt130 => (ratio_frac_whole.j0 k bt130.2.2 bt130.1 bt130.2.1)) else (if a1 = 2 then ((ratio_frac_half.f k a0_0 a0_1 a0_2 a0_3 a0_4).bind fun bt133 => ((ratio_frac_floor.f k bt133.1 bt133.2.1 bt133.2.2.1 bt133.2.2.2.1 bt133.2.2.2.2).bind fun bt138 => (ratio_frac_whole.j0 k bt138.2.2 bt138.1 bt138.2.1))) else (if a1 = 3 then ((ratio_frac_floor.f k (!a0_0) a0_1 a0_2 a0_3 a0_4).bind fun bt141 => (ratio_frac_whole.j0 k (!bt141.2.2) bt141.1 bt141.2.1)) else (some (0, 1))))) = some (r1, r2) := h
  clear h
  have HC3 := Aside0.mk H
  clear H
  go_enter Tryd.func67, Tryd.ntmps67
  go_upto_block 0 with (first | ((with_reducible refine gate_dst (N := 2) rfl ?_); refine box_event ?hg (N := 2) ?hd (cs := #[.bool a0_0, .int .u64 a0_1, .int .u64 a0_2, .int .u64 a0_3, .int .u64 a0_4]) (t := 71) ?hr ?_; (case hd => rfl); (case hg => rfl); (case hr => first | (go_simp; done) | (go_simp; rfl)); intro gb128 hg w4 hbox hb; have BK128 := Aside0.mk (hbox); have GW128 := ag hg HB; have GE128 := ag hg HB; replace HB := hs hb HB; clear hb hbox hg) | ((with_reducible refine gate_dst (N := 6) rfl ?_); refine box_event ?hg (N := 6) ?hd (cs := #[.int .u64 0, .int .u64 0]) (t := 67) ?hr ?_; (case hd => rfl); (case hg => rfl); (case hr => first | (go_simp; done) | (go_simp; rfl)); intro gb129 hg w5 hbox hb; have BK129 := Aside0.mk (hbox); have GW129 := ag hg HB; have GE129 := ag hg HB; have NB128_129 := na hg BK128; have NB129_128 := nb hg BK128; replace BK128 := ab hb BK128; replace HB := hs hb HB; clear hb hbox hg))
  (try simp only [Act.put, List.setIfInBounds_toArray, List.set_cons_zero, List.set_cons_succ])
  go_cut [7] (fun v7 wc => ∃ (kq : Nat) (x7_2 : Bool) (x129000_2 : Bool) (x130000_2 : Int) (x130001_2 : Int), v7 = .bool x7_2 ∧ Aside0 (ratio_frac_whole.j0 kq x7_2 x130000_2 x130001_2 = some (r1, r2)) ∧ Aside0 (kq ≤ k) ∧ Aside0 (wc.heap[gb128]? = some (.cells #[.bool x129000_2, .int .u64 a0_1, .int .u64 a0_2, .int .u64 a0_3, .int .u64 a0_4] 71 (0, 0))) ∧ Aside0 (wc.heap[gb129]? = some (.cells #[.int .u64 x130000_2, .int .u64 x130001_2] 67 (0, 0))) ∧ Aside0 (Below w.heap.size w wc))
  case first =>
    have H := HC3.out
    clear HC3
    by_cases c6 : a1 = 1
    · rw [if_pos c6] at H
      have c6b0 : (a1 == 1) = true := beq_iff_eq.mpr c6
      have c6b1 : (a1 != 1) = false := bne_eq_false_iff_eq.mpr c6
      clear c6
      (first | rw [c6b0] | (simp only [i64_w, i32_w]; rw [c6b0]) | skip)
      replace H := Option.bind_eq_some_iff.mp H
      obtain ⟨⟨t130, t131, t132⟩, A70, H⟩ := H
      replace H : (ratio_frac_whole.j0 k t132 t130 t131) = some (r1, r2) := H
      have A7 := Aside0.mk A70
      clear A70
      have H' := Aside0.mk H
      clear H
      have hnb8 := NB128_129.out
      have hnc8 := NB129_128.out
      obtain ⟨hcz9_0, hcz9_1, hcz9_2, hcz9_3, hcz9_4, hfz9_0, hfz9_1, hfz9_2, hfz9_3, hfz9_4⟩ := k5 BK128.out
      go_wp2_with (first | ((with_reducible refine gate_callee (f := 90) rfl ?_); refine goesL_ (some 13) rfl rfl Tryd.func90 (by kernel_rfl) rfl #[.agg #[.bool a0_0, .int .u64 a0_1, .int .u64 a0_2, .int .u64 a0_3, .int .u64 a0_4]] rfl (by (try simp only [List.map_toArray, List.map_cons, List.map_nil]); first | done | rfl | (simp only [List.length_drop, List.length_take]; rfl)) ?_; (with_reducible refine (ratio_frac_floor.calls k a0_0 a0_1 a0_2 a0_3 a0_4 t130 t131 t132 _ A7.out).mono ?_); rintro e w10 ⟨rfl, hb⟩; refine ⟨_, rfl, ?_⟩; replace BK128 := ab hb BK128; replace BK129 := ab hb BK129; replace HB := hs hb HB; (try clear hb); (try clear hb2); (try clear hk); (try clear hi); obtain ⟨hcz11_0, hcz11_1, hfz11_0, hfz11_1⟩ := k2 BK129.out))
      go_meet
      case rel => exact ⟨_, (t132), (a0_0), (t130), (t131), (by first | rfl | (simp; done) | (simp [*]; done)), H', ⟨by first | omega | exact Nat.le_refl _⟩, ⟨by refine bk ?_; exact BK128.out⟩, ⟨by refine bk ?_; refine blk_put (cs := #[.int .u64 t130, .int .u64 0]) ?_ 1 _ rfl; refine bk ?_; refine blk_put (cs := #[.int .u64 0, .int .u64 0]) ?_ 0 _ rfl; refine bk ?_; exact BK129.out⟩, ⟨by repeat (first | (with_reducible first | exact HB.out | apply below_alloc | apply pw_below_drewN | apply below_drew1 | refine below_set ?_ GE128.out | refine below_set ?_ GE129.out) | exact HB.out)⟩⟩
    rw [if_neg c6] at H
    have c6b0 : (a1 == 1) = false := beq_eq_false_iff_ne.mpr c6
    have c6b1 : (a1 != 1) = true := bne_iff_ne.mpr c6
    (first | rw [c6b0] | (simp only [i64_w, i32_w]; rw [c6b0]) | skip)
    by_cases c12 : a1 = 2
    · rw [if_pos c12] at H
      have c12b0 : (a1 == 2) = true := beq_iff_eq.mpr c12
      have c12b1 : (a1 != 2) = false := bne_eq_false_iff_eq.mpr c12
      clear c12
      replace H := Option.bind_eq_some_iff.mp H
      obtain ⟨⟨t133, t134, t135, t136, t137⟩, A130, H⟩ := H
      replace H : ((ratio_frac_floor.f k t133 t134 t135 t136 t137).bind fun bt138 => (ratio_frac_whole.j0 k bt138.2.2 bt138.1 bt138.2.1)) = some (r1, r2) := H
      have A13 := Aside0.mk A130
      clear A130
      replace H := Option.bind_eq_some_iff.mp H
      obtain ⟨⟨t138, t139, t140⟩, A140, H⟩ := H
      replace H : (ratio_frac_whole.j0 k t140 t138 t139) = some (r1, r2) := H
      have A14 := Aside0.mk A140
      clear A140
      have H' := Aside0.mk H
      clear H
      have hnb15 := NB128_129.out
      have hnc15 := NB129_128.out
      obtain ⟨hcz16_0, hcz16_1, hcz16_2, hcz16_3, hcz16_4, hfz16_0, hfz16_1, hfz16_2, hfz16_3, hfz16_4⟩ := k5 BK128.out
      go_wp2_with (first | ((with_reducible refine gate_callee (f := 91) rfl ?_); refine goesL_ (some 20) rfl rfl Tryd.func91 (by kernel_rfl) rfl #[.agg #[.bool a0_0, .int .u64 a0_1, .int .u64 a0_2, .int .u64 a0_3, .int .u64 a0_4]] rfl (by (try simp only [List.map_toArray, List.map_cons, List.map_nil]); first | done | rfl | (simp only [List.length_drop, List.length_take]; rfl)) ?_; (with_reducible refine (ratio_frac_half.calls k a0_0 a0_1 a0_2 a0_3 a0_4 t133 t134 t135 t136 t137 _ A13.out).mono ?_); rintro e w17 ⟨rfl, hb⟩; refine ⟨_, rfl, ?_⟩; replace BK128 := ab hb BK128; replace BK129 := ab hb BK129; replace HB := hs hb HB; (try clear hb); (try clear hb2); (try clear hk); (try clear hi)) | ((with_reducible refine gate_callee (f := 90) rfl ?_); refine goesL_ (some 21) rfl rfl Tryd.func90 (by kernel_rfl) rfl #[.agg #[.bool t133, .int .u64 t134, .int .u64 t135, .int .u64 t136, .int .u64 t137]] rfl (by (try simp only [List.map_toArray, List.map_cons, List.map_nil]); first | done | rfl | (simp only [List.length_drop, List.length_take]; rfl)) ?_; (with_reducible refine (ratio_frac_floor.calls k t133 t134 t135 t136 t137 t138 t139 t140 _ A14.out).mono ?_); rintro e w18 ⟨rfl, hb⟩; refine ⟨_, rfl, ?_⟩; replace BK128 := ab hb BK128; replace BK129 := ab hb BK129; replace HB := hs hb HB; (try clear hb); (try clear hb2); (try clear hk); (try clear hi); obtain ⟨hcz19_0, hcz19_1, hfz19_0, hfz19_1⟩ := k2 BK129.out))
      go_meet
      case rel => exact ⟨_, (t140), (a0_0), (t138), (t139), (by first | rfl | (simp; done) | (simp [*]; done)), H', ⟨by first | omega | exact Nat.le_refl _⟩, ⟨by refine bk ?_; exact BK128.out⟩, ⟨by refine bk ?_; refine blk_put (cs := #[.int .u64 t138, .int .u64 0]) ?_ 1 _ rfl; refine bk ?_; refine blk_put (cs := #[.int .u64 0, .int .u64 0]) ?_ 0 _ rfl; refine bk ?_; exact BK129.out⟩, ⟨by repeat (first | (with_reducible first | exact HB.out | apply below_alloc | apply pw_below_drewN | apply below_drew1 | refine below_set ?_ GE128.out | refine below_set ?_ GE129.out) | exact HB.out)⟩⟩
    rw [if_neg c12] at H
    have c12b0 : (a1 == 2) = false := beq_eq_false_iff_ne.mpr c12
    have c12b1 : (a1 != 2) = true := bne_iff_ne.mpr c12
    by_cases c20 : a1 = 3
    · rw [if_pos c20] at H
      have c20b0 : (a1 == 3) = true := beq_iff_eq.mpr c20
      have c20b1 : (a1 != 3) = false := bne_eq_false_iff_eq.mpr c20
      clear c20
      replace H := Option.bind_eq_some_iff.mp H
      obtain ⟨⟨t141, t142, t143⟩, A210, H⟩ := H
      replace H : (ratio_frac_whole.j0 k (!t143) t141 t142) = some (r1, r2) := H
      have A21 := Aside0.mk A210
      clear A210
      have H' := Aside0.mk H
      clear H
      have hnb22 := NB128_129.out
      have hnc22 := NB129_128.out
      obtain ⟨hcz23_0, hcz23_1, hcz23_2, hcz23_3, hcz23_4, hfz23_0, hfz23_1, hfz23_2, hfz23_3, hfz23_4⟩ := k5 BK128.out
      go_wp2_with (first | ((with_reducible refine gate_callee (f := 90) rfl ?_); refine goesL_ (some 32) rfl rfl Tryd.func90 (by kernel_rfl) rfl #[.agg #[.bool (!a0_0), .int .u64 a0_1, .int .u64 a0_2, .int .u64 a0_3, .int .u64 a0_4]] rfl (by (try simp only [List.map_toArray, List.map_cons, List.map_nil]); first | done | rfl | (simp only [List.length_drop, List.length_take]; rfl)) ?_; (with_reducible refine (ratio_frac_floor.calls k (!a0_0) a0_1 a0_2 a0_3 a0_4 t141 t142 t143 _ A21.out).mono ?_); rintro e w24 ⟨rfl, hb⟩; refine ⟨_, rfl, ?_⟩; have n0_ := Aside0.mk (blk_below (g := gb128) (o := .cells #[.bool (!a0_0), .int .u64 a0_1, .int .u64 a0_2, .int .u64 a0_3, .int .u64 a0_4] 71 (0, 0)) (by refine bk ?_; refine blk_put (cs := #[.bool a0_0, .int .u64 a0_1, .int .u64 a0_2, .int .u64 a0_3, .int .u64 a0_4]) ?_ 0 _ rfl; refine bk ?_; exact BK128.out) hb); have n1_ := ab hb BK129; have n2_ := hs hb HB; clear BK128; clear BK129; clear HB; have BK128 := n0_; have BK129 := n1_; have HB := n2_; clear n0_ n1_ n2_; (try clear hb); (try clear hb2); (try clear hk); (try clear hi); obtain ⟨hcz25_0, hcz25_1, hfz25_0, hfz25_1⟩ := k2 BK129.out))
      go_meet
      case rel => exact ⟨_, (!t143), (!a0_0), (t141), (t142), (by first | rfl | (simp; done) | (simp [*]; done)), H', ⟨by first | omega | exact Nat.le_refl _⟩, ⟨by refine bk ?_; exact BK128.out⟩, ⟨by refine bk ?_; refine blk_put (cs := #[.int .u64 t141, .int .u64 0]) ?_ 1 _ rfl; refine bk ?_; refine blk_put (cs := #[.int .u64 0, .int .u64 0]) ?_ 0 _ rfl; refine bk ?_; exact BK129.out⟩, ⟨by repeat (first | (with_reducible first | exact HB.out | apply below_alloc | apply pw_below_drewN | apply below_drew1 | refine below_set ?_ GE128.out | refine below_set ?_ GE129.out) | exact HB.out)⟩⟩
    rw [if_neg c20] at H
    have c20b0 : (a1 == 3) = false := beq_eq_false_iff_ne.mpr c20
    have c20b1 : (a1 != 3) = true := bne_iff_ne.mpr c20
    simp only [Option.some.injEq, Prod.mk.injEq] at H
    obtain ⟨rfl, rfl⟩ := H
    go_wp2
    go_ret2
    exact ⟨by first | rfl | (simp [errW_none, errW_some] <;> rfl) | (simp [*, errW_none, errW_some] <;> rfl), by repeat (first | (with_reducible first | exact HB.out | apply below_alloc | apply pw_below_drewN | apply below_drew1 | refine below_set ?_ GE128.out | refine below_set ?_ GE129.out) | exact HB.out)⟩
  clear HC3
  obtain ⟨kq, x7_2, x129000_2, x130000_2, x130001_2, rfl, HA, HJ2, BK128, BK129, HB⟩ := hcut
  obtain _ | kj2 := kq
  · exact absurd HA.out (by simp [ratio_frac_whole.j0])
  have H := HA.out
  clear HA
  simp only [ratio_frac_whole.j0] at H
  replace H := Option.bind_eq_some_iff.mp H
  obtain ⟨⟨t144, t145⟩, A260, H⟩ := H
  replace H : ((ratio_wide_cmp.f x130000_2 x130001_2 t144 t145).bind fun t146 => (if t146 > 0 then (some (0, 12)) else (if x7_2 = true then (some (wrap64 (-(wrap64 (x130001_2))), 0)) else (some (wrap64 (x130001_2), 0))))) = some (r1, r2) := H
  have A26 := Aside0.mk A260
  clear A260
  replace H := Option.bind_eq_some_iff.mp H
  obtain ⟨t146, A270, H⟩ := H
  replace H : (if t146 > 0 then (some (0, 12)) else (if x7_2 = true then (some (wrap64 (-(wrap64 (x130001_2))), 0)) else (some (wrap64 (x130001_2), 0)))) = some (r1, r2) := H
  have A27 := Aside0.mk A270
  clear A270
  by_cases c28 : t146 > 0
  · rw [if_pos c28] at H
    have c28b0 : decide (0 < t146) = true := decide_eq_true c28
    clear c28
    simp only [Option.some.injEq, Prod.mk.injEq] at H
    obtain ⟨rfl, rfl⟩ := H
    try go_wp2
    have n0_ := Aside0.mk (blk_drew BK128.out)
    have n1_ := Aside0.mk (blk_drew BK129.out)
    have n2_ := Aside0.mk (below_drew1 HB.out)
    clear BK128
    clear BK129
    clear HB
    have BK128 := n0_
    have BK129 := n1_
    have HB := n2_
    clear n0_ n1_ n2_
    refine start_ (n := 5) (S := fun w' => w'.cell? ⟨gb129, 0, none⟩ = some (.int .u64 x130000_2) ∧ w'.cell? ⟨gb129, 1, none⟩ = some (.int .u64 x130001_2)) (ds := []) #[false, false, false, false, false] (by kernel_rfl) rfl rfl ⟨c0 BK129.out, c1 BK129.out⟩ (fun hHeld => ?_)
    generalize wc.drew = w29 at BK128 BK129 HB hHeld ⊢
    refine take_ (i := 0) (N := some 38) (v := ?_) (a' := ?_) #[true, false, false, false, false] rfl rfl (by kernel_rfl) (fun _ _ _ h => h) (Or.inl ⟨by rfl, ?_⟩) hHeld ?_ ?_
    rotate_left
    · rintro w' ⟨s0, s1⟩
      go_simp
      with_reducible rfl
    rotate_left
    · simp only [Act.put, List.setIfInBounds_toArray, List.set_cons_zero, List.set_cons_succ, i64_w, i32_w]
      rfl
    refine one_ (i := 1) (N := some 39) #[true, true, false, false, false] rfl rfl (by kernel_rfl) (by decide) (fun K hK => ?_)
    refine goes_ Tryd.func49 (by kernel_rfl) rfl #[.int .u64 4611686018427387904] (by rfl) rfl rfl (by (try simp only [List.map_toArray, List.map_cons, List.map_nil]); first | done | rfl | (simp only [List.length_drop, List.length_take]; rfl)) ?_
    with_reducible refine (ratio_small.calls 4611686018427387904 t144 t145 _ A26.out).mono ?_
    rintro e w30 ⟨rfl, hb⟩
    refine ⟨_, rfl, ?_⟩
    have n0_ := ab hb BK128
    have n1_ := ab hb BK129
    have n2_ := hs hb HB
    clear BK128
    clear BK129
    clear HB
    have BK128 := n0_
    have BK129 := n1_
    have HB := n2_
    clear n0_ n1_ n2_
    (try clear hb)
    (try clear hb2)
    (try clear hk)
    (try clear hi)
    refine hK.out _ _ ⟨c0 BK129.out, c1 BK129.out⟩ (fun hHeld => ?_)
    clear hK K
    refine norm_ (a' := ?_) ?_ ?_
    rotate_left
    · show Act.put _ (some 39) _ = _
      simp only [Act.put, List.setIfInBounds_toArray, List.set_cons_zero, List.set_cons_succ, i64_w, i32_w]
      rfl
    refine one_ (i := 2) (N := some 40) #[true, true, true, false, false] rfl rfl (by kernel_rfl) (by decide) (fun K hK => ?_)
    refine goes_ Tryd.func60 (by kernel_rfl) rfl #[.agg #[.int .u64 x130000_2, .int .u64 x130001_2], .agg #[.int .u64 t144, .int .u64 t145]] (by rfl) rfl rfl (by (try simp only [List.map_toArray, List.map_cons, List.map_nil]); first | done | rfl | (simp only [List.length_drop, List.length_take]; rfl)) ?_
    with_reducible refine (ratio_wide_cmp.calls x130000_2 x130001_2 t144 t145 t146 _ A27.out).mono ?_
    rintro e w31 ⟨rfl, hb⟩
    refine ⟨_, rfl, ?_⟩
    have n0_ := ab hb BK128
    have n1_ := ab hb BK129
    have n2_ := hs hb HB
    clear BK128
    clear BK129
    clear HB
    have BK128 := n0_
    have BK129 := n1_
    have HB := n2_
    clear n0_ n1_ n2_
    (try clear hb)
    (try clear hb2)
    (try clear hk)
    (try clear hi)
    refine hK.out _ _ ⟨c0 BK129.out, c1 BK129.out⟩ (fun hHeld => ?_)
    clear hK K
    refine norm_ (a' := ?_) ?_ ?_
    rotate_left
    · show Act.put _ (some 40) _ = _
      simp only [Act.put, List.setIfInBounds_toArray, List.set_cons_zero, List.set_cons_succ, i64_w, i32_w]
      rfl
    refine pure_ (i := 3) (N := some 41) (v := ?_) (a' := ?_) #[true, true, true, true, false] rfl rfl (by kernel_rfl) (fun _ _ _ h => h) (Or.inl ⟨by rfl, ?_⟩) ?_ ?_
    rotate_left
    · intro w'
      go_simp
      with_reducible rfl
    rotate_left
    · simp only [Act.put, List.setIfInBounds_toArray, List.set_cons_zero, List.set_cons_succ, i64_w, i32_w]
      rfl
    refine pure_ (i := 4) (N := some 37) (v := ?_) (a' := ?_) #[true, true, true, true, true] rfl rfl (by kernel_rfl) (fun _ _ _ h => h) (Or.inl ⟨by rfl, ?_⟩) ?_ ?_
    rotate_left
    · intro w'
      go_simp
      with_reducible rfl
    rotate_left
    · simp only [Act.put, List.setIfInBounds_toArray, List.set_cons_zero, List.set_cons_succ, i64_w, i32_w]
      rfl
    refine done_ (by kernel_rfl) ?_
    try go_wp2
    go_ret2
    exact ⟨by first | rfl | (simp [errW_none, errW_some] <;> rfl) | (simp [*, errW_none, errW_some] <;> rfl), by repeat (first | (with_reducible first | exact HB.out | apply below_alloc | apply pw_below_drewN | apply below_drew1 | refine below_set ?_ GE128.out | refine below_set ?_ GE129.out) | exact HB.out)⟩
  rw [if_neg c28] at H
  have c28b0 : decide (0 < t146) = false := decide_eq_false c28
  clear c28
  by_cases c32 : x7_2 = true
  · subst c32
    have H1 : (some (wrap64 (-(wrap64 (x130001_2))), 0)) = some (r1, r2) := by rw [if_pos rfl] at H; exact H
    clear H
    have H := H1
    clear H1
    simp only [Option.some.injEq, Prod.mk.injEq] at H
    obtain ⟨rfl, rfl⟩ := H
    try go_wp2
    have n0_ := Aside0.mk (blk_drew BK128.out)
    have n1_ := Aside0.mk (blk_drew BK129.out)
    have n2_ := Aside0.mk (below_drew1 HB.out)
    clear BK128
    clear BK129
    clear HB
    have BK128 := n0_
    have BK129 := n1_
    have HB := n2_
    clear n0_ n1_ n2_
    refine start_ (n := 5) (S := fun w' => w'.cell? ⟨gb129, 0, none⟩ = some (.int .u64 x130000_2) ∧ w'.cell? ⟨gb129, 1, none⟩ = some (.int .u64 x130001_2)) (ds := []) #[false, false, false, false, false] (by kernel_rfl) rfl rfl ⟨c0 BK129.out, c1 BK129.out⟩ (fun hHeld => ?_)
    generalize wc.drew = w33 at BK128 BK129 HB hHeld ⊢
    refine take_ (i := 0) (N := some 38) (v := ?_) (a' := ?_) #[true, false, false, false, false] rfl rfl (by kernel_rfl) (fun _ _ _ h => h) (Or.inl ⟨by rfl, ?_⟩) hHeld ?_ ?_
    rotate_left
    · rintro w' ⟨s0, s1⟩
      go_simp
      with_reducible rfl
    rotate_left
    · simp only [Act.put, List.setIfInBounds_toArray, List.set_cons_zero, List.set_cons_succ, i64_w, i32_w]
      rfl
    refine one_ (i := 1) (N := some 39) #[true, true, false, false, false] rfl rfl (by kernel_rfl) (by decide) (fun K hK => ?_)
    refine goes_ Tryd.func49 (by kernel_rfl) rfl #[.int .u64 4611686018427387904] (by rfl) rfl rfl (by (try simp only [List.map_toArray, List.map_cons, List.map_nil]); first | done | rfl | (simp only [List.length_drop, List.length_take]; rfl)) ?_
    with_reducible refine (ratio_small.calls 4611686018427387904 t144 t145 _ A26.out).mono ?_
    rintro e w34 ⟨rfl, hb⟩
    refine ⟨_, rfl, ?_⟩
    have n0_ := ab hb BK128
    have n1_ := ab hb BK129
    have n2_ := hs hb HB
    clear BK128
    clear BK129
    clear HB
    have BK128 := n0_
    have BK129 := n1_
    have HB := n2_
    clear n0_ n1_ n2_
    (try clear hb)
    (try clear hb2)
    (try clear hk)
    (try clear hi)
    refine hK.out _ _ ⟨c0 BK129.out, c1 BK129.out⟩ (fun hHeld => ?_)
    clear hK K
    refine norm_ (a' := ?_) ?_ ?_
    rotate_left
    · show Act.put _ (some 39) _ = _
      simp only [Act.put, List.setIfInBounds_toArray, List.set_cons_zero, List.set_cons_succ, i64_w, i32_w]
      rfl
    refine one_ (i := 2) (N := some 40) #[true, true, true, false, false] rfl rfl (by kernel_rfl) (by decide) (fun K hK => ?_)
    refine goes_ Tryd.func60 (by kernel_rfl) rfl #[.agg #[.int .u64 x130000_2, .int .u64 x130001_2], .agg #[.int .u64 t144, .int .u64 t145]] (by rfl) rfl rfl (by (try simp only [List.map_toArray, List.map_cons, List.map_nil]); first | done | rfl | (simp only [List.length_drop, List.length_take]; rfl)) ?_
    with_reducible refine (ratio_wide_cmp.calls x130000_2 x130001_2 t144 t145 t146 _ A27.out).mono ?_
    rintro e w35 ⟨rfl, hb⟩
    refine ⟨_, rfl, ?_⟩
    have n0_ := ab hb BK128
    have n1_ := ab hb BK129
    have n2_ := hs hb HB
    clear BK128
    clear BK129
    clear HB
    have BK128 := n0_
    have BK129 := n1_
    have HB := n2_
    clear n0_ n1_ n2_
    (try clear hb)
    (try clear hb2)
    (try clear hk)
    (try clear hi)
    refine hK.out _ _ ⟨c0 BK129.out, c1 BK129.out⟩ (fun hHeld => ?_)
    clear hK K
    refine norm_ (a' := ?_) ?_ ?_
    rotate_left
    · show Act.put _ (some 40) _ = _
      simp only [Act.put, List.setIfInBounds_toArray, List.set_cons_zero, List.set_cons_succ, i64_w, i32_w]
      rfl
    refine pure_ (i := 3) (N := some 41) (v := ?_) (a' := ?_) #[true, true, true, true, false] rfl rfl (by kernel_rfl) (fun _ _ _ h => h) (Or.inl ⟨by rfl, ?_⟩) ?_ ?_
    rotate_left
    · intro w'
      go_simp
      with_reducible rfl
    rotate_left
    · simp only [Act.put, List.setIfInBounds_toArray, List.set_cons_zero, List.set_cons_succ, i64_w, i32_w]
      rfl
    refine pure_ (i := 4) (N := some 37) (v := ?_) (a' := ?_) #[true, true, true, true, true] rfl rfl (by kernel_rfl) (fun _ _ _ h => h) (Or.inl ⟨by rfl, ?_⟩) ?_ ?_
    rotate_left
    · intro w'
      go_simp
      with_reducible rfl
    rotate_left
    · simp only [Act.put, List.setIfInBounds_toArray, List.set_cons_zero, List.set_cons_succ, i64_w, i32_w]
      rfl
    refine done_ (by kernel_rfl) ?_
    have hnb36 := NB129_128.out
    have hnc36 := NB128_129.out
    obtain ⟨hcz37_0, hcz37_1, hfz37_0, hfz37_1⟩ := k2 BK129.out
    try go_wp2
    go_ret2
    exact ⟨by first | rfl | (simp [errW_none, errW_some] <;> rfl) | (simp [*, errW_none, errW_some] <;> rfl), by repeat (first | (with_reducible first | exact HB.out | apply below_alloc | apply pw_below_drewN | apply below_drew1 | refine below_set ?_ GE128.out | refine below_set ?_ GE129.out) | exact HB.out)⟩
  replace c32 := Bool.eq_false_iff.mpr c32
  subst c32
  have H1 : (some (wrap64 (x130001_2), 0)) = some (r1, r2) := by rw [if_neg (show ¬ (false = true) by decide)] at H; exact H
  clear H
  have H := H1
  clear H1
  simp only [Option.some.injEq, Prod.mk.injEq] at H
  obtain ⟨rfl, rfl⟩ := H
  try go_wp2
  have n0_ := Aside0.mk (blk_drew BK128.out)
  have n1_ := Aside0.mk (blk_drew BK129.out)
  have n2_ := Aside0.mk (below_drew1 HB.out)
  clear BK128
  clear BK129
  clear HB
  have BK128 := n0_
  have BK129 := n1_
  have HB := n2_
  clear n0_ n1_ n2_
  refine start_ (n := 5) (S := fun w' => w'.cell? ⟨gb129, 0, none⟩ = some (.int .u64 x130000_2) ∧ w'.cell? ⟨gb129, 1, none⟩ = some (.int .u64 x130001_2)) (ds := []) #[false, false, false, false, false] (by kernel_rfl) rfl rfl ⟨c0 BK129.out, c1 BK129.out⟩ (fun hHeld => ?_)
  generalize wc.drew = w38 at BK128 BK129 HB hHeld ⊢
  refine take_ (i := 0) (N := some 38) (v := ?_) (a' := ?_) #[true, false, false, false, false] rfl rfl (by kernel_rfl) (fun _ _ _ h => h) (Or.inl ⟨by rfl, ?_⟩) hHeld ?_ ?_
  rotate_left
  · rintro w' ⟨s0, s1⟩
    go_simp
    with_reducible rfl
  rotate_left
  · simp only [Act.put, List.setIfInBounds_toArray, List.set_cons_zero, List.set_cons_succ, i64_w, i32_w]
    rfl
  refine one_ (i := 1) (N := some 39) #[true, true, false, false, false] rfl rfl (by kernel_rfl) (by decide) (fun K hK => ?_)
  refine goes_ Tryd.func49 (by kernel_rfl) rfl #[.int .u64 4611686018427387904] (by rfl) rfl rfl (by (try simp only [List.map_toArray, List.map_cons, List.map_nil]); first | done | rfl | (simp only [List.length_drop, List.length_take]; rfl)) ?_
  with_reducible refine (ratio_small.calls 4611686018427387904 t144 t145 _ A26.out).mono ?_
  rintro e w39 ⟨rfl, hb⟩
  refine ⟨_, rfl, ?_⟩
  have n0_ := ab hb BK128
  have n1_ := ab hb BK129
  have n2_ := hs hb HB
  clear BK128
  clear BK129
  clear HB
  have BK128 := n0_
  have BK129 := n1_
  have HB := n2_
  clear n0_ n1_ n2_
  (try clear hb)
  (try clear hb2)
  (try clear hk)
  (try clear hi)
  refine hK.out _ _ ⟨c0 BK129.out, c1 BK129.out⟩ (fun hHeld => ?_)
  clear hK K
  refine norm_ (a' := ?_) ?_ ?_
  rotate_left
  · show Act.put _ (some 39) _ = _
    simp only [Act.put, List.setIfInBounds_toArray, List.set_cons_zero, List.set_cons_succ, i64_w, i32_w]
    rfl
  refine one_ (i := 2) (N := some 40) #[true, true, true, false, false] rfl rfl (by kernel_rfl) (by decide) (fun K hK => ?_)
  refine goes_ Tryd.func60 (by kernel_rfl) rfl #[.agg #[.int .u64 x130000_2, .int .u64 x130001_2], .agg #[.int .u64 t144, .int .u64 t145]] (by rfl) rfl rfl (by (try simp only [List.map_toArray, List.map_cons, List.map_nil]); first | done | rfl | (simp only [List.length_drop, List.length_take]; rfl)) ?_
  with_reducible refine (ratio_wide_cmp.calls x130000_2 x130001_2 t144 t145 t146 _ A27.out).mono ?_
  rintro e w40 ⟨rfl, hb⟩
  refine ⟨_, rfl, ?_⟩
  have n0_ := ab hb BK128
  have n1_ := ab hb BK129
  have n2_ := hs hb HB
  clear BK128
  clear BK129
  clear HB
  have BK128 := n0_
  have BK129 := n1_
  have HB := n2_
  clear n0_ n1_ n2_
  (try clear hb)
  (try clear hb2)
  (try clear hk)
  (try clear hi)
  refine hK.out _ _ ⟨c0 BK129.out, c1 BK129.out⟩ (fun hHeld => ?_)
  clear hK K
  refine norm_ (a' := ?_) ?_ ?_
  rotate_left
  · show Act.put _ (some 40) _ = _
    simp only [Act.put, List.setIfInBounds_toArray, List.set_cons_zero, List.set_cons_succ, i64_w, i32_w]
    rfl
  refine pure_ (i := 3) (N := some 41) (v := ?_) (a' := ?_) #[true, true, true, true, false] rfl rfl (by kernel_rfl) (fun _ _ _ h => h) (Or.inl ⟨by rfl, ?_⟩) ?_ ?_
  rotate_left
  · intro w'
    go_simp
    with_reducible rfl
  rotate_left
  · simp only [Act.put, List.setIfInBounds_toArray, List.set_cons_zero, List.set_cons_succ, i64_w, i32_w]
    rfl
  refine pure_ (i := 4) (N := some 37) (v := ?_) (a' := ?_) #[true, true, true, true, true] rfl rfl (by kernel_rfl) (fun _ _ _ h => h) (Or.inl ⟨by rfl, ?_⟩) ?_ ?_
  rotate_left
  · intro w'
    go_simp
    with_reducible rfl
  rotate_left
  · simp only [Act.put, List.setIfInBounds_toArray, List.set_cons_zero, List.set_cons_succ, i64_w, i32_w]
    rfl
  refine done_ (by kernel_rfl) ?_
  have hnb41 := NB129_128.out
  have hnc41 := NB128_129.out
  obtain ⟨hcz42_0, hcz42_1, hfz42_0, hfz42_1⟩ := k2 BK129.out
  try go_wp2
  go_ret2
  exact ⟨by first | rfl | (simp [errW_none, errW_some] <;> rfl) | (simp [*, errW_none, errW_some] <;> rfl), by repeat (first | (with_reducible first | exact HB.out | apply below_alloc | apply pw_below_drewN | apply below_drew1 | refine below_set ?_ GE128.out | refine below_set ?_ GE129.out) | exact HB.out)⟩

/-! ### ratio_Whole: function 40 -/
def ratio_Whole.f (k : Nat) (a0_0 : Int) (a0_1 : Int) (a1 : Int) (a2 : Int) : Option (Int × Int) := (ratio_Right.f a0_0 a0_1).bind fun t148 => (if t148 = true then ((ratio_size.f a0_0).bind fun t149 => ((ratio_size.f a1).bind fun t150 => ((ratio_mul.f t149 t150).bind fun bt151 => ((ratio_small.f (IntKind.u64.wrap (a0_1))).bind fun bt153 => ((ratio_frac_whole.f k ((decide (a0_0 < 0)) != (decide (a1 < 0))) bt151.1 bt151.2 bt153.1 bt153.2 a2).bind fun bt155 => (some (bt155.1, bt155.2))))))) else (some (0, 12)))
def ratio_Whole.T3 : Bool × List (List Nat × List Nat) := (true, [([], []), ([0], [0]), ([1], [1]), ([], []), ([3], [3]), ([2, 4], [2, 4]), ([], []), ([6], [6]), ([7], [7]), ([], []), ([9, 8], [9]), ([8, 10, 10], [8, 10]), ([], []), ([12], [12]), ([13], [13]), ([14, 11], [14]), ([5, 11, 15], [5, 11, 15]), ([], []), ([16, 17, 15], [16, 17]), ([18], [18]), ([18], [18]), ([19, 18, 0, 1, 2, 3, 4, 5, 6, 7, 8, 9, 10, 11, 12, 13, 14, 15, 16, 17, 18, 19, 20], [19]), ([20, 21, 0, 1, 2, 3, 4, 5, 6, 7, 8, 9, 10, 11, 12, 13, 14, 15, 16, 17, 18, 19, 20, 21], [20])])
def ratio_Whole.B3 : List Nat := [0, 1, 3, 0, 8, 31, 0, 64, 192, 0, 960, 1984, 0, 4096, 12288, 32704, 65535, 0, 262143, 524287, 524287, 2097151, 4194303]
theorem ratio_Whole.tab3 : rtab .any (opsOf Tryd.f40 3) = ratio_Whole.T3 := by kernel_rfl
theorem ratio_Whole.bits3 : waitsOk ratio_Whole.T3.2 ratio_Whole.B3 = true := by kernel_rfl
set_option maxHeartbeats 8000000 in
set_option maxRecDepth 100000 in
theorem ratio_Whole.calls (k : Nat) (a0_0 : Int) (a0_1 : Int) (a1 : Int) (a2 : Int) (r1 : Int) (r2 : Int) (w : World) (h : ratio_Whole.f k a0_0 a0_1 a1 a2 = some (r1, r2)) :
    Calls Tryd.prog 40 #[.agg #[.int .i64 a0_0, .int .i64 a0_1], .int .i64 a1, .int .i64 a2] w fun e w' => e = .returned (.tuple #[.int .i64 r1, .int .i64 r2]) ∧ Below w.heap.size w w' := by
  have hu24 := Tryd.underlying24
  have hu71 := Tryd.underlying71
  have HB := Aside0.mk (Below.refl w.heap.size w)
  have H : ((ratio_Right.f a0_0 a0_1).bind fun t148 => (if t148 = true then ((ratio_size.f a0_0).bind fun t149 => ((ratio_size.f a1).bind fun t150 => ((ratio_mul.f t149 t150).bind fun bt151 => ((ratio_small.f (IntKind.u64.wrap (a0_1))).bind fun bt153 => ((ratio_frac_whole.f k ((decide (a0_0 < 0)) != (decide (a1 < 0))) bt151.1 bt151.2 bt153.1 bt153.2 a2).bind fun bt155 => (some (bt155.1, bt155.2))))))) else (some (0, 12)))) = some (r1, r2) := h
  clear h
  replace H := Option.bind_eq_some_iff.mp H
  obtain ⟨t148, A40, H⟩ := H
  replace H : (if t148 = true then ((ratio_size.f a0_0).bind fun t149 => ((ratio_size.f a1).bind fun t150 => ((ratio_mul.f t149 t150).bind fun bt151 => ((ratio_small.f (IntKind.u64.wrap (a0_1))).bind fun bt153 => ((ratio_frac_whole.f k ((decide (a0_0 < 0)) != (decide (a1 < 0))) bt151.1 bt151.2 bt153.1 bt153.2 a2).bind fun bt155 => (some (bt155.1, bt155.2))))))) else (some (0, 12))) = some (r1, r2) := H
  have A4 := Aside0.mk A40
  clear A40
  by_cases c5 : t148 = true
  · subst c5
    have H1 : ((ratio_size.f a0_0).bind fun t149 => ((ratio_size.f a1).bind fun t150 => ((ratio_mul.f t149 t150).bind fun bt151 => ((ratio_small.f (IntKind.u64.wrap (a0_1))).bind fun bt153 => ((ratio_frac_whole.f k ((decide (a0_0 < 0)) != (decide (a1 < 0))) bt151.1 bt151.2 bt153.1 bt153.2 a2).bind fun bt155 => (some (bt155.1, bt155.2))))))) = some (r1, r2) := by rw [if_pos rfl] at H; exact H
    clear H
    have H := H1
    clear H1
    replace H := Option.bind_eq_some_iff.mp H
    obtain ⟨t149, A60, H⟩ := H
    replace H : ((ratio_size.f a1).bind fun t150 => ((ratio_mul.f t149 t150).bind fun bt151 => ((ratio_small.f (IntKind.u64.wrap (a0_1))).bind fun bt153 => ((ratio_frac_whole.f k ((decide (a0_0 < 0)) != (decide (a1 < 0))) bt151.1 bt151.2 bt153.1 bt153.2 a2).bind fun bt155 => (some (bt155.1, bt155.2)))))) = some (r1, r2) := H
    have A6 := Aside0.mk A60
    clear A60
    replace H := Option.bind_eq_some_iff.mp H
    obtain ⟨t150, A70, H⟩ := H
    replace H : ((ratio_mul.f t149 t150).bind fun bt151 => ((ratio_small.f (IntKind.u64.wrap (a0_1))).bind fun bt153 => ((ratio_frac_whole.f k ((decide (a0_0 < 0)) != (decide (a1 < 0))) bt151.1 bt151.2 bt153.1 bt153.2 a2).bind fun bt155 => (some (bt155.1, bt155.2))))) = some (r1, r2) := H
    have A7 := Aside0.mk A70
    clear A70
    replace H := Option.bind_eq_some_iff.mp H
    obtain ⟨⟨t151, t152⟩, A80, H⟩ := H
    replace H : ((ratio_small.f (IntKind.u64.wrap (a0_1))).bind fun bt153 => ((ratio_frac_whole.f k ((decide (a0_0 < 0)) != (decide (a1 < 0))) t151 t152 bt153.1 bt153.2 a2).bind fun bt155 => (some (bt155.1, bt155.2)))) = some (r1, r2) := H
    have A8 := Aside0.mk A80
    clear A80
    replace H := Option.bind_eq_some_iff.mp H
    obtain ⟨⟨t153, t154⟩, A90, H⟩ := H
    replace H : ((ratio_frac_whole.f k ((decide (a0_0 < 0)) != (decide (a1 < 0))) t151 t152 t153 t154 a2).bind fun bt155 => (some (bt155.1, bt155.2))) = some (r1, r2) := H
    have A9 := Aside0.mk A90
    clear A90
    replace H := Option.bind_eq_some_iff.mp H
    obtain ⟨⟨t155, t156⟩, A100, H⟩ := H
    replace H : (some (t155, t156)) = some (r1, r2) := H
    have A10 := Aside0.mk A100
    clear A100
    simp only [Option.some.injEq, Prod.mk.injEq] at H
    obtain ⟨rfl, rfl⟩ := H
    go_enter Tryd.func40, Tryd.ntmps40
    try go_wp2_with (first | ((with_reducible refine gate_dst (N := 3) rfl ?_); refine box_event ?hg (N := 3) ?hd (cs := #[.int .i64 a0_0, .int .i64 a0_1]) (t := 24) ?hr ?_; (case hd => rfl); (case hg => rfl); (case hr => first | (go_simp; done) | (go_simp; rfl)); intro gb147 hg w11 hbox hb; have BK147 := Aside0.mk (hbox); have GW147 := ag hg HB; have GE147 := ag hg HB; replace HB := hs hb HB; clear hb hbox hg; obtain ⟨hcz12_0, hcz12_1, hfz12_0, hfz12_1⟩ := k2 BK147.out) | ((with_reducible refine gate_callee (f := 19) rfl ?_); refine goesL_ (some 9) rfl rfl Tryd.func19 (by kernel_rfl) rfl #[.agg #[.int .i64 a0_0, .int .i64 a0_1]] rfl (by (try simp only [List.map_toArray, List.map_cons, List.map_nil]); first | done | rfl | (simp only [List.length_drop, List.length_take]; rfl)) ?_; (with_reducible refine (ratio_Right.calls a0_0 a0_1 true _ A4.out).mono ?_); rintro e w13 ⟨rfl, hb⟩; refine ⟨_, rfl, ?_⟩; replace BK147 := ab hb BK147; replace HB := hs hb HB; (try clear hb); (try clear hb2); (try clear hk); (try clear hi)))
    have n0_ := Aside0.mk (blk_drew BK147.out)
    have n1_ := Aside0.mk (below_drew1 HB.out)
    clear BK147
    clear HB
    have BK147 := n0_
    have HB := n1_
    clear n0_ n1_
    refine start_ (n := 23) (S := fun w' => w'.cell? ⟨gb147, 0, none⟩ = some (.int .i64 a0_0) ∧ w'.cell? ⟨gb147, 1, none⟩ = some (.int .i64 a0_1)) (ds := []) #[false, false, false, false, false, false, false, false, false, false, false, false, false, false, false, false, false, false, false, false, false, false, false] (by kernel_rfl) rfl rfl ⟨c0 BK147.out, c1 BK147.out⟩ (fun hHeld => ?_); refine with_tabW ratio_Whole.tab3 ratio_Whole.bits3 (fun HT_ HW_ => ?_)
    generalize w13.drew = w14 at BK147 HB hHeld ⊢
    refine pure_ (i := 0) (N := some 11) (v := ?_) (a' := ?_) #[true, false, false, false, false, false, false, false, false, false, false, false, false, false, false, false, false, false, false, false, false, false, false] rfl rfl (any_of HT_.out (by kernel_rfl)) (fun _ _ _ h => h) (Or.inl ⟨by rfl, ?_⟩) ?_ ?_
    rotate_left
    · intro w'
      go_simp
      with_reducible rfl
    rotate_left
    · simp only [Act.put, List.setIfInBounds_toArray, List.set_cons_zero, List.set_cons_succ, i64_w, i32_w]
      rfl
    refine pure_ (i := 3) (N := some 14) (v := ?_) (a' := ?_) #[true, false, false, true, false, false, false, false, false, false, false, false, false, false, false, false, false, false, false, false, false, false, false] rfl rfl (any_of HT_.out (by kernel_rfl)) (fun _ _ _ h => h) (Or.inl ⟨by rfl, ?_⟩) ?_ ?_
    rotate_left
    · intro w'
      go_simp
      with_reducible rfl
    rotate_left
    · simp only [Act.put, List.setIfInBounds_toArray, List.set_cons_zero, List.set_cons_succ, i64_w, i32_w]
      rfl
    refine pure_ (i := 4) (N := some 15) (v := ?_) (a' := ?_) #[true, false, false, true, true, false, false, false, false, false, false, false, false, false, false, false, false, false, false, false, false, false, false] rfl rfl (any_of HT_.out (by kernel_rfl)) (fun _ _ _ h => h) (Or.inl ⟨by rfl, ?_⟩) ?_ ?_
    rotate_left
    · intro w'
      go_simp
      with_reducible rfl
    rotate_left
    · simp only [Act.put, List.setIfInBounds_toArray, List.set_cons_zero, List.set_cons_succ, i64_w, i32_w]
      rfl
    refine pure_ (i := 6) (N := some 17) (v := ?_) (a' := ?_) #[true, false, false, true, true, false, true, false, false, false, false, false, false, false, false, false, false, false, false, false, false, false, false] rfl rfl (any_of HT_.out (by kernel_rfl)) (fun _ _ _ h => h) (Or.inl ⟨by rfl, ?_⟩) ?_ ?_
    rotate_left
    · intro w'
      go_simp
      with_reducible rfl
    rotate_left
    · simp only [Act.put, List.setIfInBounds_toArray, List.set_cons_zero, List.set_cons_succ, i64_w, i32_w]
      rfl
    refine pure_ (i := 9) (N := some 20) (v := ?_) (a' := ?_) #[true, false, false, true, true, false, true, false, false, true, false, false, false, false, false, false, false, false, false, false, false, false, false] rfl rfl (any_of HT_.out (by kernel_rfl)) (fun _ _ _ h => h) (Or.inl ⟨by rfl, ?_⟩) ?_ ?_
    rotate_left
    · intro w'
      go_simp
      with_reducible rfl
    rotate_left
    · simp only [Act.put, List.setIfInBounds_toArray, List.set_cons_zero, List.set_cons_succ, i64_w, i32_w]
      rfl
    refine pure_ (i := 12) (N := some 23) (v := ?_) (a' := ?_) #[true, false, false, true, true, false, true, false, false, true, false, false, true, false, false, false, false, false, false, false, false, false, false] rfl rfl (any_of HT_.out (by kernel_rfl)) (fun _ _ _ h => h) (Or.inl ⟨by rfl, ?_⟩) ?_ ?_
    rotate_left
    · intro w'
      go_simp
      with_reducible rfl
    rotate_left
    · simp only [Act.put, List.setIfInBounds_toArray, List.set_cons_zero, List.set_cons_succ, i64_w, i32_w]
      rfl
    refine pure_ (i := 17) (N := some 28) (v := ?_) (a' := ?_) #[true, false, false, true, true, false, true, false, false, true, false, false, true, false, false, false, false, true, false, false, false, false, false] rfl rfl (any_of HT_.out (by kernel_rfl)) (fun _ _ _ h => h) (Or.inl ⟨by rfl, ?_⟩) ?_ ?_
    rotate_left
    · intro w'
      go_simp
      with_reducible rfl
    rotate_left
    · simp only [Act.put, List.setIfInBounds_toArray, List.set_cons_zero, List.set_cons_succ, i64_w, i32_w]
      rfl
    refine take_ (i := 1) (N := some 12) (v := ?_) (a' := ?_) #[true, true, false, true, true, false, true, false, false, true, false, false, true, false, false, false, false, true, false, false, false, false, false] rfl rfl (take_ofW HT_.out HW_.out (by kernel_rfl)) (fun _ _ _ h => h) (Or.inl ⟨by rfl, ?_⟩) hHeld ?_ ?_
    rotate_left
    · rintro w' ⟨s0, s1⟩
      go_simp
      with_reducible rfl
    rotate_left
    · simp only [Act.put, List.setIfInBounds_toArray, List.set_cons_zero, List.set_cons_succ, i64_w, i32_w]
      rfl
    refine pure_ (i := 2) (N := some 13) (v := ?_) (a' := ?_) #[true, true, true, true, true, false, true, false, false, true, false, false, true, false, false, false, false, true, false, false, false, false, false] rfl rfl (any_of HT_.out (by kernel_rfl)) (fun _ _ _ h => h) (Or.inl ⟨by rfl, ?_⟩) ?_ ?_
    rotate_left
    · intro w'
      go_simp
      with_reducible rfl
    rotate_left
    · simp only [Act.put, List.setIfInBounds_toArray, List.set_cons_zero, List.set_cons_succ, i64_w, i32_w]
      rfl
    refine pure_ (i := 5) (N := some 16) (v := ?_) (a' := ?_) #[true, true, true, true, true, true, true, false, false, true, false, false, true, false, false, false, false, true, false, false, false, false, false] rfl rfl (any_of HT_.out (by kernel_rfl)) (fun _ _ _ h => h) (Or.inl ⟨by rfl, ?_⟩) ?_ ?_
    rotate_left
    · intro w'
      go_simp
      with_reducible rfl
    rotate_left
    · simp only [Act.put, List.setIfInBounds_toArray, List.set_cons_zero, List.set_cons_succ, i64_w, i32_w]
      rfl
    refine take_ (i := 7) (N := some 18) (v := ?_) (a' := ?_) #[true, true, true, true, true, true, true, true, false, true, false, false, true, false, false, false, false, true, false, false, false, false, false] rfl rfl (take_ofW HT_.out HW_.out (by kernel_rfl)) (fun _ _ _ h => h) (Or.inl ⟨by rfl, ?_⟩) hHeld ?_ ?_
    rotate_left
    · rintro w' ⟨s0, s1⟩
      go_simp
      with_reducible rfl
    rotate_left
    · simp only [Act.put, List.setIfInBounds_toArray, List.set_cons_zero, List.set_cons_succ, i64_w, i32_w]
      rfl
    refine take_ (i := 13) (N := some 24) (v := ?_) (a' := ?_) #[true, true, true, true, true, true, true, true, false, true, false, false, true, true, false, false, false, true, false, false, false, false, false] rfl rfl (take_ofW HT_.out HW_.out (by kernel_rfl)) (fun _ _ _ h => h) (Or.inl ⟨by rfl, ?_⟩) hHeld ?_ ?_
    rotate_left
    · rintro w' ⟨s0, s1⟩
      go_simp
      with_reducible rfl
    rotate_left
    · simp only [Act.put, List.setIfInBounds_toArray, List.set_cons_zero, List.set_cons_succ, i64_w, i32_w]
      rfl
    refine pure_ (i := 14) (N := some 25) (v := ?_) (a' := ?_) #[true, true, true, true, true, true, true, true, false, true, false, false, true, true, true, false, false, true, false, false, false, false, false] rfl rfl (any_of HT_.out (by kernel_rfl)) (fun _ _ _ h => h) (Or.inl ⟨by rfl, ?_⟩) ?_ ?_
    rotate_left
    · intro w'
      go_simp
      with_reducible rfl
    rotate_left
    · simp only [Act.put, List.setIfInBounds_toArray, List.set_cons_zero, List.set_cons_succ, i64_w, i32_w]
      rfl
    refine one_ (i := 8) (N := some 19) #[true, true, true, true, true, true, true, true, true, true, false, false, true, true, true, false, false, true, false, false, false, false, false] rfl rfl (one_of HT_.out (by kernel_rfl)) (by decide) (fun K hK => ?_)
    refine goes_ Tryd.func50 (by kernel_rfl) rfl #[.int .i64 a0_0] (by rfl) rfl rfl (by (try simp only [List.map_toArray, List.map_cons, List.map_nil]); first | done | rfl | (simp only [List.length_drop, List.length_take]; rfl)) ?_
    with_reducible refine (ratio_size.calls a0_0 t149 _ A6.out).mono ?_
    rintro e w' ⟨rfl, ⟨nd, rfl⟩⟩
    refine ⟨_, rfl, ?_⟩
    refine hK.out _ _ ⟨c0 BK147.out, c1 BK147.out⟩ (fun hHeld => ?_)
    clear hK K
    refine norm_ (a' := ?_) ?_ ?_
    rotate_left
    · show Act.put _ (some 19) _ = _
      simp only [Act.put, List.setIfInBounds_toArray, List.set_cons_zero, List.set_cons_succ, i64_w, i32_w]
      rfl
    refine one_ (i := 10) (N := some 21) #[true, true, true, true, true, true, true, true, true, true, true, false, true, true, true, false, false, true, false, false, false, false, false] rfl rfl (one_of HT_.out (by kernel_rfl)) (by decide) (fun K hK => ?_)
    refine goes_ Tryd.func50 (by kernel_rfl) rfl #[.int .i64 a1] (by rfl) rfl rfl (by (try simp only [List.map_toArray, List.map_cons, List.map_nil]); first | done | rfl | (simp only [List.length_drop, List.length_take]; rfl)) ?_
    with_reducible refine (ratio_size.calls a1 t150 _ A7.out).mono ?_
    rintro e w' ⟨rfl, ⟨nd, rfl⟩⟩
    refine ⟨_, rfl, ?_⟩
    refine hK.out _ _ ⟨c0 BK147.out, c1 BK147.out⟩ (fun hHeld => ?_)
    clear hK K
    refine norm_ (a' := ?_) ?_ ?_
    rotate_left
    · show Act.put _ (some 21) _ = _
      simp only [Act.put, List.setIfInBounds_toArray, List.set_cons_zero, List.set_cons_succ, i64_w, i32_w]
      rfl
    refine one_ (i := 11) (N := some 22) #[true, true, true, true, true, true, true, true, true, true, true, true, true, true, true, false, false, true, false, false, false, false, false] rfl rfl (one_of HT_.out (by kernel_rfl)) (by decide) (fun K hK => ?_)
    refine goes_ Tryd.func58 (by kernel_rfl) rfl #[.int .u64 t149, .int .u64 t150] (by rfl) rfl rfl (by (try simp only [List.map_toArray, List.map_cons, List.map_nil]); first | done | rfl | (simp only [List.length_drop, List.length_take]; rfl)) ?_
    with_reducible refine (ratio_mul.calls t149 t150 t151 t152 _ A8.out).mono ?_
    rintro e w15 ⟨rfl, hb⟩
    refine ⟨_, rfl, ?_⟩
    have n0_ := ab hb BK147
    have n1_ := hs hb HB
    clear BK147
    clear HB
    have BK147 := n0_
    have HB := n1_
    clear n0_ n1_
    (try clear hb)
    (try clear hb2)
    (try clear hk)
    (try clear hi)
    refine hK.out _ _ ⟨c0 BK147.out, c1 BK147.out⟩ (fun hHeld => ?_)
    clear hK K
    refine norm_ (a' := ?_) ?_ ?_
    rotate_left
    · show Act.put _ (some 22) _ = _
      simp only [Act.put, List.setIfInBounds_toArray, List.set_cons_zero, List.set_cons_succ, i64_w, i32_w]
      rfl
    refine one_ (i := 15) (N := some 26) #[true, true, true, true, true, true, true, true, true, true, true, true, true, true, true, true, false, true, false, false, false, false, false] rfl rfl (one_of HT_.out (by kernel_rfl)) (by decide) (fun K hK => ?_)
    refine goes_ Tryd.func49 (by kernel_rfl) rfl #[.int .u64 (IntKind.u64.wrap (a0_1))] (by rfl) rfl rfl (by (try simp only [List.map_toArray, List.map_cons, List.map_nil]); first | done | rfl | (simp only [List.length_drop, List.length_take]; rfl)) ?_
    with_reducible refine (ratio_small.calls (IntKind.u64.wrap (a0_1)) t153 t154 _ A9.out).mono ?_
    rintro e w16 ⟨rfl, hb⟩
    refine ⟨_, rfl, ?_⟩
    have n0_ := ab hb BK147
    have n1_ := hs hb HB
    clear BK147
    clear HB
    have BK147 := n0_
    have HB := n1_
    clear n0_ n1_
    (try clear hb)
    (try clear hb2)
    (try clear hk)
    (try clear hi)
    refine hK.out _ _ ⟨c0 BK147.out, c1 BK147.out⟩ (fun hHeld => ?_)
    clear hK K
    refine norm_ (a' := ?_) ?_ ?_
    rotate_left
    · show Act.put _ (some 26) _ = _
      simp only [Act.put, List.setIfInBounds_toArray, List.set_cons_zero, List.set_cons_succ, i64_w, i32_w]
      rfl
    refine pure_ (i := 16) (N := some 27) (v := ?_) (a' := ?_) #[true, true, true, true, true, true, true, true, true, true, true, true, true, true, true, true, true, true, false, false, false, false, false] rfl rfl (any_of HT_.out (by kernel_rfl)) (fun _ _ _ h => h) (Or.inl ⟨by rfl, ?_⟩) ?_ ?_
    rotate_left
    · intro w'
      go_simp
      with_reducible rfl
    rotate_left
    · simp only [Act.put, List.setIfInBounds_toArray, List.set_cons_zero, List.set_cons_succ, i64_w, i32_w]
      rfl
    refine one_ (i := 18) (N := some 29) #[true, true, true, true, true, true, true, true, true, true, true, true, true, true, true, true, true, true, true, false, false, false, false] rfl rfl (one_of HT_.out (by kernel_rfl)) (by decide) (fun K hK => ?_)
    refine goes_ Tryd.func67 (by kernel_rfl) rfl #[.agg #[.bool ((decide (a0_0 < 0)) != (decide (a1 < 0))), .int .u64 t151, .int .u64 t152, .int .u64 t153, .int .u64 t154], .int .i64 a2] (by rfl) rfl rfl (by (try simp only [List.map_toArray, List.map_cons, List.map_nil]); first | done | rfl | (simp only [List.length_drop, List.length_take]; rfl)) ?_
    with_reducible refine (ratio_frac_whole.calls k ((decide (a0_0 < 0)) != (decide (a1 < 0))) t151 t152 t153 t154 a2 t155 t156 _ A10.out).mono ?_
    rintro e w17 ⟨rfl, hb⟩
    refine ⟨_, rfl, ?_⟩
    have n0_ := ab hb BK147
    have n1_ := hs hb HB
    clear BK147
    clear HB
    have BK147 := n0_
    have HB := n1_
    clear n0_ n1_
    (try clear hb)
    (try clear hb2)
    (try clear hk)
    (try clear hi)
    refine hK.out _ _ ⟨c0 BK147.out, c1 BK147.out⟩ (fun hHeld => ?_)
    clear hK K
    refine norm_ (a' := ?_) ?_ ?_
    rotate_left
    · show Act.put _ (some 29) _ = _
      simp only [Act.put, List.setIfInBounds_toArray, List.set_cons_zero, List.set_cons_succ, i64_w, i32_w]
      rfl
    refine pure_ (i := 19) (N := some 30) (v := ?_) (a' := ?_) #[true, true, true, true, true, true, true, true, true, true, true, true, true, true, true, true, true, true, true, true, false, false, false] rfl rfl (any_of HT_.out (by kernel_rfl)) (fun _ _ _ h => h) (Or.inl ⟨by rfl, ?_⟩) ?_ ?_
    rotate_left
    · intro w'
      go_simp
      with_reducible rfl
    rotate_left
    · simp only [Act.put, List.setIfInBounds_toArray, List.set_cons_zero, List.set_cons_succ, i64_w, i32_w]
      rfl
    refine pure_ (i := 20) (N := some 31) (v := ?_) (a' := ?_) #[true, true, true, true, true, true, true, true, true, true, true, true, true, true, true, true, true, true, true, true, true, false, false] rfl rfl (any_of HT_.out (by kernel_rfl)) (fun _ _ _ h => h) (Or.inl ⟨by rfl, ?_⟩) ?_ ?_
    rotate_left
    · intro w'
      go_simp
      with_reducible rfl
    rotate_left
    · simp only [Act.put, List.setIfInBounds_toArray, List.set_cons_zero, List.set_cons_succ, i64_w, i32_w]
      rfl
    refine pure_ (i := 21) (N := some 6) (v := ?_) (a' := ?_) #[true, true, true, true, true, true, true, true, true, true, true, true, true, true, true, true, true, true, true, true, true, true, false] rfl rfl (any_of HT_.out (by kernel_rfl)) (fun _ _ _ h => h) (Or.inl ⟨by rfl, ?_⟩) ?_ ?_
    rotate_left
    · intro w'
      go_simp
      with_reducible rfl
    rotate_left
    · simp only [Act.put, List.setIfInBounds_toArray, List.set_cons_zero, List.set_cons_succ, i64_w, i32_w]
      rfl
    refine pure_ (i := 22) (N := some 7) (v := ?_) (a' := ?_) #[true, true, true, true, true, true, true, true, true, true, true, true, true, true, true, true, true, true, true, true, true, true, true] rfl rfl (any_of HT_.out (by kernel_rfl)) (fun _ _ _ h => h) (Or.inl ⟨by rfl, ?_⟩) ?_ ?_
    rotate_left
    · intro w'
      go_simp
      with_reducible rfl
    rotate_left
    · simp only [Act.put, List.setIfInBounds_toArray, List.set_cons_zero, List.set_cons_succ, i64_w, i32_w]
      rfl
    refine done_ (done_of HT_.out (by kernel_rfl)) ?_
    try go_wp2
    go_ret2
    exact ⟨by first | rfl | (simp [errW_none, errW_some] <;> rfl) | (simp [*, errW_none, errW_some] <;> rfl), by repeat (first | (with_reducible first | exact HB.out | apply below_alloc | apply pw_below_drewN | apply below_drew1 | refine below_set ?_ GE147.out) | exact HB.out)⟩
  replace c5 := Bool.eq_false_iff.mpr c5
  subst c5
  have H1 : (some (0, 12)) = some (r1, r2) := by rw [if_neg (show ¬ (false = true) by decide)] at H; exact H
  clear H
  have H := H1
  clear H1
  simp only [Option.some.injEq, Prod.mk.injEq] at H
  obtain ⟨rfl, rfl⟩ := H
  go_enter Tryd.func40, Tryd.ntmps40
  go_wp2_with (first | ((with_reducible refine gate_dst (N := 3) rfl ?_); refine box_event ?hg (N := 3) ?hd (cs := #[.int .i64 a0_0, .int .i64 a0_1]) (t := 24) ?hr ?_; (case hd => rfl); (case hg => rfl); (case hr => first | (go_simp; done) | (go_simp; rfl)); intro gb147 hg w18 hbox hb; have BK147 := Aside0.mk (hbox); have GW147 := ag hg HB; have GE147 := ag hg HB; replace HB := hs hb HB; clear hb hbox hg; obtain ⟨hcz19_0, hcz19_1, hfz19_0, hfz19_1⟩ := k2 BK147.out) | ((with_reducible refine gate_callee (f := 19) rfl ?_); refine goesL_ (some 9) rfl rfl Tryd.func19 (by kernel_rfl) rfl #[.agg #[.int .i64 a0_0, .int .i64 a0_1]] rfl (by (try simp only [List.map_toArray, List.map_cons, List.map_nil]); first | done | rfl | (simp only [List.length_drop, List.length_take]; rfl)) ?_; (with_reducible refine (ratio_Right.calls a0_0 a0_1 false _ A4.out).mono ?_); rintro e w20 ⟨rfl, hb⟩; refine ⟨_, rfl, ?_⟩; replace BK147 := ab hb BK147; replace HB := hs hb HB; (try clear hb); (try clear hb2); (try clear hk); (try clear hi)))
  go_ret2
  exact ⟨by first | rfl | (simp [errW_none, errW_some] <;> rfl) | (simp [*, errW_none, errW_some] <;> rfl), by repeat (first | (with_reducible first | exact HB.out | apply below_alloc | apply pw_below_drewN | apply below_drew1 | refine below_set ?_ GE147.out) | exact HB.out)⟩

end Go.Proofs.YtofndakpenpkbaaDoor.PW
