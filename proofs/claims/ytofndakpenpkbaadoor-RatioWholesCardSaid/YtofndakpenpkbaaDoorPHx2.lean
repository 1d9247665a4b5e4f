-- made by wip/pp2.py out of the translation, over contracts of my own
import Derived.Test.YtofndakpenpkbaaDoorProg
import Derived.Below
import Derived.Deep.Draws
import Derived.Deep.AppendLies
import Derived.Maps.AppendAt
import Derived.OwnWalk
import Derived.Laws.BytesArg
import Derived.Laws.MakeOwn
import Derived.Laws.OwnMore
import Derived.Deep.OwnRows
import Derived.Tactics
import Derived.Lib.ConvBytes
import Derived.Laws.Slices
import Derived.WalkKit
import Derived.KernelRfl
import Derived.RowKit3
import Derived.Deep.LoopGhost
import Derived.Deep.QuietTactic
import Derived.BigQuiet
import Derived.WideLaws
import Derived.Deep.DeepCutAuto
import Derived.Deep.CutBlock
import Derived.Deep.RegionHeld3
import Derived.Laws.Rows
import Derived.Lib.AppendStr
import Derived.ArgAppend
import Derived.Laws.IdiomCopy
import Derived.OrdersHeld
import Derived.Laws.BitsLemmas
import Derived.RowKit
import Derived.Test.YtofndakpenpkbaaDoorRefF
import Derived.Test.YtofndakpenpkbaaDoorRefO
import Derived.Test.YtofndakpenpkbaaDoorXW
namespace Go.Proofs.YtofndakpenpkbaaDoor.PH
open Go.Proofs.YtofndakpenpkbaaDoor.PA Go.Proofs.YtofndakpenpkbaaDoor.PR Go.Proofs.YtofndakpenpkbaaDoor.PO Go.Proofs.YtofndakpenpkbaaDoor.PP Go.Proofs.YtofndakpenpkbaaDoor.PF
open Go.RowKit Go.Proofs.YtofndakpenpkbaaDoorW.PrintWords Go.Proofs.YtofndakpenpkbaaDoorW.PrintLast Go.Proofs.YtofndakpenpkbaaDoorW.PrintMore
set_option linter.unusedVariables false
set_option linter.unusedSimpArgs false



def errW : Option Int → Value
  | none => .nilIface
  | some c => .iface 0 (.int .i64 c)
theorem errW_none : errW none = .nilIface := rfl
theorem errW_some (c : Int) : errW (some c) = .iface 0 (.int .i64 c) := rfl

-- the values' own types
/-! #### struct type 24 -/
structure S24 where
  f0 : Int
  f1 : Int
def z24 : S24 := ⟨(0 : Int), (0 : Int)⟩
def k24 : Kd S24 := Kd.iso (Kd.pair (Kd.int .i64) (Kd.int .i64)) (fun x : S24 => (x.f0, x.f1))
theorem k24_open {w : World} {x : S24} {cs : List Value} (h : k24.K w x cs) : cs = [.int .i64 x.f0, .int .i64 x.f1] := by
  obtain ⟨_, _, rfl, rfl, rfl⟩ := h
  exact rfl
theorem k24_openM {w : World} {base : Nat} {ok : Nat → Prop} {x : S24} {cs : List Value} (h : k24.M w base ok x cs) : cs = [.int .i64 x.f0, .int .i64 x.f1] := by
  obtain ⟨_, _, rfl, rfl, rfl⟩ := h
  exact rfl
theorem k24_mk (w : World) (x : S24)  : k24.K w x [.int .i64 x.f0, .int .i64 x.f1] := ⟨[.int .i64 x.f0], [.int .i64 x.f1], rfl, rfl, rfl⟩
theorem k24_mkM (w : World) (base : Nat) (ok : Nat → Prop) (x : S24)  : k24.M w base ok x [.int .i64 x.f0, .int .i64 x.f1] := ⟨[.int .i64 x.f0], [.int .i64 x.f1], rfl, rfl, rfl⟩
def rd_T24 (xs : List S24) (i : Int) : S24 := xs.getD i.toNat z24
theorem at_T24 {w : World} {A : Option Addr} {n : Nat} {xs : List S24} (h : Kd.C k24 w A n xs) (i : Int) (h0 : 0 ≤ i) (h1 : i < n) : ∃ ad , A = some ad ∧ w.cell? (ad.add (i.toNat * 2)) = some (.int .i64 (rd_T24 xs i).f0) ∧ w.cell? ⟨(ad.add (i.toNat * 2)).block, (ad.add (i.toNat * 2)).off + 1, none⟩ = some (.int .i64 (rd_T24 xs i).f1) := by
  obtain ⟨ad, c, e, _, hK, hc0⟩ := Kd.C_get h z24 i h0 h1
  have hc : ∀ j u, c[j]? = some u → w.cell? (ad.add (i.toNat * 2 + j)) = some u := hc0
  obtain rfl := k24_open hK
  exact ⟨ad, e, hc 0 _ rfl, by rw [← add_field _ _ 1 (by omega)]; exact hc 1 _ rfl⟩

/-! #### struct type 74 -/
structure S74 where
  f0 : Bool
  f1 : Int
  f2 : Int
def z74 : S74 := ⟨false, (0 : Int), (0 : Int)⟩
def k74 : Kd S74 := Kd.iso (Kd.pair Kd.bool (Kd.pair (Kd.int .u64) (Kd.int .u64))) (fun x : S74 => (x.f0, x.f1, x.f2))
theorem k74_open {w : World} {x : S74} {cs : List Value} (h : k74.K w x cs) : cs = [.bool x.f0, .int .u64 x.f1, .int .u64 x.f2] := by
  obtain ⟨_, _, rfl, rfl, ⟨_, _, rfl, rfl, rfl⟩⟩ := h
  exact rfl
theorem k74_openM {w : World} {base : Nat} {ok : Nat → Prop} {x : S74} {cs : List Value} (h : k74.M w base ok x cs) : cs = [.bool x.f0, .int .u64 x.f1, .int .u64 x.f2] := by
  obtain ⟨_, _, rfl, rfl, ⟨_, _, rfl, rfl, rfl⟩⟩ := h
  exact rfl
theorem k74_mk (w : World) (x : S74)  : k74.K w x [.bool x.f0, .int .u64 x.f1, .int .u64 x.f2] := ⟨[.bool x.f0], [.int .u64 x.f1, .int .u64 x.f2], rfl, rfl, ⟨[.int .u64 x.f1], [.int .u64 x.f2], rfl, rfl, rfl⟩⟩
theorem k74_mkM (w : World) (base : Nat) (ok : Nat → Prop) (x : S74)  : k74.M w base ok x [.bool x.f0, .int .u64 x.f1, .int .u64 x.f2] := ⟨[.bool x.f0], [.int .u64 x.f1, .int .u64 x.f2], rfl, rfl, ⟨[.int .u64 x.f1], [.int .u64 x.f2], rfl, rfl, rfl⟩⟩
def rd_T74 (xs : List S74) (i : Int) : S74 := xs.getD i.toNat z74
theorem at_T74 {w : World} {A : Option Addr} {n : Nat} {xs : List S74} (h : Kd.C k74 w A n xs) (i : Int) (h0 : 0 ≤ i) (h1 : i < n) : ∃ ad , A = some ad ∧ w.cell? (ad.add (i.toNat * 3)) = some (.bool (rd_T74 xs i).f0) ∧ w.cell? ⟨(ad.add (i.toNat * 3)).block, (ad.add (i.toNat * 3)).off + 1, none⟩ = some (.int .u64 (rd_T74 xs i).f1) ∧ w.cell? ⟨(ad.add (i.toNat * 3)).block, (ad.add (i.toNat * 3)).off + 2, none⟩ = some (.int .u64 (rd_T74 xs i).f2) := by
  obtain ⟨ad, c, e, _, hK, hc0⟩ := Kd.C_get h z74 i h0 h1
  have hc : ∀ j u, c[j]? = some u → w.cell? (ad.add (i.toNat * 3 + j)) = some u := hc0
  obtain rfl := k74_open hK
  exact ⟨ad, e, hc 0 _ rfl, by rw [← add_field _ _ 1 (by omega)]; exact hc 1 _ rfl, by rw [← add_field _ _ 2 (by omega)]; exact hc 2 _ rfl⟩

end Go.Proofs.YtofndakpenpkbaaDoor.PH

namespace Go.Proofs.YtofndakpenpkbaaDoor.PH
open Go.Proofs.YtofndakpenpkbaaDoor.PA Go.Proofs.YtofndakpenpkbaaDoor.PR Go.Proofs.YtofndakpenpkbaaDoor.PO Go.Proofs.YtofndakpenpkbaaDoor.PP Go.Proofs.YtofndakpenpkbaaDoor.PF
open Go.RowKit Go.Proofs.YtofndakpenpkbaaDoorW.PrintWords Go.Proofs.YtofndakpenpkbaaDoorW.PrintLast Go.Proofs.YtofndakpenpkbaaDoorW.PrintMore
set_option linter.unusedVariables false
set_option linter.unusedSimpArgs false

/-! ### surtitleref3_Right: function 20: told elsewhere -/

/-! ### surtitleref3_Times: function 52: told elsewhere -/

/-! ### surtitleref3_whole: function 68: told elsewhere -/

/-! ### surtitleref3_fits: function 69: told elsewhere -/

/-! ### surtitleref3_number: function 70: told elsewhere -/

end Go.Proofs.YtofndakpenpkbaaDoor.PH

namespace Go.Proofs.YtofndakpenpkbaaDoor.PH
open Go.Proofs.YtofndakpenpkbaaDoor.PA Go.Proofs.YtofndakpenpkbaaDoor.PR Go.Proofs.YtofndakpenpkbaaDoor.PO Go.Proofs.YtofndakpenpkbaaDoor.PP Go.Proofs.YtofndakpenpkbaaDoor.PF
open Go.RowKit Go.Proofs.YtofndakpenpkbaaDoorW.PrintWords Go.Proofs.YtofndakpenpkbaaDoorW.PrintLast Go.Proofs.YtofndakpenpkbaaDoorW.PrintMore
set_option linter.unusedVariables false
set_option linter.unusedSimpArgs false

/-! ### surtitleref3_Whole: function 41 -/
def surtitleref3_Whole.j0 : Nat → Int → Int → Bool → Int → Int → Option (Int × Int)
  | 0, _, _, _, _, _ => none
  | k + 1, x1, x2, x17, x102000, x102001 => if x17 = true then (some (0, 1)) else ((surtitleref3_Times.f x102000 x1).bind fun bt103 => ((surtitleref3_Times.f x102001 1).bind fun bt106 => ((surtitleref3_whole.f k bt103.1 bt103.2.1 bt103.2.2 bt106.1 bt106.2.1 bt106.2.2 x2).bind fun bt109 => ((surtitleref3_fits.f bt109.1 bt109.2.1 bt109.2.2).bind fun t113 => (if t113 = true then ((surtitleref3_number.f bt109.1 bt109.2.1 bt109.2.2).bind fun t114 => (some (t114, 0))) else (some (0, 12)))))))
def surtitleref3_Whole.f (k : Nat) (a0_0 : Int) (a0_1 : Int) (a1 : Int) (a2 : Int) : Option (Int × Int) := (surtitleref3_Right.f k a0_0 a0_1).bind fun t102 => (if t102 = true then (if a2 < 1 then (surtitleref3_Whole.j0 k a1 a2 true a0_0 a0_1) else (surtitleref3_Whole.j0 k a1 a2 (decide (a2 > 3)) a0_0 a0_1)) else (some (0, 12)))
def surtitleref3_Whole.T5 : Bool × List (List Nat × List Nat) := (true, [([], []), ([0], [0]), ([], []), ([1, 2], [1, 2]), ([], []), ([4], [4]), ([5, 3], [5]), ([], []), ([3, 6, 7, 6], [3, 6, 7]), ([], []), ([9, 8, 8, 0, 1, 2, 3, 4, 5, 6, 7, 8, 9], [8, 9])])
def surtitleref3_Whole.B5 : List Nat := [0, 1, 0, 7, 0, 16, 63, 0, 255, 0, 1023]
theorem surtitleref3_Whole.tab5 : rtab .any (opsOf Tryd.f41 5) = surtitleref3_Whole.T5 := by kernel_rfl
theorem surtitleref3_Whole.bits5 : waitsOk surtitleref3_Whole.T5.2 surtitleref3_Whole.B5 = true := by kernel_rfl
set_option maxHeartbeats 8000000 in
set_option maxRecDepth 100000 in
theorem surtitleref3_Whole.calls (k : Nat) (a0_0 : Int) (a0_1 : Int) (a1 : Int) (a2 : Int) (r1 : Int) (r2 : Int) (w : World) (h : surtitleref3_Whole.f k a0_0 a0_1 a1 a2 = some (r1, r2)) :
    Calls Tryd.prog 41 #[.agg #[.int .i64 a0_0, .int .i64 a0_1], .int .i64 a1, .int .i64 a2] w fun e w' => e = .returned (.tuple #[.int .i64 r1, .int .i64 r2]) ∧ Below w.heap.size w w' := by
  have hu24 := Tryd.underlying24
  have hu74 := Tryd.underlying74
  have HB := Aside0.mk (Below.refl w.heap.size w)
  have H : ((surtitleref3_Right.f k a0_0 a0_1).bind fun t102 => (if t102 = true then (if a2 < 1 then (surtitleref3_Whole.j0 k a1 a2 true a0_0 a0_1) else (surtitleref3_Whole.j0 k a1 a2 (decide (a2 > 3)) a0_0 a0_1)) else (some (0, 12)))) = some (r1, r2) := h
  clear h
  replace H := Option.bind_eq_some_iff.mp H
  obtain ⟨t102, A40, H⟩ := H
  replace H : (if t102 = true then (if a2 < 1 then (surtitleref3_Whole.j0 k a1 a2 true a0_0 a0_1) else (surtitleref3_Whole.j0 k a1 a2 (decide (a2 > 3)) a0_0 a0_1)) else (some (0, 12))) = some (r1, r2) := H
  have A4 := Aside0.mk A40
  clear A40
  by_cases c5 : t102 = true
  · subst c5
    have H1 : (if a2 < 1 then (surtitleref3_Whole.j0 k a1 a2 true a0_0 a0_1) else (surtitleref3_Whole.j0 k a1 a2 (decide (a2 > 3)) a0_0 a0_1)) = some (r1, r2) := by rw [if_pos rfl] at H; exact H
    clear H
    have H := H1
    clear H1
    have HC6 := Aside0.mk H
    clear H
    go_enter Tryd.func41, Tryd.ntmps41
    go_upto_region 3 with (first | ((with_reducible refine gate_dst (N := 3) rfl ?_); refine box_event ?hg (N := 3) ?hd (cs := #[.int .i64 a0_0, .int .i64 a0_1]) (t := 24) ?hr ?_; (case hd => rfl); (case hg => rfl); (case hr => first | (go_simp; done) | (go_simp; rfl)); intro gb101 hg w7 hbox hb; have BK101 := Aside0.mk (hbox); have GW101 := Aside0.mk (ge1 hg (bw HB.out)); have GE101 := Aside0.mk (ge1 hg (bw HB.out)); replace HB := Aside0.mk (below_step (bw HB.out) hb); clear hb hbox hg; have hcz8_0 : w7.cell? ⟨gb101, 0, none⟩ = some (.int .i64 a0_0) := (blk_cell BK101.out 0).trans rfl; have hcz8_1 : w7.cell? ⟨gb101, 1, none⟩ = some (.int .i64 a0_1) := (blk_cell BK101.out 1).trans rfl; have hfz8_0 := blk_frozen BK101.out 0; have hfz8_1 := blk_frozen BK101.out 1) | ((with_reducible refine gate_callee (f := 20) rfl ?_); refine goesL_ (some 10) rfl rfl Tryd.func20 (by kernel_rfl) rfl #[.agg #[.int .i64 a0_0, .int .i64 a0_1]] rfl (by (try simp only [List.map_toArray, List.map_cons, List.map_nil]); first | done | rfl | (simp only [List.length_drop, List.length_take]; rfl)) ?_; (with_reducible refine (surtitleref3_Right.calls k a0_0 a0_1 true _ A4.out).mono ?_); rintro e w9 ⟨rfl, hb⟩; refine ⟨_, rfl, ?_⟩; replace BK101 := Aside0.mk (bb hb BK101.out); replace HB := Aside0.mk (below_step (bw HB.out) hb); (try clear hb); (try clear hb2); (try clear hk); (try clear hi)))
    (try simp only [Act.put, List.setIfInBounds_toArray, List.set_cons_zero, List.set_cons_succ])
    go_cut [17] (fun v17 wc => ∃ (kq : Nat) (x17_5 : Bool), v17 = .bool x17_5 ∧ Aside0 (surtitleref3_Whole.j0 kq a1 a2 x17_5 a0_0 a0_1 = some (r1, r2)) ∧ Aside0 (kq ≤ k) ∧ Aside0 (wc.heap[gb101]? = some (.cells #[.int .i64 a0_0, .int .i64 a0_1] 24 (0, 0))) ∧ Aside0 (Below w.heap.size w wc))
    case first =>
      have H := HC6.out
      clear HC6
      by_cases c10 : a2 < 1
      · rw [if_pos c10] at H
        have c10b0 : decide (a2 < 1) = true := decide_eq_true c10
        clear c10
        (first | rw [c10b0] | (simp only [i64_w, i32_w]; rw [c10b0]) | skip)
        have H' := Aside0.mk H
        clear H
        go_wp2
        go_meet
        case rel => exact ⟨_, (true), (by first | rfl | (simp; done) | (simp [*]; done)), H', ⟨by first | omega | exact Nat.le_refl _⟩, ⟨by refine bk ?_; exact BK101.out⟩, ⟨by repeat (first | (with_reducible first | exact HB.out | apply below_alloc | apply pw_below_drewN | apply below_drew1 | refine below_set ?_ GE101.out) | exact HB.out)⟩⟩
      rw [if_neg c10] at H
      have c10b0 : decide (a2 < 1) = false := decide_eq_false c10
      clear c10
      (first | rw [c10b0] | (simp only [i64_w, i32_w]; rw [c10b0]) | skip)
      have H' := Aside0.mk H
      clear H
      go_wp2
      go_meet
      case rel => exact ⟨_, (decide (a2 > 3)), (by first | rfl | (simp; done) | (simp [*]; done)), H', ⟨by first | omega | exact Nat.le_refl _⟩, ⟨by refine bk ?_; exact BK101.out⟩, ⟨by repeat (first | (with_reducible first | exact HB.out | apply below_alloc | apply pw_below_drewN | apply below_drew1 | refine below_set ?_ GE101.out) | exact HB.out)⟩⟩
    clear HC6
    try clear c5
    try clear hcz8_0
    try clear hcz8_1
    try clear hfz8_0
    try clear hfz8_1
    obtain ⟨kq, x17_5, rfl, HA, HJ5, BK101, HB⟩ := hcut
    obtain _ | kj5 := kq
    · exact absurd HA.out (by simp [surtitleref3_Whole.j0])
    have H := HA.out
    clear HA
    simp only [surtitleref3_Whole.j0] at H
    by_cases c11 : x17_5 = true
    · subst c11
      have H1 : (some (0, 1)) = some (r1, r2) := by rw [if_pos rfl] at H; exact H
      clear H
      have H := H1
      clear H1
      simp only [Option.some.injEq, Prod.mk.injEq] at H
      obtain ⟨rfl, rfl⟩ := H
      go_wp2
      go_ret2
      exact ⟨by first | rfl | (simp [errW_none, errW_some] <;> rfl) | (simp [*, errW_none, errW_some] <;> rfl), by repeat (first | (with_reducible first | exact HB.out | apply below_alloc | apply pw_below_drewN | apply below_drew1 | refine below_set ?_ GE101.out) | exact HB.out)⟩
    replace c11 := Bool.eq_false_iff.mpr c11
    subst c11
    have H1 : ((surtitleref3_Times.f a0_0 a1).bind fun bt103 => ((surtitleref3_Times.f a0_1 1).bind fun bt106 => ((surtitleref3_whole.f kj5 bt103.1 bt103.2.1 bt103.2.2 bt106.1 bt106.2.1 bt106.2.2 a2).bind fun bt109 => ((surtitleref3_fits.f bt109.1 bt109.2.1 bt109.2.2).bind fun t113 => (if t113 = true then ((surtitleref3_number.f bt109.1 bt109.2.1 bt109.2.2).bind fun t114 => (some (t114, 0))) else (some (0, 12))))))) = some (r1, r2) := by rw [if_neg (show ¬ (false = true) by decide)] at H; exact H
    clear H
    have H := H1
    clear H1
    replace H := Option.bind_eq_some_iff.mp H
    obtain ⟨⟨t103, t104, t105⟩, A120, H⟩ := H
    replace H : ((surtitleref3_Times.f a0_1 1).bind fun bt106 => ((surtitleref3_whole.f kj5 t103 t104 t105 bt106.1 bt106.2.1 bt106.2.2 a2).bind fun bt109 => ((surtitleref3_fits.f bt109.1 bt109.2.1 bt109.2.2).bind fun t113 => (if t113 = true then ((surtitleref3_number.f bt109.1 bt109.2.1 bt109.2.2).bind fun t114 => (some (t114, 0))) else (some (0, 12)))))) = some (r1, r2) := H
    have A12 := Aside0.mk A120
    clear A120
    replace H := Option.bind_eq_some_iff.mp H
    obtain ⟨⟨t106, t107, t108⟩, A130, H⟩ := H
    replace H : ((surtitleref3_whole.f kj5 t103 t104 t105 t106 t107 t108 a2).bind fun bt109 => ((surtitleref3_fits.f bt109.1 bt109.2.1 bt109.2.2).bind fun t113 => (if t113 = true then ((surtitleref3_number.f bt109.1 bt109.2.1 bt109.2.2).bind fun t114 => (some (t114, 0))) else (some (0, 12))))) = some (r1, r2) := H
    have A13 := Aside0.mk A130
    clear A130
    replace H := Option.bind_eq_some_iff.mp H
    obtain ⟨⟨t109, t110, t111⟩, A140, H⟩ := H
    replace H : ((surtitleref3_fits.f t109 t110 t111).bind fun t113 => (if t113 = true then ((surtitleref3_number.f t109 t110 t111).bind fun t114 => (some (t114, 0))) else (some (0, 12)))) = some (r1, r2) := H
    have A14 := Aside0.mk A140
    clear A140
    replace H := Option.bind_eq_some_iff.mp H
    obtain ⟨t113, A150, H⟩ := H
    replace H : (if t113 = true then ((surtitleref3_number.f t109 t110 t111).bind fun t114 => (some (t114, 0))) else (some (0, 12))) = some (r1, r2) := H
    have A15 := Aside0.mk A150
    clear A150
    by_cases c16 : t113 = true
    · subst c16
      have H1 : ((surtitleref3_number.f t109 t110 t111).bind fun t114 => (some (t114, 0))) = some (r1, r2) := by rw [if_pos rfl] at H; exact H
      clear H
      have H := H1
      clear H1
      replace H := Option.bind_eq_some_iff.mp H
      obtain ⟨t114, A170, H⟩ := H
      replace H : (some (t114, 0)) = some (r1, r2) := H
      have A17 := Aside0.mk A170
      clear A170
      simp only [Option.some.injEq, Prod.mk.injEq] at H
      obtain ⟨rfl, rfl⟩ := H
      try go_wp2
      have n0_ := Aside0.mk (blk_drew BK101.out)
      have n1_ := Aside0.mk (below_drew1 HB.out)
      clear BK101
      clear HB
      have BK101 := n0_
      have HB := n1_
      clear n0_ n1_
      refine start_ (n := 11) (S := fun w' => w'.cell? ⟨gb101, 0, none⟩ = some (.int .i64 a0_0) ∧ w'.cell? ⟨gb101, 1, none⟩ = some (.int .i64 a0_1)) (ds := []) #[false, false, false, false, false, false, false, false, false, false, false] (by kernel_rfl) rfl rfl ⟨(blk_cell BK101.out 0).trans rfl, (blk_cell BK101.out 1).trans rfl⟩ (fun hHeld => ?_); refine with_tabW surtitleref3_Whole.tab5 surtitleref3_Whole.bits5 (fun HT_ HW_ => ?_)
      generalize wc.drew = w18 at BK101 HB hHeld ⊢
      refine pure_ (i := 0) (N := some 18) (v := ?_) (a' := ?_) #[true, false, false, false, false, false, false, false, false, false, false] rfl rfl (any_of HT_.out (by kernel_rfl)) (fun _ _ _ h => h) (Or.inl ⟨by rfl, ?_⟩) ?_ ?_
      rotate_left
      · intro w'
        go_simp
        with_reducible rfl
      rotate_left
      · simp only [Act.put, List.setIfInBounds_toArray, List.set_cons_zero, List.set_cons_succ, i64_w, i32_w]
        rfl
      refine pure_ (i := 2) (N := some 20) (v := ?_) (a' := ?_) #[true, false, true, false, false, false, false, false, false, false, false] rfl rfl (any_of HT_.out (by kernel_rfl)) (fun _ _ _ h => h) (Or.inl ⟨by rfl, ?_⟩) ?_ ?_
      rotate_left
      · intro w'
        go_simp
        with_reducible rfl
      rotate_left
      · simp only [Act.put, List.setIfInBounds_toArray, List.set_cons_zero, List.set_cons_succ, i64_w, i32_w]
        rfl
      refine pure_ (i := 4) (N := some 22) (v := ?_) (a' := ?_) #[true, false, true, false, true, false, false, false, false, false, false] rfl rfl (any_of HT_.out (by kernel_rfl)) (fun _ _ _ h => h) (Or.inl ⟨by rfl, ?_⟩) ?_ ?_
      rotate_left
      · intro w'
        go_simp
        with_reducible rfl
      rotate_left
      · simp only [Act.put, List.setIfInBounds_toArray, List.set_cons_zero, List.set_cons_succ, i64_w, i32_w]
        rfl
      refine pure_ (i := 7) (N := some 25) (v := ?_) (a' := ?_) #[true, false, true, false, true, false, false, true, false, false, false] rfl rfl (any_of HT_.out (by kernel_rfl)) (fun _ _ _ h => h) (Or.inl ⟨by rfl, ?_⟩) ?_ ?_
      rotate_left
      · intro w'
        go_simp
        with_reducible rfl
      rotate_left
      · simp only [Act.put, List.setIfInBounds_toArray, List.set_cons_zero, List.set_cons_succ, i64_w, i32_w]
        rfl
      refine take_ (i := 1) (N := some 19) (v := ?_) (a' := ?_) #[true, true, true, false, true, false, false, true, false, false, false] rfl rfl (take_ofW HT_.out HW_.out (by kernel_rfl)) (fun _ _ _ h => h) (Or.inl ⟨by rfl, ?_⟩) hHeld ?_ ?_
      rotate_left
      · rintro w' ⟨s0, s1⟩
        go_simp
        with_reducible rfl
      rotate_left
      · simp only [Act.put, List.setIfInBounds_toArray, List.set_cons_zero, List.set_cons_succ, i64_w, i32_w]
        rfl
      refine take_ (i := 5) (N := some 23) (v := ?_) (a' := ?_) #[true, true, true, false, true, true, false, true, false, false, false] rfl rfl (take_ofW HT_.out HW_.out (by kernel_rfl)) (fun _ _ _ h => h) (Or.inl ⟨by rfl, ?_⟩) hHeld ?_ ?_
      rotate_left
      · rintro w' ⟨s0, s1⟩
        go_simp
        with_reducible rfl
      rotate_left
      · simp only [Act.put, List.setIfInBounds_toArray, List.set_cons_zero, List.set_cons_succ, i64_w, i32_w]
        rfl
      refine join_ (σ := Nat) 1 #[true, true, true, true, true, true, true, true, true, true, false] (fun s_ => [(21, .agg #[.bool t103, .int .u64 t104, .int .u64 t105]), (24, .agg #[.bool t106, .int .u64 t107, .int .u64 t108]), (26, .agg #[.bool t109, .int .u64 t110, .int .u64 t111]), (8, .pointer (some ⟨s_, 0, none⟩))]) (fun s_ w' => (w'.cell? ⟨gb101, 0, none⟩ = some (.int .i64 a0_0) ∧ w'.cell? ⟨gb101, 1, none⟩ = some (.int .i64 a0_1)) ∧ (w'.heap[gb101]? = some (.cells #[.int .i64 a0_0, .int .i64 a0_1] 24 (0, 0))) ∧ (w'.heap[s_]? = some (.cells #[.bool false, .int .u64 0, .int .u64 0] 74 (0, 0))) ∧ (w.heap.size ≤ s_) ∧ (w.heap.size ≤ s_) ∧ (gb101 ≠ s_) ∧ (s_ ≠ gb101) ∧ (Below w.heap.size w w')) ?_ ?_
      rotate_left
      · intro hCont
        refine two_ (i := 3) (j := 9) (Ni := some 21) (Nj := some 8) #[true, true, true, true, true, true, false, true, false, false, false] #[true, true, true, false, true, true, false, true, false, true, false] rfl rfl rfl rfl (two_of HT_.out (by kernel_rfl)) (by decide) (by decide) (fun K hK => ?_) (fun K hK => ?_)
        · skip
          refine goes_ Tryd.func52 (by kernel_rfl) rfl #[.int .i64 a0_0, .int .i64 a1] (by rfl) rfl rfl (by (try simp only [List.map_toArray, List.map_cons, List.map_nil]); first | done | rfl | (simp only [List.length_drop, List.length_take]; rfl)) ?_
          with_reducible refine (surtitleref3_Times.calls a0_0 a1 t103 t104 t105 _ A12.out).mono ?_
          rintro e w19 ⟨rfl, hb⟩
          refine ⟨_, rfl, ?_⟩
          have n0_ := Aside0.mk (bb hb BK101.out)
          have n1_ := Aside0.mk (below_step (bw HB.out) hb)
          clear BK101
          clear HB
          have BK101 := n0_
          have HB := n1_
          clear n0_ n1_
          (try clear hb)
          (try clear hb2)
          (try clear hk)
          (try clear hi)
          refine hK.out _ _ ⟨(blk_cell BK101.out 0).trans rfl, (blk_cell BK101.out 1).trans rfl⟩ (fun hHeld => ?_)
          clear hK K
          refine norm_ (a' := ?_) ?_ ?_
          rotate_left
          · show Act.put _ (some 21) _ = _
            simp only [Act.put, List.setIfInBounds_toArray, List.set_cons_zero, List.set_cons_succ, i64_w, i32_w]
            rfl
          refine two_ (i := 6) (j := 9) (Ni := some 24) (Nj := some 8) #[true, true, true, true, true, true, true, true, false, false, false] #[true, true, true, true, true, true, false, true, false, true, false] rfl rfl rfl rfl (two_of HT_.out (by kernel_rfl)) (by decide) (by decide) (fun K hK => ?_) (fun K hK => ?_)
          · skip
            refine goes_ Tryd.func52 (by kernel_rfl) rfl #[.int .i64 a0_1, .int .i64 1] (by rfl) rfl rfl (by (try simp only [List.map_toArray, List.map_cons, List.map_nil]); first | done | rfl | (simp only [List.length_drop, List.length_take]; rfl)) ?_
            with_reducible refine (surtitleref3_Times.calls a0_1 1 t106 t107 t108 _ A13.out).mono ?_
            rintro e w20 ⟨rfl, hb⟩
            refine ⟨_, rfl, ?_⟩
            have n0_ := Aside0.mk (bb hb BK101.out)
            have n1_ := Aside0.mk (below_step (bw HB.out) hb)
            clear BK101
            clear HB
            have BK101 := n0_
            have HB := n1_
            clear n0_ n1_
            (try clear hb)
            (try clear hb2)
            (try clear hk)
            (try clear hi)
            refine hK.out _ _ ⟨(blk_cell BK101.out 0).trans rfl, (blk_cell BK101.out 1).trans rfl⟩ (fun hHeld => ?_)
            clear hK K
            refine norm_ (a' := ?_) ?_ ?_
            rotate_left
            · show Act.put _ (some 24) _ = _
              simp only [Act.put, List.setIfInBounds_toArray, List.set_cons_zero, List.set_cons_succ, i64_w, i32_w]
              rfl
            refine two_ (i := 8) (j := 9) (Ni := some 26) (Nj := some 8) #[true, true, true, true, true, true, true, true, true, false, false] #[true, true, true, true, true, true, true, true, false, true, false] rfl rfl rfl rfl (two_of HT_.out (by kernel_rfl)) (by decide) (by decide) (fun K hK => ?_) (fun K hK => ?_)
            · skip
              refine goes_ Tryd.func68 (by kernel_rfl) rfl #[.agg #[.bool t103, .int .u64 t104, .int .u64 t105], .agg #[.bool t106, .int .u64 t107, .int .u64 t108], .int .i64 a2] (by rfl) rfl rfl (by (try simp only [List.map_toArray, List.map_cons, List.map_nil]); first | done | rfl | (simp only [List.length_drop, List.length_take]; rfl)) ?_
              with_reducible refine (surtitleref3_whole.calls kj5 t103 t104 t105 t106 t107 t108 a2 t109 t110 t111 _ A14.out).mono ?_
              rintro e w21 ⟨rfl, hb⟩
              refine ⟨_, rfl, ?_⟩
              have n0_ := Aside0.mk (bb hb BK101.out)
              have n1_ := Aside0.mk (below_step (bw HB.out) hb)
              clear BK101
              clear HB
              have BK101 := n0_
              have HB := n1_
              clear n0_ n1_
              (try clear hb)
              (try clear hb2)
              (try clear hk)
              (try clear hi)
              refine hK.out _ _ ⟨(blk_cell BK101.out 0).trans rfl, (blk_cell BK101.out 1).trans rfl⟩ (fun hHeld => ?_)
              clear hK K
              refine norm_ (a' := ?_) ?_ ?_
              rotate_left
              · show Act.put _ (some 26) _ = _
                simp only [Act.put, List.setIfInBounds_toArray, List.set_cons_zero, List.set_cons_succ, i64_w, i32_w]
                rfl
              refine one_ (i := 9) (N := some 8) #[true, true, true, true, true, true, true, true, true, true, false] rfl rfl (one_of HT_.out (by kernel_rfl)) (by decide) (fun K hK => ?_)
              refine box_step ?hg (N := 8) ?hd (cs := #[.bool false, .int .u64 0, .int .u64 0]) (t := 74) ?hr ?_; (case hd => rfl); (case hg => rfl); (case hr => first | (go_simp; done) | (go_simp; rfl))
              intro gb112 hg w22 hbox hb
              have n0_ := Aside0.mk (bb hb BK101.out)
              have n1_ := Aside0.mk (below_step (bw HB.out) hb)
              have n2_ := Aside0.mk (hbox)
              have n3_ := Aside0.mk (ge1 hg (bw HB.out))
              have n4_ := Aside0.mk (ge1 hg (bw HB.out))
              have n5_ := Aside0.mk (ne1 hg (bk BK101.out))
              have n6_ := Aside0.mk (ne2 hg (bk BK101.out))
              clear BK101
              clear HB
              have BK101 := n0_
              have HB := n1_
              have BK112 := n2_
              have GW112 := n3_
              have GE112 := n4_
              have NB101_112 := n5_
              have NB112_101 := n6_
              clear n0_ n1_ n2_ n3_ n4_ n5_ n6_
              clear hb hbox hg
              refine hK.out _ _ ⟨(blk_cell BK101.out 0).trans rfl, (blk_cell BK101.out 1).trans rfl⟩ (fun hHeld => ?_)
              clear hK K
              refine norm_ (a' := ?_) ?_ ?_
              rotate_left
              · show Act.put _ (some 8) _ = _
                simp only [Act.put, List.setIfInBounds_toArray, List.set_cons_zero, List.set_cons_succ, i64_w, i32_w]
                rfl
              exact norm_ (by simp only [putAll, Act.put, List.setIfInBounds_toArray, List.set_cons_zero, List.set_cons_succ]) (hCont (gb112) _ ⟨hHeld, (bk BK101.out), (bk BK112.out), GW112.out, GE112.out, NB101_112.out, NB112_101.out, (bw HB.out)⟩)
            skip
            refine box_step ?hg (N := 8) ?hd (cs := #[.bool false, .int .u64 0, .int .u64 0]) (t := 74) ?hr ?_; (case hd => rfl); (case hg => rfl); (case hr => first | (go_simp; done) | (go_simp; rfl))
            intro gb112 hg w21 hbox hb
            have n0_ := Aside0.mk (bb hb BK101.out)
            have n1_ := Aside0.mk (below_step (bw HB.out) hb)
            have n2_ := Aside0.mk (hbox)
            have n3_ := Aside0.mk (ge1 hg (bw HB.out))
            have n4_ := Aside0.mk (ge1 hg (bw HB.out))
            have n5_ := Aside0.mk (ne1 hg (bk BK101.out))
            have n6_ := Aside0.mk (ne2 hg (bk BK101.out))
            clear BK101
            clear HB
            have BK101 := n0_
            have HB := n1_
            have BK112 := n2_
            have GW112 := n3_
            have GE112 := n4_
            have NB101_112 := n5_
            have NB112_101 := n6_
            clear n0_ n1_ n2_ n3_ n4_ n5_ n6_
            clear hb hbox hg
            refine hK.out _ _ ⟨(blk_cell BK101.out 0).trans rfl, (blk_cell BK101.out 1).trans rfl⟩ (fun hHeld => ?_)
            clear hK K
            refine norm_ (a' := ?_) ?_ ?_
            rotate_left
            · show Act.put _ (some 8) _ = _
              simp only [Act.put, List.setIfInBounds_toArray, List.set_cons_zero, List.set_cons_succ, i64_w, i32_w]
              rfl
            refine one_ (i := 8) (N := some 26) #[true, true, true, true, true, true, true, true, true, true, false] rfl rfl (one_of HT_.out (by kernel_rfl)) (by decide) (fun K hK => ?_)
            refine goes_ Tryd.func68 (by kernel_rfl) rfl #[.agg #[.bool t103, .int .u64 t104, .int .u64 t105], .agg #[.bool t106, .int .u64 t107, .int .u64 t108], .int .i64 a2] (by rfl) rfl rfl (by (try simp only [List.map_toArray, List.map_cons, List.map_nil]); first | done | rfl | (simp only [List.length_drop, List.length_take]; rfl)) ?_
            with_reducible refine (surtitleref3_whole.calls kj5 t103 t104 t105 t106 t107 t108 a2 t109 t110 t111 _ A14.out).mono ?_
            rintro e w22 ⟨rfl, hb⟩
            refine ⟨_, rfl, ?_⟩
            have n0_ := Aside0.mk (bb hb BK101.out)
            have n1_ := Aside0.mk (bb hb BK112.out)
            have n2_ := Aside0.mk (below_step (bw HB.out) hb)
            clear BK101
            clear BK112
            clear HB
            have BK101 := n0_
            have BK112 := n1_
            have HB := n2_
            clear n0_ n1_ n2_
            (try clear hb)
            (try clear hb2)
            (try clear hk)
            (try clear hi)
            refine hK.out _ _ ⟨(blk_cell BK101.out 0).trans rfl, (blk_cell BK101.out 1).trans rfl⟩ (fun hHeld => ?_)
            clear hK K
            refine norm_ (a' := ?_) ?_ ?_
            rotate_left
            · show Act.put _ (some 26) _ = _
              simp only [Act.put, List.setIfInBounds_toArray, List.set_cons_zero, List.set_cons_succ, i64_w, i32_w]
              rfl
            exact norm_ (by simp only [putAll, Act.put, List.setIfInBounds_toArray, List.set_cons_zero, List.set_cons_succ]) (hCont (gb112) _ ⟨hHeld, (bk BK101.out), (bk BK112.out), GW112.out, GE112.out, NB101_112.out, NB112_101.out, (bw HB.out)⟩)
          skip
          refine box_step ?hg (N := 8) ?hd (cs := #[.bool false, .int .u64 0, .int .u64 0]) (t := 74) ?hr ?_; (case hd => rfl); (case hg => rfl); (case hr => first | (go_simp; done) | (go_simp; rfl))
          intro gb112 hg w20 hbox hb
          have n0_ := Aside0.mk (bb hb BK101.out)
          have n1_ := Aside0.mk (below_step (bw HB.out) hb)
          have n2_ := Aside0.mk (hbox)
          have n3_ := Aside0.mk (ge1 hg (bw HB.out))
          have n4_ := Aside0.mk (ge1 hg (bw HB.out))
          have n5_ := Aside0.mk (ne1 hg (bk BK101.out))
          have n6_ := Aside0.mk (ne2 hg (bk BK101.out))
          clear BK101
          clear HB
          have BK101 := n0_
          have HB := n1_
          have BK112 := n2_
          have GW112 := n3_
          have GE112 := n4_
          have NB101_112 := n5_
          have NB112_101 := n6_
          clear n0_ n1_ n2_ n3_ n4_ n5_ n6_
          clear hb hbox hg
          refine hK.out _ _ ⟨(blk_cell BK101.out 0).trans rfl, (blk_cell BK101.out 1).trans rfl⟩ (fun hHeld => ?_)
          clear hK K
          refine norm_ (a' := ?_) ?_ ?_
          rotate_left
          · show Act.put _ (some 8) _ = _
            simp only [Act.put, List.setIfInBounds_toArray, List.set_cons_zero, List.set_cons_succ, i64_w, i32_w]
            rfl
          refine one_ (i := 6) (N := some 24) #[true, true, true, true, true, true, true, true, false, true, false] rfl rfl (one_of HT_.out (by kernel_rfl)) (by decide) (fun K hK => ?_)
          refine goes_ Tryd.func52 (by kernel_rfl) rfl #[.int .i64 a0_1, .int .i64 1] (by rfl) rfl rfl (by (try simp only [List.map_toArray, List.map_cons, List.map_nil]); first | done | rfl | (simp only [List.length_drop, List.length_take]; rfl)) ?_
          with_reducible refine (surtitleref3_Times.calls a0_1 1 t106 t107 t108 _ A13.out).mono ?_
          rintro e w21 ⟨rfl, hb⟩
          refine ⟨_, rfl, ?_⟩
          have n0_ := Aside0.mk (bb hb BK101.out)
          have n1_ := Aside0.mk (bb hb BK112.out)
          have n2_ := Aside0.mk (below_step (bw HB.out) hb)
          clear BK101
          clear BK112
          clear HB
          have BK101 := n0_
          have BK112 := n1_
          have HB := n2_
          clear n0_ n1_ n2_
          (try clear hb)
          (try clear hb2)
          (try clear hk)
          (try clear hi)
          refine hK.out _ _ ⟨(blk_cell BK101.out 0).trans rfl, (blk_cell BK101.out 1).trans rfl⟩ (fun hHeld => ?_)
          clear hK K
          refine norm_ (a' := ?_) ?_ ?_
          rotate_left
          · show Act.put _ (some 24) _ = _
            simp only [Act.put, List.setIfInBounds_toArray, List.set_cons_zero, List.set_cons_succ, i64_w, i32_w]
            rfl
          refine one_ (i := 8) (N := some 26) #[true, true, true, true, true, true, true, true, true, true, false] rfl rfl (one_of HT_.out (by kernel_rfl)) (by decide) (fun K hK => ?_)
          refine goes_ Tryd.func68 (by kernel_rfl) rfl #[.agg #[.bool t103, .int .u64 t104, .int .u64 t105], .agg #[.bool t106, .int .u64 t107, .int .u64 t108], .int .i64 a2] (by rfl) rfl rfl (by (try simp only [List.map_toArray, List.map_cons, List.map_nil]); first | done | rfl | (simp only [List.length_drop, List.length_take]; rfl)) ?_
          with_reducible refine (surtitleref3_whole.calls kj5 t103 t104 t105 t106 t107 t108 a2 t109 t110 t111 _ A14.out).mono ?_
          rintro e w22 ⟨rfl, hb⟩
          refine ⟨_, rfl, ?_⟩
          have n0_ := Aside0.mk (bb hb BK101.out)
          have n1_ := Aside0.mk (bb hb BK112.out)
          have n2_ := Aside0.mk (below_step (bw HB.out) hb)
          clear BK101
          clear BK112
          clear HB
          have BK101 := n0_
          have BK112 := n1_
          have HB := n2_
          clear n0_ n1_ n2_
          (try clear hb)
          (try clear hb2)
          (try clear hk)
          (try clear hi)
          refine hK.out _ _ ⟨(blk_cell BK101.out 0).trans rfl, (blk_cell BK101.out 1).trans rfl⟩ (fun hHeld => ?_)
          clear hK K
          refine norm_ (a' := ?_) ?_ ?_
          rotate_left
          · show Act.put _ (some 26) _ = _
            simp only [Act.put, List.setIfInBounds_toArray, List.set_cons_zero, List.set_cons_succ, i64_w, i32_w]
            rfl
          exact norm_ (by simp only [putAll, Act.put, List.setIfInBounds_toArray, List.set_cons_zero, List.set_cons_succ]) (hCont (gb112) _ ⟨hHeld, (bk BK101.out), (bk BK112.out), GW112.out, GE112.out, NB101_112.out, NB112_101.out, (bw HB.out)⟩)
        skip
        refine box_step ?hg (N := 8) ?hd (cs := #[.bool false, .int .u64 0, .int .u64 0]) (t := 74) ?hr ?_; (case hd => rfl); (case hg => rfl); (case hr => first | (go_simp; done) | (go_simp; rfl))
        intro gb112 hg w19 hbox hb
        have n0_ := Aside0.mk (bb hb BK101.out)
        have n1_ := Aside0.mk (below_step (bw HB.out) hb)
        have n2_ := Aside0.mk (hbox)
        have n3_ := Aside0.mk (ge1 hg (bw HB.out))
        have n4_ := Aside0.mk (ge1 hg (bw HB.out))
        have n5_ := Aside0.mk (ne1 hg (bk BK101.out))
        have n6_ := Aside0.mk (ne2 hg (bk BK101.out))
        clear BK101
        clear HB
        have BK101 := n0_
        have HB := n1_
        have BK112 := n2_
        have GW112 := n3_
        have GE112 := n4_
        have NB101_112 := n5_
        have NB112_101 := n6_
        clear n0_ n1_ n2_ n3_ n4_ n5_ n6_
        clear hb hbox hg
        refine hK.out _ _ ⟨(blk_cell BK101.out 0).trans rfl, (blk_cell BK101.out 1).trans rfl⟩ (fun hHeld => ?_)
        clear hK K
        refine norm_ (a' := ?_) ?_ ?_
        rotate_left
        · show Act.put _ (some 8) _ = _
          simp only [Act.put, List.setIfInBounds_toArray, List.set_cons_zero, List.set_cons_succ, i64_w, i32_w]
          rfl
        refine one_ (i := 3) (N := some 21) #[true, true, true, true, true, true, false, true, false, true, false] rfl rfl (one_of HT_.out (by kernel_rfl)) (by decide) (fun K hK => ?_)
        refine goes_ Tryd.func52 (by kernel_rfl) rfl #[.int .i64 a0_0, .int .i64 a1] (by rfl) rfl rfl (by (try simp only [List.map_toArray, List.map_cons, List.map_nil]); first | done | rfl | (simp only [List.length_drop, List.length_take]; rfl)) ?_
        with_reducible refine (surtitleref3_Times.calls a0_0 a1 t103 t104 t105 _ A12.out).mono ?_
        rintro e w20 ⟨rfl, hb⟩
        refine ⟨_, rfl, ?_⟩
        have n0_ := Aside0.mk (bb hb BK101.out)
        have n1_ := Aside0.mk (bb hb BK112.out)
        have n2_ := Aside0.mk (below_step (bw HB.out) hb)
        clear BK101
        clear BK112
        clear HB
        have BK101 := n0_
        have BK112 := n1_
        have HB := n2_
        clear n0_ n1_ n2_
        (try clear hb)
        (try clear hb2)
        (try clear hk)
        (try clear hi)
        refine hK.out _ _ ⟨(blk_cell BK101.out 0).trans rfl, (blk_cell BK101.out 1).trans rfl⟩ (fun hHeld => ?_)
        clear hK K
        refine norm_ (a' := ?_) ?_ ?_
        rotate_left
        · show Act.put _ (some 21) _ = _
          simp only [Act.put, List.setIfInBounds_toArray, List.set_cons_zero, List.set_cons_succ, i64_w, i32_w]
          rfl
        refine one_ (i := 6) (N := some 24) #[true, true, true, true, true, true, true, true, false, true, false] rfl rfl (one_of HT_.out (by kernel_rfl)) (by decide) (fun K hK => ?_)
        refine goes_ Tryd.func52 (by kernel_rfl) rfl #[.int .i64 a0_1, .int .i64 1] (by rfl) rfl rfl (by (try simp only [List.map_toArray, List.map_cons, List.map_nil]); first | done | rfl | (simp only [List.length_drop, List.length_take]; rfl)) ?_
        with_reducible refine (surtitleref3_Times.calls a0_1 1 t106 t107 t108 _ A13.out).mono ?_
        rintro e w21 ⟨rfl, hb⟩
        refine ⟨_, rfl, ?_⟩
        have n0_ := Aside0.mk (bb hb BK101.out)
        have n1_ := Aside0.mk (bb hb BK112.out)
        have n2_ := Aside0.mk (below_step (bw HB.out) hb)
        clear BK101
        clear BK112
        clear HB
        have BK101 := n0_
        have BK112 := n1_
        have HB := n2_
        clear n0_ n1_ n2_
        (try clear hb)
        (try clear hb2)
        (try clear hk)
        (try clear hi)
        refine hK.out _ _ ⟨(blk_cell BK101.out 0).trans rfl, (blk_cell BK101.out 1).trans rfl⟩ (fun hHeld => ?_)
        clear hK K
        refine norm_ (a' := ?_) ?_ ?_
        rotate_left
        · show Act.put _ (some 24) _ = _
          simp only [Act.put, List.setIfInBounds_toArray, List.set_cons_zero, List.set_cons_succ, i64_w, i32_w]
          rfl
        refine one_ (i := 8) (N := some 26) #[true, true, true, true, true, true, true, true, true, true, false] rfl rfl (one_of HT_.out (by kernel_rfl)) (by decide) (fun K hK => ?_)
        refine goes_ Tryd.func68 (by kernel_rfl) rfl #[.agg #[.bool t103, .int .u64 t104, .int .u64 t105], .agg #[.bool t106, .int .u64 t107, .int .u64 t108], .int .i64 a2] (by rfl) rfl rfl (by (try simp only [List.map_toArray, List.map_cons, List.map_nil]); first | done | rfl | (simp only [List.length_drop, List.length_take]; rfl)) ?_
        with_reducible refine (surtitleref3_whole.calls kj5 t103 t104 t105 t106 t107 t108 a2 t109 t110 t111 _ A14.out).mono ?_
        rintro e w22 ⟨rfl, hb⟩
        refine ⟨_, rfl, ?_⟩
        have n0_ := Aside0.mk (bb hb BK101.out)
        have n1_ := Aside0.mk (bb hb BK112.out)
        have n2_ := Aside0.mk (below_step (bw HB.out) hb)
        clear BK101
        clear BK112
        clear HB
        have BK101 := n0_
        have BK112 := n1_
        have HB := n2_
        clear n0_ n1_ n2_
        (try clear hb)
        (try clear hb2)
        (try clear hk)
        (try clear hi)
        refine hK.out _ _ ⟨(blk_cell BK101.out 0).trans rfl, (blk_cell BK101.out 1).trans rfl⟩ (fun hHeld => ?_)
        clear hK K
        refine norm_ (a' := ?_) ?_ ?_
        rotate_left
        · show Act.put _ (some 26) _ = _
          simp only [Act.put, List.setIfInBounds_toArray, List.set_cons_zero, List.set_cons_succ, i64_w, i32_w]
          rfl
        exact norm_ (by simp only [putAll, Act.put, List.setIfInBounds_toArray, List.set_cons_zero, List.set_cons_succ]) (hCont (gb112) _ ⟨hHeld, (bk BK101.out), (bk BK112.out), GW112.out, GE112.out, NB101_112.out, NB112_101.out, (bw HB.out)⟩)
      rintro gb112 w23 ⟨hS_, h0_, h1_, h2_, h3_, h4_, h5_, h6_⟩
      have n0_ : Aside0 (w23.heap[gb101]? = some (.cells #[.int .i64 a0_0, .int .i64 a0_1] 24 (0, 0))) := ⟨h0_⟩
      have n1_ : Aside0 (w23.heap[gb112]? = some (.cells #[.bool false, .int .u64 0, .int .u64 0] 74 (0, 0))) := ⟨h1_⟩
      have n2_ : Aside0 (w.heap.size ≤ gb112) := ⟨h2_⟩
      have n3_ : Aside0 (w.heap.size ≤ gb112) := ⟨h3_⟩
      have n4_ : Aside0 (gb101 ≠ gb112) := ⟨h4_⟩
      have n5_ : Aside0 (gb112 ≠ gb101) := ⟨h5_⟩
      have n6_ : Aside0 (Below w.heap.size w w23) := ⟨h6_⟩
      clear BK101
      clear HB
      clear h0_ h1_ h2_ h3_ h4_ h5_ h6_
      have BK101 := n0_
      have BK112 := n1_
      have GW112 := n2_
      have GE112 := n3_
      have NB101_112 := n4_
      have NB112_101 := n5_
      have HB := n6_
      clear n0_ n1_ n2_ n3_ n4_ n5_ n6_
      have hHeld : w23.cell? ⟨gb101, 0, none⟩ = some (.int .i64 a0_0) ∧ w23.cell? ⟨gb101, 1, none⟩ = some (.int .i64 a0_1) := hS_
      refine norm_ (a' := ?_) ?_ ?_
      rotate_left
      · simp only [putAll, Act.put, List.setIfInBounds_toArray, List.set_cons_zero, List.set_cons_succ]
        rfl
      refine one_ (i := 10) (N := none) #[true, true, true, true, true, true, true, true, true, true, true] rfl rfl (one_of HT_.out (by kernel_rfl)) (by decide) (fun K hK => ?_)
      have hs24 : w23.cell? ⟨gb112, 0, none⟩ = some (.bool false) := (blk_cell BK112.out 0).trans rfl
      have hfs24 := blk_frozen BK112.out 0
      have hns24_0 := NB101_112.out
      have hms24_0 := NB112_101.out
      have hs25 : w23.cell? ⟨gb112, 1, none⟩ = some (.int .u64 0) := (blk_cell BK112.out 1).trans rfl
      have hfs25 := blk_frozen BK112.out 1
      have hns25_0 := NB101_112.out
      have hms25_0 := NB112_101.out
      have hs26 : w23.cell? ⟨gb112, 2, none⟩ = some (.int .u64 0) := (blk_cell BK112.out 2).trans rfl
      have hfs26 := blk_frozen BK112.out 2
      have hns26_0 := NB101_112.out
      have hms26_0 := NB112_101.out
      refine skip_ (w1 := ?_) (by rfl) rfl ?_ ?_
      rotate_left
      · go_simp
        rfl
      refine hK.out _ _ ⟨((cell_far (p := ⟨gb112, _, none⟩) NB101_112.out _).trans (((cell_far (p := ⟨gb112, _, none⟩) NB101_112.out _).trans (((cell_far (p := ⟨gb112, _, none⟩) NB101_112.out _).trans (hHeld.1)))))), ((cell_far (p := ⟨gb112, _, none⟩) NB101_112.out _).trans (((cell_far (p := ⟨gb112, _, none⟩) NB101_112.out _).trans (((cell_far (p := ⟨gb112, _, none⟩) NB101_112.out _).trans (hHeld.2))))))⟩ (fun hHeld => ?_)
      clear hK K
      refine done_ (done_of HT_.out (by kernel_rfl)) ?_
      have hnb27 := NB112_101.out
      have hnc27 := NB101_112.out
      have hcz28_0 : w23.cell? ⟨gb112, 0, none⟩ = some (.bool false) := (blk_cell BK112.out 0).trans rfl
      have hcz28_1 : w23.cell? ⟨gb112, 1, none⟩ = some (.int .u64 0) := (blk_cell BK112.out 1).trans rfl
      have hcz28_2 : w23.cell? ⟨gb112, 2, none⟩ = some (.int .u64 0) := (blk_cell BK112.out 2).trans rfl
      have hfz28_0 := blk_frozen BK112.out 0
      have hfz28_1 := blk_frozen BK112.out 1
      have hfz28_2 := blk_frozen BK112.out 2
      try go_wp2_with (first | ((with_reducible refine gate_callee (f := 69) rfl ?_); refine goesL_ (some 28) rfl rfl Tryd.func69 (by kernel_rfl) rfl #[.agg #[.bool t109, .int .u64 t110, .int .u64 t111]] rfl (by (try simp only [List.map_toArray, List.map_cons, List.map_nil]); first | done | rfl | (simp only [List.length_drop, List.length_take]; rfl)) ?_; (with_reducible refine (surtitleref3_fits.calls t109 t110 t111 true _ A15.out).mono ?_); rintro e w29 ⟨rfl, hb⟩; refine ⟨_, rfl, ?_⟩; have n0_ := Aside0.mk (bb hb BK101.out); have n1_ := Aside0.mk (blk_below (g := gb112) (o := .cells #[.bool t109, .int .u64 t110, .int .u64 t111] 74 (0, 0)) (by refine bk ?_; refine blk_put (cs := #[.bool t109, .int .u64 t110, .int .u64 0]) ?_ 2 _ rfl; refine bk ?_; refine blk_put (cs := #[.bool t109, .int .u64 0, .int .u64 0]) ?_ 1 _ rfl; refine bk ?_; refine blk_put (cs := #[.bool false, .int .u64 0, .int .u64 0]) ?_ 0 _ rfl; refine bk ?_; exact BK112.out) hb); have n2_ := Aside0.mk (below_step (bw HB.out) hb); clear BK101; clear BK112; clear HB; have BK101 := n0_; have BK112 := n1_; have HB := n2_; clear n0_ n1_ n2_; (try clear hb); (try clear hb2); (try clear hk); (try clear hi); have hcz30_0 : w29.cell? ⟨gb112, 0, none⟩ = some (.bool t109) := (blk_cell BK112.out 0).trans rfl; have hcz30_1 : w29.cell? ⟨gb112, 1, none⟩ = some (.int .u64 t110) := (blk_cell BK112.out 1).trans rfl; have hcz30_2 : w29.cell? ⟨gb112, 2, none⟩ = some (.int .u64 t111) := (blk_cell BK112.out 2).trans rfl; have hfz30_0 := blk_frozen BK112.out 0; have hfz30_1 := blk_frozen BK112.out 1; have hfz30_2 := blk_frozen BK112.out 2) | ((with_reducible refine gate_callee (f := 70) rfl ?_); refine goesL_ (some 31) rfl rfl Tryd.func70 (by kernel_rfl) rfl #[.agg #[.bool t109, .int .u64 t110, .int .u64 t111]] rfl (by (try simp only [List.map_toArray, List.map_cons, List.map_nil]); first | done | rfl | (simp only [List.length_drop, List.length_take]; rfl)) ?_; (with_reducible refine (surtitleref3_number.calls t109 t110 t111 t114 _ A17.out).mono ?_); rintro e w31 ⟨rfl, hb⟩; refine ⟨_, rfl, ?_⟩; replace BK101 := Aside0.mk (bb hb BK101.out); replace BK112 := Aside0.mk (bb hb BK112.out); replace HB := Aside0.mk (below_step (bw HB.out) hb); (try clear hb); (try clear hb2); (try clear hk); (try clear hi)))
      go_ret2
      exact ⟨by first | rfl | (simp [errW_none, errW_some] <;> rfl) | (simp [*, errW_none, errW_some] <;> rfl), by repeat (first | (with_reducible first | exact HB.out | apply below_alloc | apply pw_below_drewN | apply below_drew1 | refine below_set ?_ GE101.out | refine below_set ?_ GE112.out) | exact HB.out)⟩
    replace c16 := Bool.eq_false_iff.mpr c16
    subst c16
    have H1 : (some (0, 12)) = some (r1, r2) := by rw [if_neg (show ¬ (false = true) by decide)] at H; exact H
    clear H
    have H := H1
    clear H1
    simp only [Option.some.injEq, Prod.mk.injEq] at H
    obtain ⟨rfl, rfl⟩ := H
    try go_wp2
    have n0_ := Aside0.mk (blk_drew BK101.out)
    have n1_ := Aside0.mk (below_drew1 HB.out)
    clear BK101
    clear HB
    have BK101 := n0_
    have HB := n1_
    clear n0_ n1_
    refine start_ (n := 11) (S := fun w' => w'.cell? ⟨gb101, 0, none⟩ = some (.int .i64 a0_0) ∧ w'.cell? ⟨gb101, 1, none⟩ = some (.int .i64 a0_1)) (ds := []) #[false, false, false, false, false, false, false, false, false, false, false] (by kernel_rfl) rfl rfl ⟨(blk_cell BK101.out 0).trans rfl, (blk_cell BK101.out 1).trans rfl⟩ (fun hHeld => ?_); refine with_tabW surtitleref3_Whole.tab5 surtitleref3_Whole.bits5 (fun HT_ HW_ => ?_)
    generalize wc.drew = w32 at BK101 HB hHeld ⊢
    refine pure_ (i := 0) (N := some 18) (v := ?_) (a' := ?_) #[true, false, false, false, false, false, false, false, false, false, false] rfl rfl (any_of HT_.out (by kernel_rfl)) (fun _ _ _ h => h) (Or.inl ⟨by rfl, ?_⟩) ?_ ?_
    rotate_left
    · intro w'
      go_simp
      with_reducible rfl
    rotate_left
    · simp only [Act.put, List.setIfInBounds_toArray, List.set_cons_zero, List.set_cons_succ, i64_w, i32_w]
      rfl
    refine pure_ (i := 2) (N := some 20) (v := ?_) (a' := ?_) #[true, false, true, false, false, false, false, false, false, false, false] rfl rfl (any_of HT_.out (by kernel_rfl)) (fun _ _ _ h => h) (Or.inl ⟨by rfl, ?_⟩) ?_ ?_
    rotate_left
    · intro w'
      go_simp
      with_reducible rfl
    rotate_left
    · simp only [Act.put, List.setIfInBounds_toArray, List.set_cons_zero, List.set_cons_succ, i64_w, i32_w]
      rfl
    refine pure_ (i := 4) (N := some 22) (v := ?_) (a' := ?_) #[true, false, true, false, true, false, false, false, false, false, false] rfl rfl (any_of HT_.out (by kernel_rfl)) (fun _ _ _ h => h) (Or.inl ⟨by rfl, ?_⟩) ?_ ?_
    rotate_left
    · intro w'
      go_simp
      with_reducible rfl
    rotate_left
    · simp only [Act.put, List.setIfInBounds_toArray, List.set_cons_zero, List.set_cons_succ, i64_w, i32_w]
      rfl
    refine pure_ (i := 7) (N := some 25) (v := ?_) (a' := ?_) #[true, false, true, false, true, false, false, true, false, false, false] rfl rfl (any_of HT_.out (by kernel_rfl)) (fun _ _ _ h => h) (Or.inl ⟨by rfl, ?_⟩) ?_ ?_
    rotate_left
    · intro w'
      go_simp
      with_reducible rfl
    rotate_left
    · simp only [Act.put, List.setIfInBounds_toArray, List.set_cons_zero, List.set_cons_succ, i64_w, i32_w]
      rfl
    refine take_ (i := 1) (N := some 19) (v := ?_) (a' := ?_) #[true, true, true, false, true, false, false, true, false, false, false] rfl rfl (take_ofW HT_.out HW_.out (by kernel_rfl)) (fun _ _ _ h => h) (Or.inl ⟨by rfl, ?_⟩) hHeld ?_ ?_
    rotate_left
    · rintro w' ⟨s0, s1⟩
      go_simp
      with_reducible rfl
    rotate_left
    · simp only [Act.put, List.setIfInBounds_toArray, List.set_cons_zero, List.set_cons_succ, i64_w, i32_w]
      rfl
    refine take_ (i := 5) (N := some 23) (v := ?_) (a' := ?_) #[true, true, true, false, true, true, false, true, false, false, false] rfl rfl (take_ofW HT_.out HW_.out (by kernel_rfl)) (fun _ _ _ h => h) (Or.inl ⟨by rfl, ?_⟩) hHeld ?_ ?_
    rotate_left
    · rintro w' ⟨s0, s1⟩
      go_simp
      with_reducible rfl
    rotate_left
    · simp only [Act.put, List.setIfInBounds_toArray, List.set_cons_zero, List.set_cons_succ, i64_w, i32_w]
      rfl
    refine join_ (σ := Nat) 1 #[true, true, true, true, true, true, true, true, true, true, false] (fun s_ => [(21, .agg #[.bool t103, .int .u64 t104, .int .u64 t105]), (24, .agg #[.bool t106, .int .u64 t107, .int .u64 t108]), (26, .agg #[.bool t109, .int .u64 t110, .int .u64 t111]), (8, .pointer (some ⟨s_, 0, none⟩))]) (fun s_ w' => (w'.cell? ⟨gb101, 0, none⟩ = some (.int .i64 a0_0) ∧ w'.cell? ⟨gb101, 1, none⟩ = some (.int .i64 a0_1)) ∧ (w'.heap[gb101]? = some (.cells #[.int .i64 a0_0, .int .i64 a0_1] 24 (0, 0))) ∧ (w'.heap[s_]? = some (.cells #[.bool false, .int .u64 0, .int .u64 0] 74 (0, 0))) ∧ (w.heap.size ≤ s_) ∧ (w.heap.size ≤ s_) ∧ (gb101 ≠ s_) ∧ (s_ ≠ gb101) ∧ (Below w.heap.size w w')) ?_ ?_
    rotate_left
    · intro hCont
      refine two_ (i := 3) (j := 9) (Ni := some 21) (Nj := some 8) #[true, true, true, true, true, true, false, true, false, false, false] #[true, true, true, false, true, true, false, true, false, true, false] rfl rfl rfl rfl (two_of HT_.out (by kernel_rfl)) (by decide) (by decide) (fun K hK => ?_) (fun K hK => ?_)
      · skip
        refine goes_ Tryd.func52 (by kernel_rfl) rfl #[.int .i64 a0_0, .int .i64 a1] (by rfl) rfl rfl (by (try simp only [List.map_toArray, List.map_cons, List.map_nil]); first | done | rfl | (simp only [List.length_drop, List.length_take]; rfl)) ?_
        with_reducible refine (surtitleref3_Times.calls a0_0 a1 t103 t104 t105 _ A12.out).mono ?_
        rintro e w33 ⟨rfl, hb⟩
        refine ⟨_, rfl, ?_⟩
        have n0_ := Aside0.mk (bb hb BK101.out)
        have n1_ := Aside0.mk (below_step (bw HB.out) hb)
        clear BK101
        clear HB
        have BK101 := n0_
        have HB := n1_
        clear n0_ n1_
        (try clear hb)
        (try clear hb2)
        (try clear hk)
        (try clear hi)
        refine hK.out _ _ ⟨(blk_cell BK101.out 0).trans rfl, (blk_cell BK101.out 1).trans rfl⟩ (fun hHeld => ?_)
        clear hK K
        refine norm_ (a' := ?_) ?_ ?_
        rotate_left
        · show Act.put _ (some 21) _ = _
          simp only [Act.put, List.setIfInBounds_toArray, List.set_cons_zero, List.set_cons_succ, i64_w, i32_w]
          rfl
        refine two_ (i := 6) (j := 9) (Ni := some 24) (Nj := some 8) #[true, true, true, true, true, true, true, true, false, false, false] #[true, true, true, true, true, true, false, true, false, true, false] rfl rfl rfl rfl (two_of HT_.out (by kernel_rfl)) (by decide) (by decide) (fun K hK => ?_) (fun K hK => ?_)
        · skip
          refine goes_ Tryd.func52 (by kernel_rfl) rfl #[.int .i64 a0_1, .int .i64 1] (by rfl) rfl rfl (by (try simp only [List.map_toArray, List.map_cons, List.map_nil]); first | done | rfl | (simp only [List.length_drop, List.length_take]; rfl)) ?_
          with_reducible refine (surtitleref3_Times.calls a0_1 1 t106 t107 t108 _ A13.out).mono ?_
          rintro e w34 ⟨rfl, hb⟩
          refine ⟨_, rfl, ?_⟩
          have n0_ := Aside0.mk (bb hb BK101.out)
          have n1_ := Aside0.mk (below_step (bw HB.out) hb)
          clear BK101
          clear HB
          have BK101 := n0_
          have HB := n1_
          clear n0_ n1_
          (try clear hb)
          (try clear hb2)
          (try clear hk)
          (try clear hi)
          refine hK.out _ _ ⟨(blk_cell BK101.out 0).trans rfl, (blk_cell BK101.out 1).trans rfl⟩ (fun hHeld => ?_)
          clear hK K
          refine norm_ (a' := ?_) ?_ ?_
          rotate_left
          · show Act.put _ (some 24) _ = _
            simp only [Act.put, List.setIfInBounds_toArray, List.set_cons_zero, List.set_cons_succ, i64_w, i32_w]
            rfl
          refine two_ (i := 8) (j := 9) (Ni := some 26) (Nj := some 8) #[true, true, true, true, true, true, true, true, true, false, false] #[true, true, true, true, true, true, true, true, false, true, false] rfl rfl rfl rfl (two_of HT_.out (by kernel_rfl)) (by decide) (by decide) (fun K hK => ?_) (fun K hK => ?_)
          · skip
            refine goes_ Tryd.func68 (by kernel_rfl) rfl #[.agg #[.bool t103, .int .u64 t104, .int .u64 t105], .agg #[.bool t106, .int .u64 t107, .int .u64 t108], .int .i64 a2] (by rfl) rfl rfl (by (try simp only [List.map_toArray, List.map_cons, List.map_nil]); first | done | rfl | (simp only [List.length_drop, List.length_take]; rfl)) ?_
            with_reducible refine (surtitleref3_whole.calls kj5 t103 t104 t105 t106 t107 t108 a2 t109 t110 t111 _ A14.out).mono ?_
            rintro e w35 ⟨rfl, hb⟩
            refine ⟨_, rfl, ?_⟩
            have n0_ := Aside0.mk (bb hb BK101.out)
            have n1_ := Aside0.mk (below_step (bw HB.out) hb)
            clear BK101
            clear HB
            have BK101 := n0_
            have HB := n1_
            clear n0_ n1_
            (try clear hb)
            (try clear hb2)
            (try clear hk)
            (try clear hi)
            refine hK.out _ _ ⟨(blk_cell BK101.out 0).trans rfl, (blk_cell BK101.out 1).trans rfl⟩ (fun hHeld => ?_)
            clear hK K
            refine norm_ (a' := ?_) ?_ ?_
            rotate_left
            · show Act.put _ (some 26) _ = _
              simp only [Act.put, List.setIfInBounds_toArray, List.set_cons_zero, List.set_cons_succ, i64_w, i32_w]
              rfl
            refine one_ (i := 9) (N := some 8) #[true, true, true, true, true, true, true, true, true, true, false] rfl rfl (one_of HT_.out (by kernel_rfl)) (by decide) (fun K hK => ?_)
            refine box_step ?hg (N := 8) ?hd (cs := #[.bool false, .int .u64 0, .int .u64 0]) (t := 74) ?hr ?_; (case hd => rfl); (case hg => rfl); (case hr => first | (go_simp; done) | (go_simp; rfl))
            intro gb112 hg w36 hbox hb
            have n0_ := Aside0.mk (bb hb BK101.out)
            have n1_ := Aside0.mk (below_step (bw HB.out) hb)
            have n2_ := Aside0.mk (hbox)
            have n3_ := Aside0.mk (ge1 hg (bw HB.out))
            have n4_ := Aside0.mk (ge1 hg (bw HB.out))
            have n5_ := Aside0.mk (ne1 hg (bk BK101.out))
            have n6_ := Aside0.mk (ne2 hg (bk BK101.out))
            clear BK101
            clear HB
            have BK101 := n0_
            have HB := n1_
            have BK112 := n2_
            have GW112 := n3_
            have GE112 := n4_
            have NB101_112 := n5_
            have NB112_101 := n6_
            clear n0_ n1_ n2_ n3_ n4_ n5_ n6_
            clear hb hbox hg
            refine hK.out _ _ ⟨(blk_cell BK101.out 0).trans rfl, (blk_cell BK101.out 1).trans rfl⟩ (fun hHeld => ?_)
            clear hK K
            refine norm_ (a' := ?_) ?_ ?_
            rotate_left
            · show Act.put _ (some 8) _ = _
              simp only [Act.put, List.setIfInBounds_toArray, List.set_cons_zero, List.set_cons_succ, i64_w, i32_w]
              rfl
            exact norm_ (by simp only [putAll, Act.put, List.setIfInBounds_toArray, List.set_cons_zero, List.set_cons_succ]) (hCont (gb112) _ ⟨hHeld, (bk BK101.out), (bk BK112.out), GW112.out, GE112.out, NB101_112.out, NB112_101.out, (bw HB.out)⟩)
          skip
          refine box_step ?hg (N := 8) ?hd (cs := #[.bool false, .int .u64 0, .int .u64 0]) (t := 74) ?hr ?_; (case hd => rfl); (case hg => rfl); (case hr => first | (go_simp; done) | (go_simp; rfl))
          intro gb112 hg w35 hbox hb
          have n0_ := Aside0.mk (bb hb BK101.out)
          have n1_ := Aside0.mk (below_step (bw HB.out) hb)
          have n2_ := Aside0.mk (hbox)
          have n3_ := Aside0.mk (ge1 hg (bw HB.out))
          have n4_ := Aside0.mk (ge1 hg (bw HB.out))
          have n5_ := Aside0.mk (ne1 hg (bk BK101.out))
          have n6_ := Aside0.mk (ne2 hg (bk BK101.out))
          clear BK101
          clear HB
          have BK101 := n0_
          have HB := n1_
          have BK112 := n2_
          have GW112 := n3_
          have GE112 := n4_
          have NB101_112 := n5_
          have NB112_101 := n6_
          clear n0_ n1_ n2_ n3_ n4_ n5_ n6_
          clear hb hbox hg
          refine hK.out _ _ ⟨(blk_cell BK101.out 0).trans rfl, (blk_cell BK101.out 1).trans rfl⟩ (fun hHeld => ?_)
          clear hK K
          refine norm_ (a' := ?_) ?_ ?_
          rotate_left
          · show Act.put _ (some 8) _ = _
            simp only [Act.put, List.setIfInBounds_toArray, List.set_cons_zero, List.set_cons_succ, i64_w, i32_w]
            rfl
          refine one_ (i := 8) (N := some 26) #[true, true, true, true, true, true, true, true, true, true, false] rfl rfl (one_of HT_.out (by kernel_rfl)) (by decide) (fun K hK => ?_)
          refine goes_ Tryd.func68 (by kernel_rfl) rfl #[.agg #[.bool t103, .int .u64 t104, .int .u64 t105], .agg #[.bool t106, .int .u64 t107, .int .u64 t108], .int .i64 a2] (by rfl) rfl rfl (by (try simp only [List.map_toArray, List.map_cons, List.map_nil]); first | done | rfl | (simp only [List.length_drop, List.length_take]; rfl)) ?_
          with_reducible refine (surtitleref3_whole.calls kj5 t103 t104 t105 t106 t107 t108 a2 t109 t110 t111 _ A14.out).mono ?_
          rintro e w36 ⟨rfl, hb⟩
          refine ⟨_, rfl, ?_⟩
          have n0_ := Aside0.mk (bb hb BK101.out)
          have n1_ := Aside0.mk (bb hb BK112.out)
          have n2_ := Aside0.mk (below_step (bw HB.out) hb)
          clear BK101
          clear BK112
          clear HB
          have BK101 := n0_
          have BK112 := n1_
          have HB := n2_
          clear n0_ n1_ n2_
          (try clear hb)
          (try clear hb2)
          (try clear hk)
          (try clear hi)
          refine hK.out _ _ ⟨(blk_cell BK101.out 0).trans rfl, (blk_cell BK101.out 1).trans rfl⟩ (fun hHeld => ?_)
          clear hK K
          refine norm_ (a' := ?_) ?_ ?_
          rotate_left
          · show Act.put _ (some 26) _ = _
            simp only [Act.put, List.setIfInBounds_toArray, List.set_cons_zero, List.set_cons_succ, i64_w, i32_w]
            rfl
          exact norm_ (by simp only [putAll, Act.put, List.setIfInBounds_toArray, List.set_cons_zero, List.set_cons_succ]) (hCont (gb112) _ ⟨hHeld, (bk BK101.out), (bk BK112.out), GW112.out, GE112.out, NB101_112.out, NB112_101.out, (bw HB.out)⟩)
        skip
        refine box_step ?hg (N := 8) ?hd (cs := #[.bool false, .int .u64 0, .int .u64 0]) (t := 74) ?hr ?_; (case hd => rfl); (case hg => rfl); (case hr => first | (go_simp; done) | (go_simp; rfl))
        intro gb112 hg w34 hbox hb
        have n0_ := Aside0.mk (bb hb BK101.out)
        have n1_ := Aside0.mk (below_step (bw HB.out) hb)
        have n2_ := Aside0.mk (hbox)
        have n3_ := Aside0.mk (ge1 hg (bw HB.out))
        have n4_ := Aside0.mk (ge1 hg (bw HB.out))
        have n5_ := Aside0.mk (ne1 hg (bk BK101.out))
        have n6_ := Aside0.mk (ne2 hg (bk BK101.out))
        clear BK101
        clear HB
        have BK101 := n0_
        have HB := n1_
        have BK112 := n2_
        have GW112 := n3_
        have GE112 := n4_
        have NB101_112 := n5_
        have NB112_101 := n6_
        clear n0_ n1_ n2_ n3_ n4_ n5_ n6_
        clear hb hbox hg
        refine hK.out _ _ ⟨(blk_cell BK101.out 0).trans rfl, (blk_cell BK101.out 1).trans rfl⟩ (fun hHeld => ?_)
        clear hK K
        refine norm_ (a' := ?_) ?_ ?_
        rotate_left
        · show Act.put _ (some 8) _ = _
          simp only [Act.put, List.setIfInBounds_toArray, List.set_cons_zero, List.set_cons_succ, i64_w, i32_w]
          rfl
        refine one_ (i := 6) (N := some 24) #[true, true, true, true, true, true, true, true, false, true, false] rfl rfl (one_of HT_.out (by kernel_rfl)) (by decide) (fun K hK => ?_)
        refine goes_ Tryd.func52 (by kernel_rfl) rfl #[.int .i64 a0_1, .int .i64 1] (by rfl) rfl rfl (by (try simp only [List.map_toArray, List.map_cons, List.map_nil]); first | done | rfl | (simp only [List.length_drop, List.length_take]; rfl)) ?_
        with_reducible refine (surtitleref3_Times.calls a0_1 1 t106 t107 t108 _ A13.out).mono ?_
        rintro e w35 ⟨rfl, hb⟩
        refine ⟨_, rfl, ?_⟩
        have n0_ := Aside0.mk (bb hb BK101.out)
        have n1_ := Aside0.mk (bb hb BK112.out)
        have n2_ := Aside0.mk (below_step (bw HB.out) hb)
        clear BK101
        clear BK112
        clear HB
        have BK101 := n0_
        have BK112 := n1_
        have HB := n2_
        clear n0_ n1_ n2_
        (try clear hb)
        (try clear hb2)
        (try clear hk)
        (try clear hi)
        refine hK.out _ _ ⟨(blk_cell BK101.out 0).trans rfl, (blk_cell BK101.out 1).trans rfl⟩ (fun hHeld => ?_)
        clear hK K
        refine norm_ (a' := ?_) ?_ ?_
        rotate_left
        · show Act.put _ (some 24) _ = _
          simp only [Act.put, List.setIfInBounds_toArray, List.set_cons_zero, List.set_cons_succ, i64_w, i32_w]
          rfl
        refine one_ (i := 8) (N := some 26) #[true, true, true, true, true, true, true, true, true, true, false] rfl rfl (one_of HT_.out (by kernel_rfl)) (by decide) (fun K hK => ?_)
        refine goes_ Tryd.func68 (by kernel_rfl) rfl #[.agg #[.bool t103, .int .u64 t104, .int .u64 t105], .agg #[.bool t106, .int .u64 t107, .int .u64 t108], .int .i64 a2] (by rfl) rfl rfl (by (try simp only [List.map_toArray, List.map_cons, List.map_nil]); first | done | rfl | (simp only [List.length_drop, List.length_take]; rfl)) ?_
        with_reducible refine (surtitleref3_whole.calls kj5 t103 t104 t105 t106 t107 t108 a2 t109 t110 t111 _ A14.out).mono ?_
        rintro e w36 ⟨rfl, hb⟩
        refine ⟨_, rfl, ?_⟩
        have n0_ := Aside0.mk (bb hb BK101.out)
        have n1_ := Aside0.mk (bb hb BK112.out)
        have n2_ := Aside0.mk (below_step (bw HB.out) hb)
        clear BK101
        clear BK112
        clear HB
        have BK101 := n0_
        have BK112 := n1_
        have HB := n2_
        clear n0_ n1_ n2_
        (try clear hb)
        (try clear hb2)
        (try clear hk)
        (try clear hi)
        refine hK.out _ _ ⟨(blk_cell BK101.out 0).trans rfl, (blk_cell BK101.out 1).trans rfl⟩ (fun hHeld => ?_)
        clear hK K
        refine norm_ (a' := ?_) ?_ ?_
        rotate_left
        · show Act.put _ (some 26) _ = _
          simp only [Act.put, List.setIfInBounds_toArray, List.set_cons_zero, List.set_cons_succ, i64_w, i32_w]
          rfl
        exact norm_ (by simp only [putAll, Act.put, List.setIfInBounds_toArray, List.set_cons_zero, List.set_cons_succ]) (hCont (gb112) _ ⟨hHeld, (bk BK101.out), (bk BK112.out), GW112.out, GE112.out, NB101_112.out, NB112_101.out, (bw HB.out)⟩)
      skip
      refine box_step ?hg (N := 8) ?hd (cs := #[.bool false, .int .u64 0, .int .u64 0]) (t := 74) ?hr ?_; (case hd => rfl); (case hg => rfl); (case hr => first | (go_simp; done) | (go_simp; rfl))
      intro gb112 hg w33 hbox hb
      have n0_ := Aside0.mk (bb hb BK101.out)
      have n1_ := Aside0.mk (below_step (bw HB.out) hb)
      have n2_ := Aside0.mk (hbox)
      have n3_ := Aside0.mk (ge1 hg (bw HB.out))
      have n4_ := Aside0.mk (ge1 hg (bw HB.out))
      have n5_ := Aside0.mk (ne1 hg (bk BK101.out))
      have n6_ := Aside0.mk (ne2 hg (bk BK101.out))
      clear BK101
      clear HB
      have BK101 := n0_
      have HB := n1_
      have BK112 := n2_
      have GW112 := n3_
      have GE112 := n4_
      have NB101_112 := n5_
      have NB112_101 := n6_
      clear n0_ n1_ n2_ n3_ n4_ n5_ n6_
      clear hb hbox hg
      refine hK.out _ _ ⟨(blk_cell BK101.out 0).trans rfl, (blk_cell BK101.out 1).trans rfl⟩ (fun hHeld => ?_)
      clear hK K
      refine norm_ (a' := ?_) ?_ ?_
      rotate_left
      · show Act.put _ (some 8) _ = _
        simp only [Act.put, List.setIfInBounds_toArray, List.set_cons_zero, List.set_cons_succ, i64_w, i32_w]
        rfl
      refine one_ (i := 3) (N := some 21) #[true, true, true, true, true, true, false, true, false, true, false] rfl rfl (one_of HT_.out (by kernel_rfl)) (by decide) (fun K hK => ?_)
      refine goes_ Tryd.func52 (by kernel_rfl) rfl #[.int .i64 a0_0, .int .i64 a1] (by rfl) rfl rfl (by (try simp only [List.map_toArray, List.map_cons, List.map_nil]); first | done | rfl | (simp only [List.length_drop, List.length_take]; rfl)) ?_
      with_reducible refine (surtitleref3_Times.calls a0_0 a1 t103 t104 t105 _ A12.out).mono ?_
      rintro e w34 ⟨rfl, hb⟩
      refine ⟨_, rfl, ?_⟩
      have n0_ := Aside0.mk (bb hb BK101.out)
      have n1_ := Aside0.mk (bb hb BK112.out)
      have n2_ := Aside0.mk (below_step (bw HB.out) hb)
      clear BK101
      clear BK112
      clear HB
      have BK101 := n0_
      have BK112 := n1_
      have HB := n2_
      clear n0_ n1_ n2_
      (try clear hb)
      (try clear hb2)
      (try clear hk)
      (try clear hi)
      refine hK.out _ _ ⟨(blk_cell BK101.out 0).trans rfl, (blk_cell BK101.out 1).trans rfl⟩ (fun hHeld => ?_)
      clear hK K
      refine norm_ (a' := ?_) ?_ ?_
      rotate_left
      · show Act.put _ (some 21) _ = _
        simp only [Act.put, List.setIfInBounds_toArray, List.set_cons_zero, List.set_cons_succ, i64_w, i32_w]
        rfl
      refine one_ (i := 6) (N := some 24) #[true, true, true, true, true, true, true, true, false, true, false] rfl rfl (one_of HT_.out (by kernel_rfl)) (by decide) (fun K hK => ?_)
      refine goes_ Tryd.func52 (by kernel_rfl) rfl #[.int .i64 a0_1, .int .i64 1] (by rfl) rfl rfl (by (try simp only [List.map_toArray, List.map_cons, List.map_nil]); first | done | rfl | (simp only [List.length_drop, List.length_take]; rfl)) ?_
      with_reducible refine (surtitleref3_Times.calls a0_1 1 t106 t107 t108 _ A13.out).mono ?_
      rintro e w35 ⟨rfl, hb⟩
      refine ⟨_, rfl, ?_⟩
      have n0_ := Aside0.mk (bb hb BK101.out)
      have n1_ := Aside0.mk (bb hb BK112.out)
      have n2_ := Aside0.mk (below_step (bw HB.out) hb)
      clear BK101
      clear BK112
      clear HB
      have BK101 := n0_
      have BK112 := n1_
      have HB := n2_
      clear n0_ n1_ n2_
      (try clear hb)
      (try clear hb2)
      (try clear hk)
      (try clear hi)
      refine hK.out _ _ ⟨(blk_cell BK101.out 0).trans rfl, (blk_cell BK101.out 1).trans rfl⟩ (fun hHeld => ?_)
      clear hK K
      refine norm_ (a' := ?_) ?_ ?_
      rotate_left
      · show Act.put _ (some 24) _ = _
        simp only [Act.put, List.setIfInBounds_toArray, List.set_cons_zero, List.set_cons_succ, i64_w, i32_w]
        rfl
      refine one_ (i := 8) (N := some 26) #[true, true, true, true, true, true, true, true, true, true, false] rfl rfl (one_of HT_.out (by kernel_rfl)) (by decide) (fun K hK => ?_)
      refine goes_ Tryd.func68 (by kernel_rfl) rfl #[.agg #[.bool t103, .int .u64 t104, .int .u64 t105], .agg #[.bool t106, .int .u64 t107, .int .u64 t108], .int .i64 a2] (by rfl) rfl rfl (by (try simp only [List.map_toArray, List.map_cons, List.map_nil]); first | done | rfl | (simp only [List.length_drop, List.length_take]; rfl)) ?_
      with_reducible refine (surtitleref3_whole.calls kj5 t103 t104 t105 t106 t107 t108 a2 t109 t110 t111 _ A14.out).mono ?_
      rintro e w36 ⟨rfl, hb⟩
      refine ⟨_, rfl, ?_⟩
      have n0_ := Aside0.mk (bb hb BK101.out)
      have n1_ := Aside0.mk (bb hb BK112.out)
      have n2_ := Aside0.mk (below_step (bw HB.out) hb)
      clear BK101
      clear BK112
      clear HB
      have BK101 := n0_
      have BK112 := n1_
      have HB := n2_
      clear n0_ n1_ n2_
      (try clear hb)
      (try clear hb2)
      (try clear hk)
      (try clear hi)
      refine hK.out _ _ ⟨(blk_cell BK101.out 0).trans rfl, (blk_cell BK101.out 1).trans rfl⟩ (fun hHeld => ?_)
      clear hK K
      refine norm_ (a' := ?_) ?_ ?_
      rotate_left
      · show Act.put _ (some 26) _ = _
        simp only [Act.put, List.setIfInBounds_toArray, List.set_cons_zero, List.set_cons_succ, i64_w, i32_w]
        rfl
      exact norm_ (by simp only [putAll, Act.put, List.setIfInBounds_toArray, List.set_cons_zero, List.set_cons_succ]) (hCont (gb112) _ ⟨hHeld, (bk BK101.out), (bk BK112.out), GW112.out, GE112.out, NB101_112.out, NB112_101.out, (bw HB.out)⟩)
    rintro gb112 w37 ⟨hS_, h0_, h1_, h2_, h3_, h4_, h5_, h6_⟩
    have n0_ : Aside0 (w37.heap[gb101]? = some (.cells #[.int .i64 a0_0, .int .i64 a0_1] 24 (0, 0))) := ⟨h0_⟩
    have n1_ : Aside0 (w37.heap[gb112]? = some (.cells #[.bool false, .int .u64 0, .int .u64 0] 74 (0, 0))) := ⟨h1_⟩
    have n2_ : Aside0 (w.heap.size ≤ gb112) := ⟨h2_⟩
    have n3_ : Aside0 (w.heap.size ≤ gb112) := ⟨h3_⟩
    have n4_ : Aside0 (gb101 ≠ gb112) := ⟨h4_⟩
    have n5_ : Aside0 (gb112 ≠ gb101) := ⟨h5_⟩
    have n6_ : Aside0 (Below w.heap.size w w37) := ⟨h6_⟩
    clear BK101
    clear HB
    clear h0_ h1_ h2_ h3_ h4_ h5_ h6_
    have BK101 := n0_
    have BK112 := n1_
    have GW112 := n2_
    have GE112 := n3_
    have NB101_112 := n4_
    have NB112_101 := n5_
    have HB := n6_
    clear n0_ n1_ n2_ n3_ n4_ n5_ n6_
    have hHeld : w37.cell? ⟨gb101, 0, none⟩ = some (.int .i64 a0_0) ∧ w37.cell? ⟨gb101, 1, none⟩ = some (.int .i64 a0_1) := hS_
    refine norm_ (a' := ?_) ?_ ?_
    rotate_left
    · simp only [putAll, Act.put, List.setIfInBounds_toArray, List.set_cons_zero, List.set_cons_succ]
      rfl
    refine one_ (i := 10) (N := none) #[true, true, true, true, true, true, true, true, true, true, true] rfl rfl (one_of HT_.out (by kernel_rfl)) (by decide) (fun K hK => ?_)
    have hs38 : w37.cell? ⟨gb112, 0, none⟩ = some (.bool false) := (blk_cell BK112.out 0).trans rfl
    have hfs38 := blk_frozen BK112.out 0
    have hns38_0 := NB101_112.out
    have hms38_0 := NB112_101.out
    have hs39 : w37.cell? ⟨gb112, 1, none⟩ = some (.int .u64 0) := (blk_cell BK112.out 1).trans rfl
    have hfs39 := blk_frozen BK112.out 1
    have hns39_0 := NB101_112.out
    have hms39_0 := NB112_101.out
    have hs40 : w37.cell? ⟨gb112, 2, none⟩ = some (.int .u64 0) := (blk_cell BK112.out 2).trans rfl
    have hfs40 := blk_frozen BK112.out 2
    have hns40_0 := NB101_112.out
    have hms40_0 := NB112_101.out
    refine skip_ (w1 := ?_) (by rfl) rfl ?_ ?_
    rotate_left
    · go_simp
      rfl
    refine hK.out _ _ ⟨((cell_far (p := ⟨gb112, _, none⟩) NB101_112.out _).trans (((cell_far (p := ⟨gb112, _, none⟩) NB101_112.out _).trans (((cell_far (p := ⟨gb112, _, none⟩) NB101_112.out _).trans (hHeld.1)))))), ((cell_far (p := ⟨gb112, _, none⟩) NB101_112.out _).trans (((cell_far (p := ⟨gb112, _, none⟩) NB101_112.out _).trans (((cell_far (p := ⟨gb112, _, none⟩) NB101_112.out _).trans (hHeld.2))))))⟩ (fun hHeld => ?_)
    clear hK K
    refine done_ (done_of HT_.out (by kernel_rfl)) ?_
    have hnb41 := NB112_101.out
    have hnc41 := NB101_112.out
    have hcz42_0 : w37.cell? ⟨gb112, 0, none⟩ = some (.bool false) := (blk_cell BK112.out 0).trans rfl
    have hcz42_1 : w37.cell? ⟨gb112, 1, none⟩ = some (.int .u64 0) := (blk_cell BK112.out 1).trans rfl
    have hcz42_2 : w37.cell? ⟨gb112, 2, none⟩ = some (.int .u64 0) := (blk_cell BK112.out 2).trans rfl
    have hfz42_0 := blk_frozen BK112.out 0
    have hfz42_1 := blk_frozen BK112.out 1
    have hfz42_2 := blk_frozen BK112.out 2
    try go_wp2_with (first | ((with_reducible refine gate_callee (f := 69) rfl ?_); refine goesL_ (some 28) rfl rfl Tryd.func69 (by kernel_rfl) rfl #[.agg #[.bool t109, .int .u64 t110, .int .u64 t111]] rfl (by (try simp only [List.map_toArray, List.map_cons, List.map_nil]); first | done | rfl | (simp only [List.length_drop, List.length_take]; rfl)) ?_; (with_reducible refine (surtitleref3_fits.calls t109 t110 t111 false _ A15.out).mono ?_); rintro e w43 ⟨rfl, hb⟩; refine ⟨_, rfl, ?_⟩; have n0_ := Aside0.mk (bb hb BK101.out); have n1_ := Aside0.mk (blk_below (g := gb112) (o := .cells #[.bool t109, .int .u64 t110, .int .u64 t111] 74 (0, 0)) (by refine bk ?_; refine blk_put (cs := #[.bool t109, .int .u64 t110, .int .u64 0]) ?_ 2 _ rfl; refine bk ?_; refine blk_put (cs := #[.bool t109, .int .u64 0, .int .u64 0]) ?_ 1 _ rfl; refine bk ?_; refine blk_put (cs := #[.bool false, .int .u64 0, .int .u64 0]) ?_ 0 _ rfl; refine bk ?_; exact BK112.out) hb); have n2_ := Aside0.mk (below_step (bw HB.out) hb); clear BK101; clear BK112; clear HB; have BK101 := n0_; have BK112 := n1_; have HB := n2_; clear n0_ n1_ n2_; (try clear hb); (try clear hb2); (try clear hk); (try clear hi)))
    go_ret2
    exact ⟨by first | rfl | (simp [errW_none, errW_some] <;> rfl) | (simp [*, errW_none, errW_some] <;> rfl), by repeat (first | (with_reducible first | exact HB.out | apply below_alloc | apply pw_below_drewN | apply below_drew1 | refine below_set ?_ GE101.out | refine below_set ?_ GE112.out) | exact HB.out)⟩
  replace c5 := Bool.eq_false_iff.mpr c5
  subst c5
  have H1 : (some (0, 12)) = some (r1, r2) := by rw [if_neg (show ¬ (false = true) by decide)] at H; exact H
  clear H
  have H := H1
  clear H1
  simp only [Option.some.injEq, Prod.mk.injEq] at H
  obtain ⟨rfl, rfl⟩ := H
  go_enter Tryd.func41, Tryd.ntmps41
  go_wp2_with (first | ((with_reducible refine gate_dst (N := 3) rfl ?_); refine box_event ?hg (N := 3) ?hd (cs := #[.int .i64 a0_0, .int .i64 a0_1]) (t := 24) ?hr ?_; (case hd => rfl); (case hg => rfl); (case hr => first | (go_simp; done) | (go_simp; rfl)); intro gb101 hg w44 hbox hb; have BK101 := Aside0.mk (hbox); have GW101 := Aside0.mk (ge1 hg (bw HB.out)); have GE101 := Aside0.mk (ge1 hg (bw HB.out)); replace HB := Aside0.mk (below_step (bw HB.out) hb); clear hb hbox hg; have hcz45_0 : w44.cell? ⟨gb101, 0, none⟩ = some (.int .i64 a0_0) := (blk_cell BK101.out 0).trans rfl; have hcz45_1 : w44.cell? ⟨gb101, 1, none⟩ = some (.int .i64 a0_1) := (blk_cell BK101.out 1).trans rfl; have hfz45_0 := blk_frozen BK101.out 0; have hfz45_1 := blk_frozen BK101.out 1) | ((with_reducible refine gate_callee (f := 20) rfl ?_); refine goesL_ (some 10) rfl rfl Tryd.func20 (by kernel_rfl) rfl #[.agg #[.int .i64 a0_0, .int .i64 a0_1]] rfl (by (try simp only [List.map_toArray, List.map_cons, List.map_nil]); first | done | rfl | (simp only [List.length_drop, List.length_take]; rfl)) ?_; (with_reducible refine (surtitleref3_Right.calls k a0_0 a0_1 false _ A4.out).mono ?_); rintro e w46 ⟨rfl, hb⟩; refine ⟨_, rfl, ?_⟩; replace BK101 := Aside0.mk (bb hb BK101.out); replace HB := Aside0.mk (below_step (bw HB.out) hb); (try clear hb); (try clear hb2); (try clear hk); (try clear hi)))
  go_ret2
  exact ⟨by first | rfl | (simp [errW_none, errW_some] <;> rfl) | (simp [*, errW_none, errW_some] <;> rfl), by repeat (first | (with_reducible first | exact HB.out | apply below_alloc | apply pw_below_drewN | apply below_drew1 | refine below_set ?_ GE101.out) | exact HB.out)⟩

end Go.Proofs.YtofndakpenpkbaaDoor.PH
