-- made by wip/pp2.py out of the translation, over contracts of my own
import Derived.Test.YtofndakpenpkbaaDoorXZ
import Derived.Test.YtofndakpenpkbaaDoorPWx0
import Derived.Test.YtofndakpenpkbaaDoorPWx1
namespace Go.Proofs.YtofndakpenpkbaaDoor.PW
open Go.Proofs.YtofndakpenpkbaaDoor.PA
open Go.RowKit Go.Proofs.YtofndakpenpkbaaDoorW.PrintWords Go.Proofs.YtofndakpenpkbaaDoorW.PrintLast Go.Proofs.YtofndakpenpkbaaDoorW.PrintMore
set_option linter.unusedVariables false
set_option linter.unusedSimpArgs false

attribute [local go_sem high] eqA67
/-! ### ratio_Right: function 19: told elsewhere -/

/-! ### ratio_small: function 49: told elsewhere -/

/-! ### ratio_size: function 50: told elsewhere -/

/-! ### ratio_mul: function 58: told elsewhere -/

/-! ### ratio_wide_cmp: function 60: told elsewhere -/

/-! ### ratio_wide_plus: function 59: told elsewhere -/

/-! ### ratio_wide_over: function 84: told elsewhere -/

/-! ### ratio_frac_floor: function 90 -/
def ratio_frac_floor.j0 : Nat → Bool → Bool → Int → Int → Int → Int → Int → Int → Option (Int × Int × Bool)
  | 0, _, _, _, _, _, _, _, _ => none
  | k + 1, x20, x102000, x102001, x102002, x102003, x102004, x108000, x108001 => if x20 = true then ((ratio_small.f 1).bind fun bt109 => ((ratio_wide_plus.f x108000 x108001 bt109.1 bt109.2).bind fun bt111 => (some (bt111.1, bt111.2, x102000)))) else (some (x108000, x108001, x102000))
def ratio_frac_floor.f (k : Nat) (a0_0 : Bool) (a0_1 : Int) (a0_2 : Int) (a0_3 : Int) (a0_4 : Int) : Option (Int × Int × Bool) := (ratio_wide_over.f a0_1 a0_2 a0_3 a0_4).bind fun bt103 => (if a0_0 = true then (ratio_frac_floor.j0 k (!(bt103.2.2.1 == 0) || (!(bt103.2.2.2 == 0))) a0_0 a0_1 a0_2 a0_3 a0_4 bt103.1 bt103.2.1) else (ratio_frac_floor.j0 k false a0_0 a0_1 a0_2 a0_3 a0_4 bt103.1 bt103.2.1))
theorem ratio_frac_floor.mono_l : ∀ k, (∀ y0 y1 y2 y3 y4 y5 y6 y7, LeO (ratio_frac_floor.j0 k y0 y1 y2 y3 y4 y5 y6 y7) (ratio_frac_floor.j0 (k + 1) y0 y1 y2 y3 y4 y5 y6 y7))
  | 0 => fun _ _ _ _ _ _ _ _ r h => by simp [ratio_frac_floor.j0] at h
  | k + 1 => by
    have ih0 := ratio_frac_floor.mono_l k
    · intro y0 y1 y2 y3 y4 y5 y6 y7
      unfold ratio_frac_floor.j0
      repeat' first
      | (with_reducible exact ih0 _ _ _ _ _ _ _ _)
      | (with_reducible exact LeO.refl _)
      | (with_reducible exact LeO.none _)
      | (with_reducible refine LeO.ite ?_ ?_)
      | (with_reducible refine LeO.bind ?_ (fun _ => ?_))
      | exact ih0 _ _ _ _ _ _ _ _
      | exact LeO.none _
      | refine LeO.ite ?_ ?_
      | refine LeO.bind ?_ (fun _ => ?_)
theorem ratio_frac_floor.mono : ∀ a0 a1 a2 a3 a4 k, LeO (ratio_frac_floor.f k a0 a1 a2 a3 a4) (ratio_frac_floor.f (k + 1) a0 a1 a2 a3 a4) := by
  intro a0 a1 a2 a3 a4 k
  have ih0 := ratio_frac_floor.mono_l k
  unfold ratio_frac_floor.f
  repeat' first
      | (with_reducible exact ih0 _ _ _ _ _ _ _ _)
      | (with_reducible exact LeO.refl _)
      | (with_reducible exact LeO.none _)
      | (with_reducible refine LeO.ite ?_ ?_)
      | (with_reducible refine LeO.bind ?_ (fun _ => ?_))
      | exact ih0 _ _ _ _ _ _ _ _
      | exact LeO.none _
      | refine LeO.ite ?_ ?_
      | refine LeO.bind ?_ (fun _ => ?_)
set_option maxHeartbeats 8000000 in
set_option maxRecDepth 100000 in
theorem ratio_frac_floor.calls (k : Nat) (a0_0 : Bool) (a0_1 : Int) (a0_2 : Int) (a0_3 : Int) (a0_4 : Int) (r1 : Int) (r2 : Int) (r3 : Bool) (w : World) (h : ratio_frac_floor.f k a0_0 a0_1 a0_2 a0_3 a0_4 = some (r1, r2, r3)) :
    Calls Tryd.prog 90 #[.agg #[.bool a0_0, .int .u64 a0_1, .int .u64 a0_2, .int .u64 a0_3, .int .u64 a0_4]] w fun e w' => e = .returned (.tuple #[.agg #[.int .u64 r1, .int .u64 r2], .bool r3]) ∧ Below w.heap.size w w' := by
  have hu71 := Tryd.underlying71
  have hu67 := Tryd.underlying67
  have HB := Aside0.mk (Below.refl w.heap.size w)
  have H : ((ratio_wide_over.f a0_1 a0_2 a0_3 a0_4).bind fun bt103 => (if a0_0 = true then (ratio_frac_floor.j0 k (!(bt103.2.2.1 == 0) || (!(bt103.2.2.2 == 0))) a0_0 a0_1 a0_2 a0_3 a0_4 bt103.1 bt103.2.1) else (ratio_frac_floor.j0 k false a0_0 a0_1 a0_2 a0_3 a0_4 bt103.1 bt103.2.1))) = some (r1, r2, r3) := h
  clear h
  replace H := Option.bind_eq_some_iff.mp H
  obtain ⟨⟨t103, t104, t105, t106⟩, A20, H⟩ := H
  replace H : (if a0_0 = true then (ratio_frac_floor.j0 k (!(t105 == 0) || (!(t106 == 0))) a0_0 a0_1 a0_2 a0_3 a0_4 t103 t104) else (ratio_frac_floor.j0 k false a0_0 a0_1 a0_2 a0_3 a0_4 t103 t104)) = some (r1, r2, r3) := H
  have A2 := Aside0.mk A20
  clear A20
  have HC3 := Aside0.mk H
  clear H
  go_enter Tryd.func90, Tryd.ntmps90
  go_upto_region 2 with (first | ((with_reducible refine gate_dst (N := 1) rfl ?_); refine box_event ?hg (N := 1) ?hd (cs := #[.bool a0_0, .int .u64 a0_1, .int .u64 a0_2, .int .u64 a0_3, .int .u64 a0_4]) (t := 71) ?hr ?_; (case hd => rfl); (case hg => rfl); (case hr => first | (go_simp; done) | (go_simp; rfl)); intro gb101 hg w4 hbox hb; have BK101 := Aside0.mk (hbox); have GW101 := Aside0.mk (ge1 hg (bw HB.out)); have GE101 := Aside0.mk (ge1 hg (bw HB.out)); replace HB := Aside0.mk (below_step (bw HB.out) hb); clear hb hbox hg) | ((with_reducible refine gate_dst (N := 2) rfl ?_); refine box_event ?hg (N := 2) ?hd (cs := #[.int .u64 0, .int .u64 0]) (t := 67) ?hr ?_; (case hd => rfl); (case hg => rfl); (case hr => first | (go_simp; done) | (go_simp; rfl)); intro gb102 hg w5 hbox hb; have BK102 := Aside0.mk (hbox); have GW102 := Aside0.mk (ge1 hg (bw HB.out)); have GE102 := Aside0.mk (ge1 hg (bw HB.out)); have NB101_102 := Aside0.mk (ne1 hg (bk BK101.out)); have NB102_101 := Aside0.mk (ne2 hg (bk BK101.out)); replace BK101 := Aside0.mk (bb hb BK101.out); replace HB := Aside0.mk (below_step (bw HB.out) hb); clear hb hbox hg; have hnb6 := NB101_102.out; have hnc6 := NB102_101.out; have hcz7_0 : w5.cell? ⟨gb101, 0, none⟩ = some (.bool a0_0) := (blk_cell BK101.out 0).trans rfl; have hcz7_1 : w5.cell? ⟨gb101, 1, none⟩ = some (.int .u64 a0_1) := (blk_cell BK101.out 1).trans rfl; have hcz7_2 : w5.cell? ⟨gb101, 2, none⟩ = some (.int .u64 a0_2) := (blk_cell BK101.out 2).trans rfl; have hcz7_3 : w5.cell? ⟨gb101, 3, none⟩ = some (.int .u64 a0_3) := (blk_cell BK101.out 3).trans rfl; have hcz7_4 : w5.cell? ⟨gb101, 4, none⟩ = some (.int .u64 a0_4) := (blk_cell BK101.out 4).trans rfl; have hfz7_0 := blk_frozen BK101.out 0; have hfz7_1 := blk_frozen BK101.out 1; have hfz7_2 := blk_frozen BK101.out 2; have hfz7_3 := blk_frozen BK101.out 3; have hfz7_4 := blk_frozen BK101.out 4) | ((with_reducible refine gate_callee (f := 84) rfl ?_); refine goesL_ (some 11) rfl rfl Tryd.func84 (by kernel_rfl) rfl #[.agg #[.int .u64 a0_1, .int .u64 a0_2], .agg #[.int .u64 a0_3, .int .u64 a0_4]] rfl (by (try simp only [List.map_toArray, List.map_cons, List.map_nil]); first | done | rfl | (simp only [List.length_drop, List.length_take]; rfl)) ?_; (with_reducible refine (ratio_wide_over.calls a0_1 a0_2 a0_3 a0_4 t103 t104 t105 t106 _ A2.out).mono ?_); rintro e w8 ⟨rfl, hb⟩; refine ⟨_, rfl, ?_⟩; replace BK101 := Aside0.mk (bb hb BK101.out); replace BK102 := Aside0.mk (bb hb BK102.out); replace HB := Aside0.mk (below_step (bw HB.out) hb); (try clear hb); (try clear hb2); (try clear hk); (try clear hi)) | ((with_reducible refine gate_dst (N := 4) rfl ?_); refine box_event ?hg (N := 4) ?hd (cs := #[.int .u64 0, .int .u64 0]) (t := 67) ?hr ?_; (case hd => rfl); (case hg => rfl); (case hr => first | (go_simp; done) | (go_simp; rfl)); intro gb107 hg w9 hbox hb; have BK107 := Aside0.mk (hbox); have GW107 := Aside0.mk (ge1 hg (bw HB.out)); have GE107 := Aside0.mk (ge1 hg (bw HB.out)); have NB101_107 := Aside0.mk (ne1 hg (bk BK101.out)); have NB107_101 := Aside0.mk (ne2 hg (bk BK101.out)); have NB102_107 := Aside0.mk (ne1 hg (bk BK102.out)); have NB107_102 := Aside0.mk (ne2 hg (bk BK102.out)); replace BK101 := Aside0.mk (bb hb BK101.out); replace BK102 := Aside0.mk (bb hb BK102.out); replace HB := Aside0.mk (below_step (bw HB.out) hb); clear hb hbox hg) | ((with_reducible refine gate_dst (N := 5) rfl ?_); refine box_event ?hg (N := 5) ?hd (cs := #[.int .u64 0, .int .u64 0]) (t := 67) ?hr ?_; (case hd => rfl); (case hg => rfl); (case hr => first | (go_simp; done) | (go_simp; rfl)); intro gb108 hg w10 hbox hb; have BK108 := Aside0.mk (hbox); have GW108 := Aside0.mk (ge1 hg (bw HB.out)); have GE108 := Aside0.mk (ge1 hg (bw HB.out)); have NB101_108 := Aside0.mk (ne1 hg (bk BK101.out)); have NB108_101 := Aside0.mk (ne2 hg (bk BK101.out)); have NB102_108 := Aside0.mk (ne1 hg (bk BK102.out)); have NB108_102 := Aside0.mk (ne2 hg (bk BK102.out)); have NB107_108 := Aside0.mk (ne1 hg (bk BK107.out)); have NB108_107 := Aside0.mk (ne2 hg (bk BK107.out)); replace BK101 := Aside0.mk (bb hb BK101.out); replace BK102 := Aside0.mk (bb hb BK102.out); replace BK107 := Aside0.mk (bb hb BK107.out); replace HB := Aside0.mk (below_step (bw HB.out) hb); clear hb hbox hg; have hnb11 := NB107_101.out; have hnc11 := NB101_107.out; have hnb12 := NB107_102.out; have hnc12 := NB102_107.out; have hnb13 := NB107_108.out; have hnc13 := NB108_107.out; have hcz14_0 : w10.cell? ⟨gb107, 0, none⟩ = some (.int .u64 0) := (blk_cell BK107.out 0).trans rfl; have hcz14_1 : w10.cell? ⟨gb107, 1, none⟩ = some (.int .u64 0) := (blk_cell BK107.out 1).trans rfl; have hfz14_0 := blk_frozen BK107.out 0; have hfz14_1 := blk_frozen BK107.out 1; have hnb15 := NB108_101.out; have hnc15 := NB101_108.out; have hnb16 := NB108_102.out; have hnc16 := NB102_108.out; have hcz17_0 : w10.cell? ⟨gb108, 0, none⟩ = some (.int .u64 0) := (blk_cell BK108.out 0).trans rfl; have hcz17_1 : w10.cell? ⟨gb108, 1, none⟩ = some (.int .u64 0) := (blk_cell BK108.out 1).trans rfl; have hfz17_0 := blk_frozen BK108.out 0; have hfz17_1 := blk_frozen BK108.out 1))
  (try simp only [Act.put, List.setIfInBounds_toArray, List.set_cons_zero, List.set_cons_succ])
  go_cut [20] (fun v20 wc => ∃ (kq : Nat) (x20_2 : Bool), v20 = .bool x20_2 ∧ Aside0 (ratio_frac_floor.j0 kq x20_2 a0_0 a0_1 a0_2 a0_3 a0_4 t103 t104 = some (r1, r2, r3)) ∧ Aside0 (kq ≤ k) ∧ Aside0 (wc.heap[gb101]? = some (.cells #[.bool a0_0, .int .u64 a0_1, .int .u64 a0_2, .int .u64 a0_3, .int .u64 a0_4] 71 (0, 0))) ∧ Aside0 (wc.heap[gb102]? = some (.cells #[.int .u64 0, .int .u64 0] 67 (0, 0))) ∧ Aside0 (wc.heap[gb107]? = some (.cells #[.int .u64 t103, .int .u64 t104] 67 (0, 0))) ∧ Aside0 (wc.heap[gb108]? = some (.cells #[.int .u64 t105, .int .u64 t106] 67 (0, 0))) ∧ Aside0 (Below w.heap.size w wc))
  case first =>
    have H := HC3.out
    clear HC3
    by_cases c18 : a0_0 = true
    · subst c18
      have H1 : (ratio_frac_floor.j0 k (!(t105 == 0) || (!(t106 == 0))) true a0_1 a0_2 a0_3 a0_4 t103 t104) = some (r1, r2, r3) := by rw [if_pos rfl] at H; exact H
      clear H
      have H := H1
      clear H1
      have H' := Aside0.mk H
      clear H
      have hnb19 := NB101_102.out
      have hnc19 := NB102_101.out
      have hnb20 := NB101_107.out
      have hnc20 := NB107_101.out
      have hnb21 := NB101_108.out
      have hnc21 := NB108_101.out
      have hcz22_0 : w10.cell? ⟨gb101, 0, none⟩ = some (.bool true) := (blk_cell BK101.out 0).trans rfl
      have hcz22_1 : w10.cell? ⟨gb101, 1, none⟩ = some (.int .u64 a0_1) := (blk_cell BK101.out 1).trans rfl
      have hcz22_2 : w10.cell? ⟨gb101, 2, none⟩ = some (.int .u64 a0_2) := (blk_cell BK101.out 2).trans rfl
      have hcz22_3 : w10.cell? ⟨gb101, 3, none⟩ = some (.int .u64 a0_3) := (blk_cell BK101.out 3).trans rfl
      have hcz22_4 : w10.cell? ⟨gb101, 4, none⟩ = some (.int .u64 a0_4) := (blk_cell BK101.out 4).trans rfl
      have hfz22_0 := blk_frozen BK101.out 0
      have hfz22_1 := blk_frozen BK101.out 1
      have hfz22_2 := blk_frozen BK101.out 2
      have hfz22_3 := blk_frozen BK101.out 3
      have hfz22_4 := blk_frozen BK101.out 4
      have hnb23 := NB108_102.out
      have hnc23 := NB102_108.out
      have hnb24 := NB108_107.out
      have hnc24 := NB107_108.out
      have hcz25_0 : w10.cell? ⟨gb108, 0, none⟩ = some (.int .u64 0) := (blk_cell BK108.out 0).trans rfl
      have hcz25_1 : w10.cell? ⟨gb108, 1, none⟩ = some (.int .u64 0) := (blk_cell BK108.out 1).trans rfl
      have hfz25_0 := blk_frozen BK108.out 0
      have hfz25_1 := blk_frozen BK108.out 1
      go_wp2
      go_meet
      case rel => exact ⟨_, ((!(t105 == 0) || (!(t106 == 0)))), (by first | rfl | (simp; done) | (simp [*]; done)), H', ⟨by first | omega | exact Nat.le_refl _⟩, ⟨by refine bk ?_; exact BK101.out⟩, ⟨by refine bk ?_; exact BK102.out⟩, ⟨by refine bk ?_; refine blk_put (cs := #[.int .u64 t103, .int .u64 0]) ?_ 1 _ rfl; refine bk ?_; refine blk_put (cs := #[.int .u64 0, .int .u64 0]) ?_ 0 _ rfl; refine bk ?_; exact BK107.out⟩, ⟨by refine bk ?_; refine blk_put (cs := #[.int .u64 t105, .int .u64 0]) ?_ 1 _ rfl; refine bk ?_; refine blk_put (cs := #[.int .u64 0, .int .u64 0]) ?_ 0 _ rfl; refine bk ?_; exact BK108.out⟩, ⟨by repeat (first | (with_reducible first | exact HB.out | apply below_alloc | apply pw_below_drewN | apply below_drew1 | refine below_set ?_ GE101.out | refine below_set ?_ GE102.out | refine below_set ?_ GE107.out | refine below_set ?_ GE108.out) | exact HB.out)⟩⟩
    · replace c18 := Bool.eq_false_iff.mpr c18
      subst c18
      have H1 : (ratio_frac_floor.j0 k false false a0_1 a0_2 a0_3 a0_4 t103 t104) = some (r1, r2, r3) := by rw [if_neg (show ¬ (false = true) by decide)] at H; exact H
      clear H
      have H := H1
      clear H1
      have H' := Aside0.mk H
      clear H
      have hnb26 := NB101_102.out
      have hnc26 := NB102_101.out
      have hnb27 := NB101_107.out
      have hnc27 := NB107_101.out
      have hnb28 := NB101_108.out
      have hnc28 := NB108_101.out
      have hcz29_0 : w10.cell? ⟨gb101, 0, none⟩ = some (.bool false) := (blk_cell BK101.out 0).trans rfl
      have hcz29_1 : w10.cell? ⟨gb101, 1, none⟩ = some (.int .u64 a0_1) := (blk_cell BK101.out 1).trans rfl
      have hcz29_2 : w10.cell? ⟨gb101, 2, none⟩ = some (.int .u64 a0_2) := (blk_cell BK101.out 2).trans rfl
      have hcz29_3 : w10.cell? ⟨gb101, 3, none⟩ = some (.int .u64 a0_3) := (blk_cell BK101.out 3).trans rfl
      have hcz29_4 : w10.cell? ⟨gb101, 4, none⟩ = some (.int .u64 a0_4) := (blk_cell BK101.out 4).trans rfl
      have hfz29_0 := blk_frozen BK101.out 0
      have hfz29_1 := blk_frozen BK101.out 1
      have hfz29_2 := blk_frozen BK101.out 2
      have hfz29_3 := blk_frozen BK101.out 3
      have hfz29_4 := blk_frozen BK101.out 4
      go_wp2
      go_meet
      case rel => exact ⟨_, (false), (by first | rfl | (simp; done) | (simp [*]; done)), H', ⟨by first | omega | exact Nat.le_refl _⟩, ⟨by refine bk ?_; exact BK101.out⟩, ⟨by refine bk ?_; exact BK102.out⟩, ⟨by refine bk ?_; refine blk_put (cs := #[.int .u64 t103, .int .u64 0]) ?_ 1 _ rfl; refine bk ?_; refine blk_put (cs := #[.int .u64 0, .int .u64 0]) ?_ 0 _ rfl; refine bk ?_; exact BK107.out⟩, ⟨by refine bk ?_; refine blk_put (cs := #[.int .u64 t105, .int .u64 0]) ?_ 1 _ rfl; refine bk ?_; refine blk_put (cs := #[.int .u64 0, .int .u64 0]) ?_ 0 _ rfl; refine bk ?_; exact BK108.out⟩, ⟨by repeat (first | (with_reducible first | exact HB.out | apply below_alloc | apply pw_below_drewN | apply below_drew1 | refine below_set ?_ GE101.out | refine below_set ?_ GE102.out | refine below_set ?_ GE107.out | refine below_set ?_ GE108.out) | exact HB.out)⟩⟩
  case rest =>
    clear HC3
    try clear c1
    try clear c2
    try clear p2
    try clear c6
    try clear c8
    try clear c9
    try clear c11
    try clear c12
    try clear c13
    try clear c15
    try clear c16
    try clear c18
    try clear c19
    try clear c20
    try clear c21
    try clear c23
    try clear c24
    try clear c26
    try clear c27
    try clear c28
    try clear hcz14_0
    try clear hcz14_1
    try clear hcz17_0
    try clear hcz17_1
    try clear hcz22_0
    try clear hcz22_1
    try clear hcz22_2
    try clear hcz22_3
    try clear hcz22_4
    try clear hcz25_0
    try clear hcz25_1
    try clear hcz29_0
    try clear hcz29_1
    try clear hcz29_2
    try clear hcz29_3
    try clear hcz29_4
    try clear hcz7_0
    try clear hcz7_1
    try clear hcz7_2
    try clear hcz7_3
    try clear hcz7_4
    try clear hfz14_0
    try clear hfz14_1
    try clear hfz17_0
    try clear hfz17_1
    try clear hfz22_0
    try clear hfz22_1
    try clear hfz22_2
    try clear hfz22_3
    try clear hfz22_4
    try clear hfz25_0
    try clear hfz25_1
    try clear hfz29_0
    try clear hfz29_1
    try clear hfz29_2
    try clear hfz29_3
    try clear hfz29_4
    try clear hfz7_0
    try clear hfz7_1
    try clear hfz7_2
    try clear hfz7_3
    try clear hfz7_4
    obtain ⟨kq, x20_2, rfl, HA, HJ2, BK101, BK102, BK107, BK108, HB⟩ := hcut
    cases kq with
    | zero => exact absurd HA.out (by simp [ratio_frac_floor.j0])
    | succ kj2 =>
      have H := HA.out
      clear HA
      simp only [ratio_frac_floor.j0] at H
      by_cases c30 : x20_2 = true
      · subst c30
        have H1 : ((ratio_small.f 1).bind fun bt109 => ((ratio_wide_plus.f t103 t104 bt109.1 bt109.2).bind fun bt111 => (some (bt111.1, bt111.2, a0_0)))) = some (r1, r2, r3) := by rw [if_pos rfl] at H; exact H
        clear H
        have H := H1
        clear H1
        replace H := Option.bind_eq_some_iff.mp H
        obtain ⟨⟨t109, t110⟩, A310, H⟩ := H
        replace H : ((ratio_wide_plus.f t103 t104 t109 t110).bind fun bt111 => (some (bt111.1, bt111.2, a0_0))) = some (r1, r2, r3) := H
        have A31 := Aside0.mk A310
        clear A310
        replace H := Option.bind_eq_some_iff.mp H
        obtain ⟨⟨t111, t112⟩, A320, H⟩ := H
        replace H : (some (t111, t112, a0_0)) = some (r1, r2, r3) := H
        have A32 := Aside0.mk A320
        clear A320
        simp only [Option.some.injEq, Prod.mk.injEq] at H
        obtain ⟨rfl, rfl, rfl⟩ := H
        try go_wp2
        have n0_ := Aside0.mk (blk_drew BK101.out)
        have n1_ := Aside0.mk (blk_drew BK102.out)
        have n2_ := Aside0.mk (blk_drew BK107.out)
        have n3_ := Aside0.mk (blk_drew BK108.out)
        have n4_ := Aside0.mk (below_drew1 HB.out)
        clear BK101
        clear BK102
        clear BK107
        clear BK108
        clear HB
        have BK101 := n0_
        have BK102 := n1_
        have BK107 := n2_
        have BK108 := n3_
        have HB := n4_
        clear n0_ n1_ n2_ n3_ n4_
        refine start_ (n := 4) (S := fun w' => w'.cell? ⟨gb107, 0, none⟩ = some (.int .u64 t103) ∧ w'.cell? ⟨gb107, 1, none⟩ = some (.int .u64 t104)) (ds := [3]) #[false, false, false, false] (by kernel_rfl) rfl rfl ⟨(blk_cell BK107.out 0).trans rfl, (blk_cell BK107.out 1).trans rfl⟩ (fun hHeld => ?_)
        generalize wc.drew = w33 at BK101 BK102 BK107 BK108 HB hHeld ⊢
        refine take_ (i := 0) (N := some 21) (v := ?_) (a' := ?_) #[true, false, false, false] rfl rfl (by kernel_rfl) (fun _ _ _ h => h) (Or.inl ⟨by rfl, ?_⟩) hHeld ?_ ?_
        rotate_left
        · rintro w' ⟨s0, s1⟩
          go_simp
          with_reducible rfl
        rotate_left
        · simp only [Act.put, List.setIfInBounds_toArray, List.set_cons_zero, List.set_cons_succ, i64_w, i32_w]
          rfl
        refine one_ (i := 1) (N := some 22) #[true, true, false, false] rfl rfl (by kernel_rfl) (by decide) (fun K hK => ?_)
        refine goes_ Tryd.func49 (by kernel_rfl) rfl #[.int .u64 1] (by rfl) rfl rfl (by (try simp only [List.map_toArray, List.map_cons, List.map_nil]); first | done | rfl | (simp only [List.length_drop, List.length_take]; rfl)) ?_
        with_reducible refine (ratio_small.calls 1 t109 t110 _ A31.out).mono ?_
        rintro e w34 ⟨rfl, hb⟩
        refine ⟨_, rfl, ?_⟩
        have n0_ := Aside0.mk (bb hb BK101.out)
        have n1_ := Aside0.mk (bb hb BK102.out)
        have n2_ := Aside0.mk (bb hb BK107.out)
        have n3_ := Aside0.mk (bb hb BK108.out)
        have n4_ := Aside0.mk (below_step (bw HB.out) hb)
        clear BK101
        clear BK102
        clear BK107
        clear BK108
        clear HB
        have BK101 := n0_
        have BK102 := n1_
        have BK107 := n2_
        have BK108 := n3_
        have HB := n4_
        clear n0_ n1_ n2_ n3_ n4_
        (try clear hb)
        (try clear hb2)
        (try clear hk)
        (try clear hi)
        refine hK.out _ _ ⟨(blk_cell BK107.out 0).trans rfl, (blk_cell BK107.out 1).trans rfl⟩ (fun hHeld => ?_)
        clear hK K
        refine norm_ (a' := ?_) ?_ ?_
        rotate_left
        · show Act.put _ (some 22) _ = _
          simp only [Act.put, List.setIfInBounds_toArray, List.set_cons_zero, List.set_cons_succ, i64_w, i32_w]
          rfl
        refine one_ (i := 2) (N := some 23) #[true, true, true, false] rfl rfl (by kernel_rfl) (by decide) (fun K hK => ?_)
        refine goes_ Tryd.func59 (by kernel_rfl) rfl #[.agg #[.int .u64 t103, .int .u64 t104], .agg #[.int .u64 t109, .int .u64 t110]] (by rfl) rfl rfl (by (try simp only [List.map_toArray, List.map_cons, List.map_nil]); first | done | rfl | (simp only [List.length_drop, List.length_take]; rfl)) ?_
        with_reducible refine (ratio_wide_plus.calls t103 t104 t109 t110 t111 t112 _ A32.out).mono ?_
        rintro e w35 ⟨rfl, hb⟩
        refine ⟨_, rfl, ?_⟩
        have n0_ := Aside0.mk (bb hb BK101.out)
        have n1_ := Aside0.mk (bb hb BK102.out)
        have n2_ := Aside0.mk (bb hb BK107.out)
        have n3_ := Aside0.mk (bb hb BK108.out)
        have n4_ := Aside0.mk (below_step (bw HB.out) hb)
        clear BK101
        clear BK102
        clear BK107
        clear BK108
        clear HB
        have BK101 := n0_
        have BK102 := n1_
        have BK107 := n2_
        have BK108 := n3_
        have HB := n4_
        clear n0_ n1_ n2_ n3_ n4_
        (try clear hb)
        (try clear hb2)
        (try clear hk)
        (try clear hi)
        refine hK.out _ _ ⟨(blk_cell BK107.out 0).trans rfl, (blk_cell BK107.out 1).trans rfl⟩ (fun hHeld => ?_)
        clear hK K
        refine norm_ (a' := ?_) ?_ ?_
        rotate_left
        · show Act.put _ (some 23) _ = _
          simp only [Act.put, List.setIfInBounds_toArray, List.set_cons_zero, List.set_cons_succ, i64_w, i32_w]
          rfl
        refine last_ (i := 3) (N := none) #[true, true, true, true] rfl rfl (by kernel_rfl) (by decide) (fun K hK => ?_)
        have hs36 : w35.cell? ⟨gb107, 0, none⟩ = some (.int .u64 t103) := (blk_cell BK107.out 0).trans rfl
        have hfs36 := blk_frozen BK107.out 0
        have hns36_0 := NB101_107.out
        have hns36_1 := NB102_107.out
        have hns36_3 := NB108_107.out
        have hms36_0 := NB107_101.out
        have hms36_1 := NB107_102.out
        have hms36_3 := NB107_108.out
        have hs37 : w35.cell? ⟨gb107, 1, none⟩ = some (.int .u64 t104) := (blk_cell BK107.out 1).trans rfl
        have hfs37 := blk_frozen BK107.out 1
        have hns37_0 := NB101_107.out
        have hns37_1 := NB102_107.out
        have hns37_3 := NB108_107.out
        have hms37_0 := NB107_101.out
        have hms37_1 := NB107_102.out
        have hms37_3 := NB107_108.out
        refine skip_ (w1 := ?_) (by rfl) rfl ?_ ?_
        rotate_left
        · go_simp
          rfl
        refine hK.out _ _ ?_
        clear hK K
        refine done_ (by kernel_rfl) ?_
        try go_wp2
        have n0_ : Aside0 (((w35.setCell ⟨gb107, 0, none⟩ (.int .u64 t111)).setCell ⟨gb107, 1, none⟩ (.int .u64 t112)).heap[gb101]? = some (.cells #[.bool a0_0, .int .u64 a0_1, .int .u64 a0_2, .int .u64 a0_3, .int .u64 a0_4] 71 (0, 0))) := ⟨by refine bk ?_; exact BK101.out⟩
        have n1_ : Aside0 (((w35.setCell ⟨gb107, 0, none⟩ (.int .u64 t111)).setCell ⟨gb107, 1, none⟩ (.int .u64 t112)).heap[gb102]? = some (.cells #[.int .u64 0, .int .u64 0] 67 (0, 0))) := ⟨by refine bk ?_; exact BK102.out⟩
        have n2_ : Aside0 (((w35.setCell ⟨gb107, 0, none⟩ (.int .u64 t111)).setCell ⟨gb107, 1, none⟩ (.int .u64 t112)).heap[gb107]? = some (.cells #[.int .u64 t111, .int .u64 t112] 67 (0, 0))) := ⟨by refine bk ?_; refine blk_put (cs := #[.int .u64 t111, .int .u64 t104]) ?_ 1 _ rfl; refine bk ?_; refine blk_put (cs := #[.int .u64 t103, .int .u64 t104]) ?_ 0 _ rfl; refine bk ?_; exact BK107.out⟩
        have n3_ : Aside0 (((w35.setCell ⟨gb107, 0, none⟩ (.int .u64 t111)).setCell ⟨gb107, 1, none⟩ (.int .u64 t112)).heap[gb108]? = some (.cells #[.int .u64 t105, .int .u64 t106] 67 (0, 0))) := ⟨by refine bk ?_; exact BK108.out⟩
        have n4_ : Aside0 (Below w.heap.size w ((w35.setCell ⟨gb107, 0, none⟩ (.int .u64 t111)).setCell ⟨gb107, 1, none⟩ (.int .u64 t112))) := ⟨by repeat (first | (with_reducible first | exact HB.out | apply below_alloc | apply pw_below_drewN | apply below_drew1 | refine below_set ?_ GE101.out | refine below_set ?_ GE102.out | refine below_set ?_ GE107.out | refine below_set ?_ GE108.out) | exact HB.out)⟩
        (try clear BK101)
        (try clear BK102)
        (try clear BK107)
        (try clear BK108)
        (try clear HB)
        generalize ((w35.setCell ⟨gb107, 0, none⟩ (.int .u64 t111)).setCell ⟨gb107, 1, none⟩ (.int .u64 t112)) = w38 at n0_ n1_ n2_ n3_ n4_ ⊢
        have BK101 := n0_
        have BK102 := n1_
        have BK107 := n2_
        have BK108 := n3_
        have HB := n4_
        clear n0_ n1_ n2_ n3_ n4_
        have n0_ := Aside0.mk (blk_drew BK101.out)
        have n1_ := Aside0.mk (blk_drew BK102.out)
        have n2_ := Aside0.mk (blk_drew BK107.out)
        have n3_ := Aside0.mk (blk_drew BK108.out)
        have n4_ := Aside0.mk (below_drew1 HB.out)
        clear BK101
        clear BK102
        clear BK107
        clear BK108
        clear HB
        have BK101 := n0_
        have BK102 := n1_
        have BK107 := n2_
        have BK108 := n3_
        have HB := n4_
        clear n0_ n1_ n2_ n3_ n4_
        refine start_ (n := 5) (S := fun w' => w'.cell? ⟨gb107, 0, none⟩ = some (.int .u64 t111) ∧ w'.cell? ⟨gb107, 1, none⟩ = some (.int .u64 t112) ∧ w'.cell? ⟨gb101, 0, none⟩ = some (.bool a0_0) ∧ w'.cell? ⟨gb101, 1, none⟩ = some (.int .u64 a0_1) ∧ w'.cell? ⟨gb101, 2, none⟩ = some (.int .u64 a0_2) ∧ w'.cell? ⟨gb101, 3, none⟩ = some (.int .u64 a0_3) ∧ w'.cell? ⟨gb101, 4, none⟩ = some (.int .u64 a0_4)) (ds := []) #[false, false, false, false, false] (by kernel_rfl) rfl rfl ⟨(blk_cell BK107.out 0).trans rfl, (blk_cell BK107.out 1).trans rfl, (blk_cell BK101.out 0).trans rfl, (blk_cell BK101.out 1).trans rfl, (blk_cell BK101.out 2).trans rfl, (blk_cell BK101.out 3).trans rfl, (blk_cell BK101.out 4).trans rfl⟩ (fun hHeld => ?_)
        generalize w38.drew = w39 at BK101 BK102 BK107 BK108 HB hHeld ⊢
        refine pure_ (i := 1) (N := some 25) (v := ?_) (a' := ?_) #[false, true, false, false, false] rfl rfl (by kernel_rfl) (fun _ _ _ h => h) (Or.inl ⟨by rfl, ?_⟩) ?_ ?_
        rotate_left
        · intro w'
          go_simp
          with_reducible rfl
        rotate_left
        · simp only [Act.put, List.setIfInBounds_toArray, List.set_cons_zero, List.set_cons_succ, i64_w, i32_w]
          rfl
        refine take_ (i := 0) (N := some 24) (v := ?_) (a' := ?_) #[true, true, false, false, false] rfl rfl (by kernel_rfl) (fun _ _ _ h => h) (Or.inl ⟨by rfl, ?_⟩) hHeld ?_ ?_
        rotate_left
        · rintro w' ⟨s0, s1, s2, s3, s4, s5, s6⟩
          go_simp
          with_reducible rfl
        rotate_left
        · simp only [Act.put, List.setIfInBounds_toArray, List.set_cons_zero, List.set_cons_succ, i64_w, i32_w]
          rfl
        refine take_ (i := 2) (N := some 26) (v := ?_) (a' := ?_) #[true, true, true, false, false] rfl rfl (by kernel_rfl) (fun _ _ _ h => h) (Or.inl ⟨by rfl, ?_⟩) hHeld ?_ ?_
        rotate_left
        · rintro w' ⟨s0, s1, s2, s3, s4, s5, s6⟩
          go_simp
          with_reducible rfl
        rotate_left
        · simp only [Act.put, List.setIfInBounds_toArray, List.set_cons_zero, List.set_cons_succ, i64_w, i32_w]
          rfl
        refine one_ (i := 3) (N := none) #[true, true, true, true, false] rfl rfl (by kernel_rfl) (by decide) (fun K hK => ?_)
        have hs40 : w39.cell? ⟨gb102, 0, none⟩ = some (.int .u64 0) := (blk_cell BK102.out 0).trans rfl
        have hfs40 := blk_frozen BK102.out 0
        have hns40_0 := NB101_102.out
        have hns40_2 := NB107_102.out
        have hns40_3 := NB108_102.out
        have hms40_0 := NB102_101.out
        have hms40_2 := NB102_107.out
        have hms40_3 := NB102_108.out
        have hs41 : w39.cell? ⟨gb102, 1, none⟩ = some (.int .u64 0) := (blk_cell BK102.out 1).trans rfl
        have hfs41 := blk_frozen BK102.out 1
        have hns41_0 := NB101_102.out
        have hns41_2 := NB107_102.out
        have hns41_3 := NB108_102.out
        have hms41_0 := NB102_101.out
        have hms41_2 := NB102_107.out
        have hms41_3 := NB102_108.out
        refine skip_ (w1 := ?_) (by rfl) rfl ?_ ?_
        rotate_left
        · go_simp
          rfl
        refine hK.out _ _ ⟨((cell_far (p := ⟨gb102, _, none⟩) NB107_102.out _).trans (((cell_far (p := ⟨gb102, _, none⟩) NB107_102.out _).trans (hHeld.1)))), ((cell_far (p := ⟨gb102, _, none⟩) NB107_102.out _).trans (((cell_far (p := ⟨gb102, _, none⟩) NB107_102.out _).trans (hHeld.2.1)))), ((cell_far (p := ⟨gb102, _, none⟩) NB101_102.out _).trans (((cell_far (p := ⟨gb102, _, none⟩) NB101_102.out _).trans (hHeld.2.2.1)))), ((cell_far (p := ⟨gb102, _, none⟩) NB101_102.out _).trans (((cell_far (p := ⟨gb102, _, none⟩) NB101_102.out _).trans (hHeld.2.2.2.1)))), ((cell_far (p := ⟨gb102, _, none⟩) NB101_102.out _).trans (((cell_far (p := ⟨gb102, _, none⟩) NB101_102.out _).trans (hHeld.2.2.2.2.1)))), ((cell_far (p := ⟨gb102, _, none⟩) NB101_102.out _).trans (((cell_far (p := ⟨gb102, _, none⟩) NB101_102.out _).trans (hHeld.2.2.2.2.2.1)))), ((cell_far (p := ⟨gb102, _, none⟩) NB101_102.out _).trans (((cell_far (p := ⟨gb102, _, none⟩) NB101_102.out _).trans (hHeld.2.2.2.2.2.2))))⟩ (fun hHeld => ?_)
        clear hK K
        refine pure_ (i := 4) (N := some 3) (v := ?_) (a' := ?_) #[true, true, true, true, true] rfl rfl (by kernel_rfl) (fun _ _ _ h => h) (Or.inl ⟨by rfl, ?_⟩) ?_ ?_
        rotate_left
        · intro w'
          go_simp
          with_reducible rfl
        rotate_left
        · simp only [Act.put, List.setIfInBounds_toArray, List.set_cons_zero, List.set_cons_succ, i64_w, i32_w]
          rfl
        refine done_ (by kernel_rfl) ?_
        try go_wp2
        refine bodyPost_ret (results_ct rfl _ _ gb102 67 #[.int .u64 t111, .int .u64 t112] (0, 0) _ rfl (by refine bk ?_; refine blk_put (cs := #[.int .u64 t111, .int .u64 0]) ?_ 1 _ rfl; refine bk ?_; refine blk_put (cs := #[.int .u64 0, .int .u64 0]) ?_ 0 _ rfl; refine bk ?_; exact BK102.out) Tryd.underlying67 rfl (by kernel_rfl)) rfl ?_
        exact ⟨by first | rfl | (simp [errW_none, errW_some] <;> rfl) | (simp [*, errW_none, errW_some] <;> rfl), by repeat (first | (with_reducible first | exact HB.out | apply below_alloc | apply pw_below_drewN | apply below_drew1 | refine below_set ?_ GE101.out | refine below_set ?_ GE102.out | refine below_set ?_ GE107.out | refine below_set ?_ GE108.out) | exact HB.out)⟩
      · replace c30 := Bool.eq_false_iff.mpr c30
        subst c30
        have H1 : (some (t103, t104, a0_0)) = some (r1, r2, r3) := by rw [if_neg (show ¬ (false = true) by decide)] at H; exact H
        clear H
        have H := H1
        clear H1
        simp only [Option.some.injEq, Prod.mk.injEq] at H
        obtain ⟨rfl, rfl, rfl⟩ := H
        try go_wp2
        have n0_ := Aside0.mk (blk_drew BK101.out)
        have n1_ := Aside0.mk (blk_drew BK102.out)
        have n2_ := Aside0.mk (blk_drew BK107.out)
        have n3_ := Aside0.mk (blk_drew BK108.out)
        have n4_ := Aside0.mk (below_drew1 HB.out)
        clear BK101
        clear BK102
        clear BK107
        clear BK108
        clear HB
        have BK101 := n0_
        have BK102 := n1_
        have BK107 := n2_
        have BK108 := n3_
        have HB := n4_
        clear n0_ n1_ n2_ n3_ n4_
        refine start_ (n := 5) (S := fun w' => w'.cell? ⟨gb107, 0, none⟩ = some (.int .u64 t103) ∧ w'.cell? ⟨gb107, 1, none⟩ = some (.int .u64 t104) ∧ w'.cell? ⟨gb101, 0, none⟩ = some (.bool a0_0) ∧ w'.cell? ⟨gb101, 1, none⟩ = some (.int .u64 a0_1) ∧ w'.cell? ⟨gb101, 2, none⟩ = some (.int .u64 a0_2) ∧ w'.cell? ⟨gb101, 3, none⟩ = some (.int .u64 a0_3) ∧ w'.cell? ⟨gb101, 4, none⟩ = some (.int .u64 a0_4)) (ds := []) #[false, false, false, false, false] (by kernel_rfl) rfl rfl ⟨(blk_cell BK107.out 0).trans rfl, (blk_cell BK107.out 1).trans rfl, (blk_cell BK101.out 0).trans rfl, (blk_cell BK101.out 1).trans rfl, (blk_cell BK101.out 2).trans rfl, (blk_cell BK101.out 3).trans rfl, (blk_cell BK101.out 4).trans rfl⟩ (fun hHeld => ?_)
        generalize wc.drew = w42 at BK101 BK102 BK107 BK108 HB hHeld ⊢
        refine pure_ (i := 1) (N := some 25) (v := ?_) (a' := ?_) #[false, true, false, false, false] rfl rfl (by kernel_rfl) (fun _ _ _ h => h) (Or.inl ⟨by rfl, ?_⟩) ?_ ?_
        rotate_left
        · intro w'
          go_simp
          with_reducible rfl
        rotate_left
        · simp only [Act.put, List.setIfInBounds_toArray, List.set_cons_zero, List.set_cons_succ, i64_w, i32_w]
          rfl
        refine take_ (i := 0) (N := some 24) (v := ?_) (a' := ?_) #[true, true, false, false, false] rfl rfl (by kernel_rfl) (fun _ _ _ h => h) (Or.inl ⟨by rfl, ?_⟩) hHeld ?_ ?_
        rotate_left
        · rintro w' ⟨s0, s1, s2, s3, s4, s5, s6⟩
          go_simp
          with_reducible rfl
        rotate_left
        · simp only [Act.put, List.setIfInBounds_toArray, List.set_cons_zero, List.set_cons_succ, i64_w, i32_w]
          rfl
        refine take_ (i := 2) (N := some 26) (v := ?_) (a' := ?_) #[true, true, true, false, false] rfl rfl (by kernel_rfl) (fun _ _ _ h => h) (Or.inl ⟨by rfl, ?_⟩) hHeld ?_ ?_
        rotate_left
        · rintro w' ⟨s0, s1, s2, s3, s4, s5, s6⟩
          go_simp
          with_reducible rfl
        rotate_left
        · simp only [Act.put, List.setIfInBounds_toArray, List.set_cons_zero, List.set_cons_succ, i64_w, i32_w]
          rfl
        refine one_ (i := 3) (N := none) #[true, true, true, true, false] rfl rfl (by kernel_rfl) (by decide) (fun K hK => ?_)
        have hs43 : w42.cell? ⟨gb102, 0, none⟩ = some (.int .u64 0) := (blk_cell BK102.out 0).trans rfl
        have hfs43 := blk_frozen BK102.out 0
        have hns43_0 := NB101_102.out
        have hns43_2 := NB107_102.out
        have hns43_3 := NB108_102.out
        have hms43_0 := NB102_101.out
        have hms43_2 := NB102_107.out
        have hms43_3 := NB102_108.out
        have hs44 : w42.cell? ⟨gb102, 1, none⟩ = some (.int .u64 0) := (blk_cell BK102.out 1).trans rfl
        have hfs44 := blk_frozen BK102.out 1
        have hns44_0 := NB101_102.out
        have hns44_2 := NB107_102.out
        have hns44_3 := NB108_102.out
        have hms44_0 := NB102_101.out
        have hms44_2 := NB102_107.out
        have hms44_3 := NB102_108.out
        refine skip_ (w1 := ?_) (by rfl) rfl ?_ ?_
        rotate_left
        · go_simp
          rfl
        refine hK.out _ _ ⟨((cell_far (p := ⟨gb102, _, none⟩) NB107_102.out _).trans (((cell_far (p := ⟨gb102, _, none⟩) NB107_102.out _).trans (hHeld.1)))), ((cell_far (p := ⟨gb102, _, none⟩) NB107_102.out _).trans (((cell_far (p := ⟨gb102, _, none⟩) NB107_102.out _).trans (hHeld.2.1)))), ((cell_far (p := ⟨gb102, _, none⟩) NB101_102.out _).trans (((cell_far (p := ⟨gb102, _, none⟩) NB101_102.out _).trans (hHeld.2.2.1)))), ((cell_far (p := ⟨gb102, _, none⟩) NB101_102.out _).trans (((cell_far (p := ⟨gb102, _, none⟩) NB101_102.out _).trans (hHeld.2.2.2.1)))), ((cell_far (p := ⟨gb102, _, none⟩) NB101_102.out _).trans (((cell_far (p := ⟨gb102, _, none⟩) NB101_102.out _).trans (hHeld.2.2.2.2.1)))), ((cell_far (p := ⟨gb102, _, none⟩) NB101_102.out _).trans (((cell_far (p := ⟨gb102, _, none⟩) NB101_102.out _).trans (hHeld.2.2.2.2.2.1)))), ((cell_far (p := ⟨gb102, _, none⟩) NB101_102.out _).trans (((cell_far (p := ⟨gb102, _, none⟩) NB101_102.out _).trans (hHeld.2.2.2.2.2.2))))⟩ (fun hHeld => ?_)
        clear hK K
        refine pure_ (i := 4) (N := some 3) (v := ?_) (a' := ?_) #[true, true, true, true, true] rfl rfl (by kernel_rfl) (fun _ _ _ h => h) (Or.inl ⟨by rfl, ?_⟩) ?_ ?_
        rotate_left
        · intro w'
          go_simp
          with_reducible rfl
        rotate_left
        · simp only [Act.put, List.setIfInBounds_toArray, List.set_cons_zero, List.set_cons_succ, i64_w, i32_w]
          rfl
        refine done_ (by kernel_rfl) ?_
        try go_wp2
        refine bodyPost_ret (results_ct rfl _ _ gb102 67 #[.int .u64 t103, .int .u64 t104] (0, 0) _ rfl (by refine bk ?_; refine blk_put (cs := #[.int .u64 t103, .int .u64 0]) ?_ 1 _ rfl; refine bk ?_; refine blk_put (cs := #[.int .u64 0, .int .u64 0]) ?_ 0 _ rfl; refine bk ?_; exact BK102.out) Tryd.underlying67 rfl (by kernel_rfl)) rfl ?_
        exact ⟨by first | rfl | (simp [errW_none, errW_some] <;> rfl) | (simp [*, errW_none, errW_some] <;> rfl), by repeat (first | (with_reducible first | exact HB.out | apply below_alloc | apply pw_below_drewN | apply below_drew1 | refine below_set ?_ GE101.out | refine below_set ?_ GE102.out | refine below_set ?_ GE107.out | refine below_set ?_ GE108.out) | exact HB.out)⟩

/-! ### ratio_wide_minus: function 61: told elsewhere -/

end Go.Proofs.YtofndakpenpkbaaDoor.PW
