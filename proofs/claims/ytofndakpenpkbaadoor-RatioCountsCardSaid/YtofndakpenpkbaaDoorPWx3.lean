-- made by wip/pp2.py out of the translation, over contracts of my own
import Derived.Test.YtofndakpenpkbaaDoorXZ
import Derived.Test.YtofndakpenpkbaaDoorPWx0
namespace Go.Proofs.YtofndakpenpkbaaDoor.PW
open Go.Proofs.YtofndakpenpkbaaDoor.PA
open Go.RowKit Go.Proofs.YtofndakpenpkbaaDoorW.PrintWords Go.Proofs.YtofndakpenpkbaaDoorW.PrintLast Go.Proofs.YtofndakpenpkbaaDoorW.PrintMore
set_option linter.unusedVariables false
set_option linter.unusedSimpArgs false

/-! ### ratio_frac_half: function 91 -/
def ratio_frac_half.j0 : Nat → Bool → Bool → Int → Int → Int → Int → Int → Int → Bool → Int → Int → Int → Int → Option (Bool × Int × Int × Int × Int)
  | 0, _, _, _, _, _, _, _, _, _, _, _, _, _ => none
  | k + 1, x22, x114000, x114001, x114002, x114003, x114004, x118000, x118001, x123000, x123001, x123002, x123003, x123004 => if x22 = true then ((ratio_wide_minus.f x118000 x118001 x114003 x114004).bind fun bt124 => (some (x123000, bt124.1, bt124.2, x123003, x123004))) else (if x114000 = true then ((ratio_wide_minus.f x114003 x114004 x118000 x118001).bind fun bt126 => (some (false, bt126.1, bt126.2, x123003, x123004))) else (some (x123000, x123001, x123002, x123003, x123004)))
def ratio_frac_half.f (k : Nat) (a0_0 : Bool) (a0_1 : Int) (a0_2 : Int) (a0_3 : Int) (a0_4 : Int) : Option (Bool × Int × Int × Int × Int) := (ratio_wide_plus.f a0_1 a0_2 a0_1 a0_2).bind fun bt115 => ((ratio_wide_plus.f bt115.1 bt115.2 a0_3 a0_4).bind fun bt118 => ((ratio_wide_plus.f a0_3 a0_4 a0_3 a0_4).bind fun bt120 => (if a0_0 = true then ((ratio_wide_cmp.f bt115.1 bt115.2 a0_3 a0_4).bind fun t123 => (ratio_frac_half.j0 k (decide (t123 > 0)) a0_0 a0_1 a0_2 a0_3 a0_4 bt115.1 bt115.2 a0_0 bt118.1 bt118.2 bt120.1 bt120.2)) else (ratio_frac_half.j0 k false a0_0 a0_1 a0_2 a0_3 a0_4 bt115.1 bt115.2 a0_0 bt118.1 bt118.2 bt120.1 bt120.2))))
theorem ratio_frac_half.mono_l : ∀ k, (∀ y0 y1 y2 y3 y4 y5 y6 y7 y8 y9 y10 y11 y12, LeO (ratio_frac_half.j0 k y0 y1 y2 y3 y4 y5 y6 y7 y8 y9 y10 y11 y12) (ratio_frac_half.j0 (k + 1) y0 y1 y2 y3 y4 y5 y6 y7 y8 y9 y10 y11 y12))
  | 0 => fun _ _ _ _ _ _ _ _ _ _ _ _ _ r h => by simp [ratio_frac_half.j0] at h
  | k + 1 => by
    have ih0 := ratio_frac_half.mono_l k
    · intro y0 y1 y2 y3 y4 y5 y6 y7 y8 y9 y10 y11 y12
      unfold ratio_frac_half.j0
      repeat' first
      | (with_reducible exact ih0 _ _ _ _ _ _ _ _ _ _ _ _ _)
      | (with_reducible exact LeO.refl _)
      | (with_reducible exact LeO.none _)
      | (with_reducible refine LeO.ite ?_ ?_)
      | (with_reducible refine LeO.bind ?_ (fun _ => ?_))
      | exact ih0 _ _ _ _ _ _ _ _ _ _ _ _ _
      | exact LeO.none _
      | refine LeO.ite ?_ ?_
      | refine LeO.bind ?_ (fun _ => ?_)
theorem ratio_frac_half.mono : ∀ a0 a1 a2 a3 a4 k, LeO (ratio_frac_half.f k a0 a1 a2 a3 a4) (ratio_frac_half.f (k + 1) a0 a1 a2 a3 a4) := by
  intro a0 a1 a2 a3 a4 k
  have ih0 := ratio_frac_half.mono_l k
  unfold ratio_frac_half.f
  repeat' first
      | (with_reducible exact ih0 _ _ _ _ _ _ _ _ _ _ _ _ _)
      | (with_reducible exact LeO.refl _)
      | (with_reducible exact LeO.none _)
      | (with_reducible refine LeO.ite ?_ ?_)
      | (with_reducible refine LeO.bind ?_ (fun _ => ?_))
      | exact ih0 _ _ _ _ _ _ _ _ _ _ _ _ _
      | exact LeO.none _
      | refine LeO.ite ?_ ?_
      | refine LeO.bind ?_ (fun _ => ?_)
def ratio_frac_half.T2 : Bool × List (List Nat × List Nat) := (true, [([], []), ([0], [0]), ([], []), ([], []), ([3], [3]), ([2, 4], [2, 4]), ([], []), ([6], [6]), ([], []), ([8], [8]), ([7, 9, 5], [7, 9]), ([1, 5, 10], [1, 5, 10]), ([], []), ([12, 11, 10, 0, 1, 2, 3, 4, 5, 6, 7, 8, 9, 10, 11, 12], [11, 12])])
def ratio_frac_half.B2 : List Nat := [0, 1, 0, 0, 8, 28, 0, 64, 0, 256, 1020, 2047, 0, 8191]
theorem ratio_frac_half.tab2 : rtab .any (opsOf Tryd.f91 2) = ratio_frac_half.T2 := by kernel_rfl
theorem ratio_frac_half.bits2 : waitsOk ratio_frac_half.T2.2 ratio_frac_half.B2 = true := by kernel_rfl
set_option maxHeartbeats 8000000 in
set_option maxRecDepth 100000 in
theorem ratio_frac_half.calls (k : Nat) (a0_0 : Bool) (a0_1 : Int) (a0_2 : Int) (a0_3 : Int) (a0_4 : Int) (r1 : Bool) (r2 : Int) (r3 : Int) (r4 : Int) (r5 : Int) (w : World) (h : ratio_frac_half.f k a0_0 a0_1 a0_2 a0_3 a0_4 = some (r1, r2, r3, r4, r5)) :
    Calls Tryd.prog 91 #[.agg #[.bool a0_0, .int .u64 a0_1, .int .u64 a0_2, .int .u64 a0_3, .int .u64 a0_4]] w fun e w' => e = .returned (.agg #[.bool r1, .int .u64 r2, .int .u64 r3, .int .u64 r4, .int .u64 r5]) ∧ Below w.heap.size w w' := by
  have hu71 := Tryd.underlying71
  have hu67 := Tryd.underlying67
  have HB := Aside0.mk (Below.refl w.heap.size w)
  have H : ((ratio_wide_plus.f a0_1 a0_2 a0_1 a0_2).bind fun bt115 => ((ratio_wide_plus.f bt115.1 bt115.2 a0_3 a0_4).bind fun bt118 => ((ratio_wide_plus.f a0_3 a0_4 a0_3 a0_4).bind fun bt120 => (if a0_0 = true then ((ratio_wide_cmp.f bt115.1 bt115.2 a0_3 a0_4).bind fun t123 => (ratio_frac_half.j0 k (decide (t123 > 0)) a0_0 a0_1 a0_2 a0_3 a0_4 bt115.1 bt115.2 a0_0 bt118.1 bt118.2 bt120.1 bt120.2)) else (ratio_frac_half.j0 k false a0_0 a0_1 a0_2 a0_3 a0_4 bt115.1 bt115.2 a0_0 bt118.1 bt118.2 bt120.1 bt120.2))))) = some (r1, r2, r3, r4, r5) := h
  clear h
  replace H := Option.bind_eq_some_iff.mp H
  obtain ⟨⟨t115, t116⟩, A20, H⟩ := H
  replace H : ((ratio_wide_plus.f t115 t116 a0_3 a0_4).bind fun bt118 => ((ratio_wide_plus.f a0_3 a0_4 a0_3 a0_4).bind fun bt120 => (if a0_0 = true then ((ratio_wide_cmp.f t115 t116 a0_3 a0_4).bind fun t123 => (ratio_frac_half.j0 k (decide (t123 > 0)) a0_0 a0_1 a0_2 a0_3 a0_4 t115 t116 a0_0 bt118.1 bt118.2 bt120.1 bt120.2)) else (ratio_frac_half.j0 k false a0_0 a0_1 a0_2 a0_3 a0_4 t115 t116 a0_0 bt118.1 bt118.2 bt120.1 bt120.2)))) = some (r1, r2, r3, r4, r5) := H
  have A2 := Aside0.mk A20
  clear A20
  replace H := Option.bind_eq_some_iff.mp H
  obtain ⟨⟨t118, t119⟩, A30, H⟩ := H
  replace H : ((ratio_wide_plus.f a0_3 a0_4 a0_3 a0_4).bind fun bt120 => (if a0_0 = true then ((ratio_wide_cmp.f t115 t116 a0_3 a0_4).bind fun t123 => (ratio_frac_half.j0 k (decide (t123 > 0)) a0_0 a0_1 a0_2 a0_3 a0_4 t115 t116 a0_0 t118 t119 bt120.1 bt120.2)) else (ratio_frac_half.j0 k false a0_0 a0_1 a0_2 a0_3 a0_4 t115 t116 a0_0 t118 t119 bt120.1 bt120.2))) = some (r1, r2, r3, r4, r5) := H
  have A3 := Aside0.mk A30
  clear A30
  replace H := Option.bind_eq_some_iff.mp H
  obtain ⟨⟨t120, t121⟩, A40, H⟩ := H
  replace H : (if a0_0 = true then ((ratio_wide_cmp.f t115 t116 a0_3 a0_4).bind fun t123 => (ratio_frac_half.j0 k (decide (t123 > 0)) a0_0 a0_1 a0_2 a0_3 a0_4 t115 t116 a0_0 t118 t119 t120 t121)) else (ratio_frac_half.j0 k false a0_0 a0_1 a0_2 a0_3 a0_4 t115 t116 a0_0 t118 t119 t120 t121)) = some (r1, r2, r3, r4, r5) := H
  have A4 := Aside0.mk A40
  clear A40
  have HC5 := Aside0.mk H
  clear H
  go_enter Tryd.func91, Tryd.ntmps91
  try go_wp2_with (first | ((with_reducible refine gate_dst (N := 1) rfl ?_); refine box_event ?hg (N := 1) ?hd (cs := #[.bool a0_0, .int .u64 a0_1, .int .u64 a0_2, .int .u64 a0_3, .int .u64 a0_4]) (t := 71) ?hr ?_; (case hd => rfl); (case hg => rfl); (case hr => first | (go_simp; done) | (go_simp; rfl)); intro gb113 hg w6 hbox hb; have BK113 := Aside0.mk (hbox); have GW113 := Aside0.mk (ge1 hg (bw HB.out)); have GE113 := Aside0.mk (ge1 hg (bw HB.out)); replace HB := Aside0.mk (below_step (bw HB.out) hb); clear hb hbox hg) | ((with_reducible refine gate_dst (N := 2) rfl ?_); refine box_event ?hg (N := 2) ?hd (cs := #[.bool false, .int .u64 0, .int .u64 0, .int .u64 0, .int .u64 0]) (t := 71) ?hr ?_; (case hd => rfl); (case hg => rfl); (case hr => first | (go_simp; done) | (go_simp; rfl)); intro gb114 hg w7 hbox hb; have BK114 := Aside0.mk (hbox); have GW114 := Aside0.mk (ge1 hg (bw HB.out)); have GE114 := Aside0.mk (ge1 hg (bw HB.out)); have NB113_114 := Aside0.mk (ne1 hg (bk BK113.out)); have NB114_113 := Aside0.mk (ne2 hg (bk BK113.out)); replace BK113 := Aside0.mk (bb hb BK113.out); replace HB := Aside0.mk (below_step (bw HB.out) hb); clear hb hbox hg; have hnb8 := NB113_114.out; have hnc8 := NB114_113.out; have hcz9_0 : w7.cell? ⟨gb113, 0, none⟩ = some (.bool a0_0) := (blk_cell BK113.out 0).trans rfl; have hcz9_1 : w7.cell? ⟨gb113, 1, none⟩ = some (.int .u64 a0_1) := (blk_cell BK113.out 1).trans rfl; have hcz9_2 : w7.cell? ⟨gb113, 2, none⟩ = some (.int .u64 a0_2) := (blk_cell BK113.out 2).trans rfl; have hcz9_3 : w7.cell? ⟨gb113, 3, none⟩ = some (.int .u64 a0_3) := (blk_cell BK113.out 3).trans rfl; have hcz9_4 : w7.cell? ⟨gb113, 4, none⟩ = some (.int .u64 a0_4) := (blk_cell BK113.out 4).trans rfl; have hfz9_0 := blk_frozen BK113.out 0; have hfz9_1 := blk_frozen BK113.out 1; have hfz9_2 := blk_frozen BK113.out 2; have hfz9_3 := blk_frozen BK113.out 3; have hfz9_4 := blk_frozen BK113.out 4) | ((with_reducible refine gate_callee (f := 59) rfl ?_); refine goesL_ (some 9) rfl rfl Tryd.func59 (by kernel_rfl) rfl #[.agg #[.int .u64 a0_1, .int .u64 a0_2], .agg #[.int .u64 a0_1, .int .u64 a0_2]] rfl (by (try simp only [List.map_toArray, List.map_cons, List.map_nil]); first | done | rfl | (simp only [List.length_drop, List.length_take]; rfl)) ?_; (with_reducible refine (ratio_wide_plus.calls a0_1 a0_2 a0_1 a0_2 t115 t116 _ A2.out).mono ?_); rintro e w10 ⟨rfl, hb⟩; refine ⟨_, rfl, ?_⟩; replace BK113 := Aside0.mk (bb hb BK113.out); replace BK114 := Aside0.mk (bb hb BK114.out); replace HB := Aside0.mk (below_step (bw HB.out) hb); (try clear hb); (try clear hb2); (try clear hk); (try clear hi)) | ((with_reducible refine gate_dst (N := 3) rfl ?_); refine box_event ?hg (N := 3) ?hd (cs := #[.int .u64 0, .int .u64 0]) (t := 67) ?hr ?_; (case hd => rfl); (case hg => rfl); (case hr => first | (go_simp; done) | (go_simp; rfl)); intro gb117 hg w11 hbox hb; have BK117 := Aside0.mk (hbox); have GW117 := Aside0.mk (ge1 hg (bw HB.out)); have GE117 := Aside0.mk (ge1 hg (bw HB.out)); have NB113_117 := Aside0.mk (ne1 hg (bk BK113.out)); have NB117_113 := Aside0.mk (ne2 hg (bk BK113.out)); have NB114_117 := Aside0.mk (ne1 hg (bk BK114.out)); have NB117_114 := Aside0.mk (ne2 hg (bk BK114.out)); replace BK113 := Aside0.mk (bb hb BK113.out); replace BK114 := Aside0.mk (bb hb BK114.out); replace HB := Aside0.mk (below_step (bw HB.out) hb); clear hb hbox hg; have hnb12 := NB117_113.out; have hnc12 := NB113_117.out; have hnb13 := NB117_114.out; have hnc13 := NB114_117.out; have hcz14_0 : w11.cell? ⟨gb117, 0, none⟩ = some (.int .u64 0) := (blk_cell BK117.out 0).trans rfl; have hcz14_1 : w11.cell? ⟨gb117, 1, none⟩ = some (.int .u64 0) := (blk_cell BK117.out 1).trans rfl; have hfz14_0 := blk_frozen BK117.out 0; have hfz14_1 := blk_frozen BK117.out 1))
  have n0_ : Aside0 (((w11.setCell ⟨gb117, 0, none⟩ (.int .u64 t115)).setCell ⟨gb117, 1, none⟩ (.int .u64 t116)).heap[gb113]? = some (.cells #[.bool a0_0, .int .u64 a0_1, .int .u64 a0_2, .int .u64 a0_3, .int .u64 a0_4] 71 (0, 0))) := ⟨by refine bk ?_; exact BK113.out⟩
  have n1_ : Aside0 (((w11.setCell ⟨gb117, 0, none⟩ (.int .u64 t115)).setCell ⟨gb117, 1, none⟩ (.int .u64 t116)).heap[gb114]? = some (.cells #[.bool false, .int .u64 0, .int .u64 0, .int .u64 0, .int .u64 0] 71 (0, 0))) := ⟨by refine bk ?_; exact BK114.out⟩
  have n2_ : Aside0 (((w11.setCell ⟨gb117, 0, none⟩ (.int .u64 t115)).setCell ⟨gb117, 1, none⟩ (.int .u64 t116)).heap[gb117]? = some (.cells #[.int .u64 t115, .int .u64 t116] 67 (0, 0))) := ⟨by refine bk ?_; refine blk_put (cs := #[.int .u64 t115, .int .u64 0]) ?_ 1 _ rfl; refine bk ?_; refine blk_put (cs := #[.int .u64 0, .int .u64 0]) ?_ 0 _ rfl; refine bk ?_; exact BK117.out⟩
  have n3_ : Aside0 (Below w.heap.size w ((w11.setCell ⟨gb117, 0, none⟩ (.int .u64 t115)).setCell ⟨gb117, 1, none⟩ (.int .u64 t116))) := ⟨by repeat (first | (with_reducible first | exact HB.out | apply below_alloc | apply pw_below_drewN | apply below_drew1 | refine below_set ?_ GE113.out | refine below_set ?_ GE114.out | refine below_set ?_ GE117.out) | exact HB.out)⟩
  (try clear BK113)
  (try clear BK114)
  (try clear BK117)
  (try clear HB)
  generalize ((w11.setCell ⟨gb117, 0, none⟩ (.int .u64 t115)).setCell ⟨gb117, 1, none⟩ (.int .u64 t116)) = w15 at n0_ n1_ n2_ n3_ ⊢
  have BK113 := n0_
  have BK114 := n1_
  have BK117 := n2_
  have HB := n3_
  clear n0_ n1_ n2_ n3_
  have n0_ := Aside0.mk (blk_drew BK113.out)
  have n1_ := Aside0.mk (blk_drew BK114.out)
  have n2_ := Aside0.mk (blk_drew BK117.out)
  have n3_ := Aside0.mk (below_drew1 HB.out)
  clear BK113
  clear BK114
  clear BK117
  clear HB
  have BK113 := n0_
  have BK114 := n1_
  have BK117 := n2_
  have HB := n3_
  clear n0_ n1_ n2_ n3_
  refine start_ (n := 14) (S := fun w' => w'.cell? ⟨gb113, 0, none⟩ = some (.bool a0_0) ∧ w'.cell? ⟨gb113, 1, none⟩ = some (.int .u64 a0_1) ∧ w'.cell? ⟨gb113, 2, none⟩ = some (.int .u64 a0_2) ∧ w'.cell? ⟨gb113, 3, none⟩ = some (.int .u64 a0_3) ∧ w'.cell? ⟨gb113, 4, none⟩ = some (.int .u64 a0_4) ∧ w'.cell? ⟨gb117, 0, none⟩ = some (.int .u64 t115) ∧ w'.cell? ⟨gb117, 1, none⟩ = some (.int .u64 t116)) (ds := []) #[false, false, false, false, false, false, false, false, false, false, false, false, false, false] (by kernel_rfl) rfl rfl ⟨(blk_cell BK113.out 0).trans rfl, (blk_cell BK113.out 1).trans rfl, (blk_cell BK113.out 2).trans rfl, (blk_cell BK113.out 3).trans rfl, (blk_cell BK113.out 4).trans rfl, (blk_cell BK117.out 0).trans rfl, (blk_cell BK117.out 1).trans rfl⟩ (fun hHeld => ?_); refine with_tabW ratio_frac_half.tab2 ratio_frac_half.bits2 (fun HT_ HW_ => ?_)
  generalize w15.drew = w16 at BK113 BK114 BK117 HB hHeld ⊢
  refine pure_ (i := 0) (N := some 10) (v := ?_) (a' := ?_) #[true, false, false, false, false, false, false, false, false, false, false, false, false, false] rfl rfl (any_of HT_.out (by kernel_rfl)) (fun _ _ _ h => h) (Or.inl ⟨by rfl, ?_⟩) ?_ ?_
  rotate_left
  · intro w'
    go_simp
    with_reducible rfl
  rotate_left
  · simp only [Act.put, List.setIfInBounds_toArray, List.set_cons_zero, List.set_cons_succ, i64_w, i32_w]
    rfl
  refine pure_ (i := 3) (N := some 13) (v := ?_) (a' := ?_) #[true, false, false, true, false, false, false, false, false, false, false, false, false, false] rfl rfl (any_of HT_.out (by kernel_rfl)) (fun _ _ _ h => h) (Or.inl ⟨by rfl, ?_⟩) ?_ ?_
  rotate_left
  · intro w'
    go_simp
    with_reducible rfl
  rotate_left
  · simp only [Act.put, List.setIfInBounds_toArray, List.set_cons_zero, List.set_cons_succ, i64_w, i32_w]
    rfl
  refine pure_ (i := 6) (N := some 16) (v := ?_) (a' := ?_) #[true, false, false, true, false, false, true, false, false, false, false, false, false, false] rfl rfl (any_of HT_.out (by kernel_rfl)) (fun _ _ _ h => h) (Or.inl ⟨by rfl, ?_⟩) ?_ ?_
  rotate_left
  · intro w'
    go_simp
    with_reducible rfl
  rotate_left
  · simp only [Act.put, List.setIfInBounds_toArray, List.set_cons_zero, List.set_cons_succ, i64_w, i32_w]
    rfl
  refine pure_ (i := 8) (N := some 18) (v := ?_) (a' := ?_) #[true, false, false, true, false, false, true, false, true, false, false, false, false, false] rfl rfl (any_of HT_.out (by kernel_rfl)) (fun _ _ _ h => h) (Or.inl ⟨by rfl, ?_⟩) ?_ ?_
  rotate_left
  · intro w'
    go_simp
    with_reducible rfl
  rotate_left
  · simp only [Act.put, List.setIfInBounds_toArray, List.set_cons_zero, List.set_cons_succ, i64_w, i32_w]
    rfl
  refine take_ (i := 1) (N := some 11) (v := ?_) (a' := ?_) #[true, true, false, true, false, false, true, false, true, false, false, false, false, false] rfl rfl (take_ofW HT_.out HW_.out (by kernel_rfl)) (fun _ _ _ h => h) (Or.inl ⟨by rfl, ?_⟩) hHeld ?_ ?_
  rotate_left
  · rintro w' ⟨s0, s1, s2, s3, s4, s5, s6⟩
    go_simp
    with_reducible rfl
  rotate_left
  · simp only [Act.put, List.setIfInBounds_toArray, List.set_cons_zero, List.set_cons_succ, i64_w, i32_w]
    rfl
  refine take_ (i := 2) (N := some 12) (v := ?_) (a' := ?_) #[true, true, true, true, false, false, true, false, true, false, false, false, false, false] rfl rfl (take_ofW HT_.out HW_.out (by kernel_rfl)) (fun _ _ _ h => h) (Or.inl ⟨by rfl, ?_⟩) hHeld ?_ ?_
  rotate_left
  · rintro w' ⟨s0, s1, s2, s3, s4, s5, s6⟩
    go_simp
    with_reducible rfl
  rotate_left
  · simp only [Act.put, List.setIfInBounds_toArray, List.set_cons_zero, List.set_cons_succ, i64_w, i32_w]
    rfl
  refine take_ (i := 4) (N := some 14) (v := ?_) (a' := ?_) #[true, true, true, true, true, false, true, false, true, false, false, false, false, false] rfl rfl (take_ofW HT_.out HW_.out (by kernel_rfl)) (fun _ _ _ h => h) (Or.inl ⟨by rfl, ?_⟩) hHeld ?_ ?_
  rotate_left
  · rintro w' ⟨s0, s1, s2, s3, s4, s5, s6⟩
    go_simp
    with_reducible rfl
  rotate_left
  · simp only [Act.put, List.setIfInBounds_toArray, List.set_cons_zero, List.set_cons_succ, i64_w, i32_w]
    rfl
  refine take_ (i := 7) (N := some 17) (v := ?_) (a' := ?_) #[true, true, true, true, true, false, true, true, true, false, false, false, false, false] rfl rfl (take_ofW HT_.out HW_.out (by kernel_rfl)) (fun _ _ _ h => h) (Or.inl ⟨by rfl, ?_⟩) hHeld ?_ ?_
  rotate_left
  · rintro w' ⟨s0, s1, s2, s3, s4, s5, s6⟩
    go_simp
    with_reducible rfl
  rotate_left
  · simp only [Act.put, List.setIfInBounds_toArray, List.set_cons_zero, List.set_cons_succ, i64_w, i32_w]
    rfl
  refine take_ (i := 9) (N := some 19) (v := ?_) (a' := ?_) #[true, true, true, true, true, false, true, true, true, true, false, false, false, false] rfl rfl (take_ofW HT_.out HW_.out (by kernel_rfl)) (fun _ _ _ h => h) (Or.inl ⟨by rfl, ?_⟩) hHeld ?_ ?_
  rotate_left
  · rintro w' ⟨s0, s1, s2, s3, s4, s5, s6⟩
    go_simp
    with_reducible rfl
  rotate_left
  · simp only [Act.put, List.setIfInBounds_toArray, List.set_cons_zero, List.set_cons_succ, i64_w, i32_w]
    rfl
  refine join_ (σ := Nat) 1 #[true, true, true, true, true, true, true, true, true, true, true, true, true, false] (fun s_ => [(15, .agg #[.int .u64 t118, .int .u64 t119]), (20, .agg #[.int .u64 t120, .int .u64 t121]), (4, .pointer (some ⟨s_, 0, none⟩)), (21, .agg #[.bool a0_0, .int .u64 t118, .int .u64 t119, .int .u64 t120, .int .u64 t121])]) (fun s_ w' => (w'.cell? ⟨gb113, 0, none⟩ = some (.bool a0_0) ∧ w'.cell? ⟨gb113, 1, none⟩ = some (.int .u64 a0_1) ∧ w'.cell? ⟨gb113, 2, none⟩ = some (.int .u64 a0_2) ∧ w'.cell? ⟨gb113, 3, none⟩ = some (.int .u64 a0_3) ∧ w'.cell? ⟨gb113, 4, none⟩ = some (.int .u64 a0_4) ∧ w'.cell? ⟨gb117, 0, none⟩ = some (.int .u64 t115) ∧ w'.cell? ⟨gb117, 1, none⟩ = some (.int .u64 t116)) ∧ (w'.heap[gb113]? = some (.cells #[.bool a0_0, .int .u64 a0_1, .int .u64 a0_2, .int .u64 a0_3, .int .u64 a0_4] 71 (0, 0))) ∧ (w'.heap[gb114]? = some (.cells #[.bool false, .int .u64 0, .int .u64 0, .int .u64 0, .int .u64 0] 71 (0, 0))) ∧ (w'.heap[gb117]? = some (.cells #[.int .u64 t115, .int .u64 t116] 67 (0, 0))) ∧ (w'.heap[s_]? = some (.cells #[.bool false, .int .u64 0, .int .u64 0, .int .u64 0, .int .u64 0] 71 (0, 0))) ∧ (w.heap.size ≤ s_) ∧ (w.heap.size ≤ s_) ∧ (gb113 ≠ s_) ∧ (s_ ≠ gb113) ∧ (gb114 ≠ s_) ∧ (s_ ≠ gb114) ∧ (gb117 ≠ s_) ∧ (s_ ≠ gb117) ∧ (Below w.heap.size w w')) ?_ ?_
  rotate_left
  · intro hCont
    refine two_ (i := 5) (j := 12) (Ni := some 15) (Nj := some 4) #[true, true, true, true, true, true, true, true, true, true, false, false, false, false] #[true, true, true, true, true, false, true, true, true, true, false, false, true, false] rfl rfl rfl rfl (two_of HT_.out (by kernel_rfl)) (by decide) (by decide) (fun K hK => ?_) (fun K hK => ?_)
    · skip
      refine goes_ Tryd.func59 (by kernel_rfl) rfl #[.agg #[.int .u64 t115, .int .u64 t116], .agg #[.int .u64 a0_3, .int .u64 a0_4]] (by rfl) rfl rfl (by (try simp only [List.map_toArray, List.map_cons, List.map_nil]); first | done | rfl | (simp only [List.length_drop, List.length_take]; rfl)) ?_
      with_reducible refine (ratio_wide_plus.calls t115 t116 a0_3 a0_4 t118 t119 _ A3.out).mono ?_
      rintro e w17 ⟨rfl, hb⟩
      refine ⟨_, rfl, ?_⟩
      have n0_ := Aside0.mk (bb hb BK113.out)
      have n1_ := Aside0.mk (bb hb BK114.out)
      have n2_ := Aside0.mk (bb hb BK117.out)
      have n3_ := Aside0.mk (below_step (bw HB.out) hb)
      clear BK113
      clear BK114
      clear BK117
      clear HB
      have BK113 := n0_
      have BK114 := n1_
      have BK117 := n2_
      have HB := n3_
      clear n0_ n1_ n2_ n3_
      (try clear hb)
      (try clear hb2)
      (try clear hk)
      (try clear hi)
      refine hK.out _ _ ⟨(blk_cell BK113.out 0).trans rfl, (blk_cell BK113.out 1).trans rfl, (blk_cell BK113.out 2).trans rfl, (blk_cell BK113.out 3).trans rfl, (blk_cell BK113.out 4).trans rfl, (blk_cell BK117.out 0).trans rfl, (blk_cell BK117.out 1).trans rfl⟩ (fun hHeld => ?_)
      clear hK K
      refine norm_ (a' := ?_) ?_ ?_
      rotate_left
      · show Act.put _ (some 15) _ = _
        simp only [Act.put, List.setIfInBounds_toArray, List.set_cons_zero, List.set_cons_succ, i64_w, i32_w]
        rfl
      refine two_ (i := 10) (j := 12) (Ni := some 20) (Nj := some 4) #[true, true, true, true, true, true, true, true, true, true, true, false, false, false] #[true, true, true, true, true, true, true, true, true, true, false, false, true, false] rfl rfl rfl rfl (two_of HT_.out (by kernel_rfl)) (by decide) (by decide) (fun K hK => ?_) (fun K hK => ?_)
      · skip
        refine goes_ Tryd.func59 (by kernel_rfl) rfl #[.agg #[.int .u64 a0_3, .int .u64 a0_4], .agg #[.int .u64 a0_3, .int .u64 a0_4]] (by rfl) rfl rfl (by (try simp only [List.map_toArray, List.map_cons, List.map_nil]); first | done | rfl | (simp only [List.length_drop, List.length_take]; rfl)) ?_
        with_reducible refine (ratio_wide_plus.calls a0_3 a0_4 a0_3 a0_4 t120 t121 _ A4.out).mono ?_
        rintro e w18 ⟨rfl, hb⟩
        refine ⟨_, rfl, ?_⟩
        have n0_ := Aside0.mk (bb hb BK113.out)
        have n1_ := Aside0.mk (bb hb BK114.out)
        have n2_ := Aside0.mk (bb hb BK117.out)
        have n3_ := Aside0.mk (below_step (bw HB.out) hb)
        clear BK113
        clear BK114
        clear BK117
        clear HB
        have BK113 := n0_
        have BK114 := n1_
        have BK117 := n2_
        have HB := n3_
        clear n0_ n1_ n2_ n3_
        (try clear hb)
        (try clear hb2)
        (try clear hk)
        (try clear hi)
        refine hK.out _ _ ⟨(blk_cell BK113.out 0).trans rfl, (blk_cell BK113.out 1).trans rfl, (blk_cell BK113.out 2).trans rfl, (blk_cell BK113.out 3).trans rfl, (blk_cell BK113.out 4).trans rfl, (blk_cell BK117.out 0).trans rfl, (blk_cell BK117.out 1).trans rfl⟩ (fun hHeld => ?_)
        clear hK K
        refine norm_ (a' := ?_) ?_ ?_
        rotate_left
        · show Act.put _ (some 20) _ = _
          simp only [Act.put, List.setIfInBounds_toArray, List.set_cons_zero, List.set_cons_succ, i64_w, i32_w]
          rfl
        refine pure_ (i := 11) (N := some 21) (v := ?_) (a' := ?_) #[true, true, true, true, true, true, true, true, true, true, true, true, false, false] rfl rfl (any_of HT_.out (by kernel_rfl)) (fun _ _ _ h => h) (Or.inl ⟨by rfl, ?_⟩) ?_ ?_
        rotate_left
        · intro w'
          go_simp
          with_reducible rfl
        rotate_left
        · simp only [Act.put, List.setIfInBounds_toArray, List.set_cons_zero, List.set_cons_succ, i64_w, i32_w]
          rfl
        refine one_ (i := 12) (N := some 4) #[true, true, true, true, true, true, true, true, true, true, true, true, true, false] rfl rfl (one_of HT_.out (by kernel_rfl)) (by decide) (fun K hK => ?_)
        refine box_step ?hg (N := 4) ?hd (cs := #[.bool false, .int .u64 0, .int .u64 0, .int .u64 0, .int .u64 0]) (t := 71) ?hr ?_; (case hd => rfl); (case hg => rfl); (case hr => first | (go_simp; done) | (go_simp; rfl))
        intro gb122 hg w19 hbox hb
        have n0_ := Aside0.mk (bb hb BK113.out)
        have n1_ := Aside0.mk (bb hb BK114.out)
        have n2_ := Aside0.mk (bb hb BK117.out)
        have n3_ := Aside0.mk (below_step (bw HB.out) hb)
        have n4_ := Aside0.mk (hbox)
        have n5_ := Aside0.mk (ge1 hg (bw HB.out))
        have n6_ := Aside0.mk (ge1 hg (bw HB.out))
        have n7_ := Aside0.mk (ne1 hg (bk BK113.out))
        have n8_ := Aside0.mk (ne2 hg (bk BK113.out))
        have n9_ := Aside0.mk (ne1 hg (bk BK114.out))
        have n10_ := Aside0.mk (ne2 hg (bk BK114.out))
        have n11_ := Aside0.mk (ne1 hg (bk BK117.out))
        have n12_ := Aside0.mk (ne2 hg (bk BK117.out))
        clear BK113
        clear BK114
        clear BK117
        clear HB
        have BK113 := n0_
        have BK114 := n1_
        have BK117 := n2_
        have HB := n3_
        have BK122 := n4_
        have GW122 := n5_
        have GE122 := n6_
        have NB113_122 := n7_
        have NB122_113 := n8_
        have NB114_122 := n9_
        have NB122_114 := n10_
        have NB117_122 := n11_
        have NB122_117 := n12_
        clear n0_ n1_ n2_ n3_ n4_ n5_ n6_ n7_ n8_ n9_ n10_ n11_ n12_
        clear hb hbox hg
        refine hK.out _ _ ⟨(blk_cell BK113.out 0).trans rfl, (blk_cell BK113.out 1).trans rfl, (blk_cell BK113.out 2).trans rfl, (blk_cell BK113.out 3).trans rfl, (blk_cell BK113.out 4).trans rfl, (blk_cell BK117.out 0).trans rfl, (blk_cell BK117.out 1).trans rfl⟩ (fun hHeld => ?_)
        clear hK K
        refine norm_ (a' := ?_) ?_ ?_
        rotate_left
        · show Act.put _ (some 4) _ = _
          simp only [Act.put, List.setIfInBounds_toArray, List.set_cons_zero, List.set_cons_succ, i64_w, i32_w]
          rfl
        exact norm_ (by simp only [putAll, Act.put, List.setIfInBounds_toArray, List.set_cons_zero, List.set_cons_succ]) (hCont (gb122) _ ⟨hHeld, (bk BK113.out), (bk BK114.out), (bk BK117.out), (bk BK122.out), GW122.out, GE122.out, NB113_122.out, NB122_113.out, NB114_122.out, NB122_114.out, NB117_122.out, NB122_117.out, (bw HB.out)⟩)
      · skip
        refine box_step ?hg (N := 4) ?hd (cs := #[.bool false, .int .u64 0, .int .u64 0, .int .u64 0, .int .u64 0]) (t := 71) ?hr ?_; (case hd => rfl); (case hg => rfl); (case hr => first | (go_simp; done) | (go_simp; rfl))
        intro gb122 hg w18 hbox hb
        have n0_ := Aside0.mk (bb hb BK113.out)
        have n1_ := Aside0.mk (bb hb BK114.out)
        have n2_ := Aside0.mk (bb hb BK117.out)
        have n3_ := Aside0.mk (below_step (bw HB.out) hb)
        have n4_ := Aside0.mk (hbox)
        have n5_ := Aside0.mk (ge1 hg (bw HB.out))
        have n6_ := Aside0.mk (ge1 hg (bw HB.out))
        have n7_ := Aside0.mk (ne1 hg (bk BK113.out))
        have n8_ := Aside0.mk (ne2 hg (bk BK113.out))
        have n9_ := Aside0.mk (ne1 hg (bk BK114.out))
        have n10_ := Aside0.mk (ne2 hg (bk BK114.out))
        have n11_ := Aside0.mk (ne1 hg (bk BK117.out))
        have n12_ := Aside0.mk (ne2 hg (bk BK117.out))
        clear BK113
        clear BK114
        clear BK117
        clear HB
        have BK113 := n0_
        have BK114 := n1_
        have BK117 := n2_
        have HB := n3_
        have BK122 := n4_
        have GW122 := n5_
        have GE122 := n6_
        have NB113_122 := n7_
        have NB122_113 := n8_
        have NB114_122 := n9_
        have NB122_114 := n10_
        have NB117_122 := n11_
        have NB122_117 := n12_
        clear n0_ n1_ n2_ n3_ n4_ n5_ n6_ n7_ n8_ n9_ n10_ n11_ n12_
        clear hb hbox hg
        refine hK.out _ _ ⟨(blk_cell BK113.out 0).trans rfl, (blk_cell BK113.out 1).trans rfl, (blk_cell BK113.out 2).trans rfl, (blk_cell BK113.out 3).trans rfl, (blk_cell BK113.out 4).trans rfl, (blk_cell BK117.out 0).trans rfl, (blk_cell BK117.out 1).trans rfl⟩ (fun hHeld => ?_)
        clear hK K
        refine norm_ (a' := ?_) ?_ ?_
        rotate_left
        · show Act.put _ (some 4) _ = _
          simp only [Act.put, List.setIfInBounds_toArray, List.set_cons_zero, List.set_cons_succ, i64_w, i32_w]
          rfl
        refine one_ (i := 10) (N := some 20) #[true, true, true, true, true, true, true, true, true, true, true, false, true, false] rfl rfl (one_of HT_.out (by kernel_rfl)) (by decide) (fun K hK => ?_)
        refine goes_ Tryd.func59 (by kernel_rfl) rfl #[.agg #[.int .u64 a0_3, .int .u64 a0_4], .agg #[.int .u64 a0_3, .int .u64 a0_4]] (by rfl) rfl rfl (by (try simp only [List.map_toArray, List.map_cons, List.map_nil]); first | done | rfl | (simp only [List.length_drop, List.length_take]; rfl)) ?_
        with_reducible refine (ratio_wide_plus.calls a0_3 a0_4 a0_3 a0_4 t120 t121 _ A4.out).mono ?_
        rintro e w19 ⟨rfl, hb⟩
        refine ⟨_, rfl, ?_⟩
        have n0_ := Aside0.mk (bb hb BK113.out)
        have n1_ := Aside0.mk (bb hb BK114.out)
        have n2_ := Aside0.mk (bb hb BK117.out)
        have n3_ := Aside0.mk (bb hb BK122.out)
        have n4_ := Aside0.mk (below_step (bw HB.out) hb)
        clear BK113
        clear BK114
        clear BK117
        clear BK122
        clear HB
        have BK113 := n0_
        have BK114 := n1_
        have BK117 := n2_
        have BK122 := n3_
        have HB := n4_
        clear n0_ n1_ n2_ n3_ n4_
        (try clear hb)
        (try clear hb2)
        (try clear hk)
        (try clear hi)
        refine hK.out _ _ ⟨(blk_cell BK113.out 0).trans rfl, (blk_cell BK113.out 1).trans rfl, (blk_cell BK113.out 2).trans rfl, (blk_cell BK113.out 3).trans rfl, (blk_cell BK113.out 4).trans rfl, (blk_cell BK117.out 0).trans rfl, (blk_cell BK117.out 1).trans rfl⟩ (fun hHeld => ?_)
        clear hK K
        refine norm_ (a' := ?_) ?_ ?_
        rotate_left
        · show Act.put _ (some 20) _ = _
          simp only [Act.put, List.setIfInBounds_toArray, List.set_cons_zero, List.set_cons_succ, i64_w, i32_w]
          rfl
        refine pure_ (i := 11) (N := some 21) (v := ?_) (a' := ?_) #[true, true, true, true, true, true, true, true, true, true, true, true, true, false] rfl rfl (any_of HT_.out (by kernel_rfl)) (fun _ _ _ h => h) (Or.inl ⟨by rfl, ?_⟩) ?_ ?_
        rotate_left
        · intro w'
          go_simp
          with_reducible rfl
        rotate_left
        · simp only [Act.put, List.setIfInBounds_toArray, List.set_cons_zero, List.set_cons_succ, i64_w, i32_w]
          rfl
        exact norm_ (by simp only [putAll, Act.put, List.setIfInBounds_toArray, List.set_cons_zero, List.set_cons_succ]) (hCont (gb122) _ ⟨hHeld, (bk BK113.out), (bk BK114.out), (bk BK117.out), (bk BK122.out), GW122.out, GE122.out, NB113_122.out, NB122_113.out, NB114_122.out, NB122_114.out, NB117_122.out, NB122_117.out, (bw HB.out)⟩)
    · skip
      refine box_step ?hg (N := 4) ?hd (cs := #[.bool false, .int .u64 0, .int .u64 0, .int .u64 0, .int .u64 0]) (t := 71) ?hr ?_; (case hd => rfl); (case hg => rfl); (case hr => first | (go_simp; done) | (go_simp; rfl))
      intro gb122 hg w17 hbox hb
      have n0_ := Aside0.mk (bb hb BK113.out)
      have n1_ := Aside0.mk (bb hb BK114.out)
      have n2_ := Aside0.mk (bb hb BK117.out)
      have n3_ := Aside0.mk (below_step (bw HB.out) hb)
      have n4_ := Aside0.mk (hbox)
      have n5_ := Aside0.mk (ge1 hg (bw HB.out))
      have n6_ := Aside0.mk (ge1 hg (bw HB.out))
      have n7_ := Aside0.mk (ne1 hg (bk BK113.out))
      have n8_ := Aside0.mk (ne2 hg (bk BK113.out))
      have n9_ := Aside0.mk (ne1 hg (bk BK114.out))
      have n10_ := Aside0.mk (ne2 hg (bk BK114.out))
      have n11_ := Aside0.mk (ne1 hg (bk BK117.out))
      have n12_ := Aside0.mk (ne2 hg (bk BK117.out))
      clear BK113
      clear BK114
      clear BK117
      clear HB
      have BK113 := n0_
      have BK114 := n1_
      have BK117 := n2_
      have HB := n3_
      have BK122 := n4_
      have GW122 := n5_
      have GE122 := n6_
      have NB113_122 := n7_
      have NB122_113 := n8_
      have NB114_122 := n9_
      have NB122_114 := n10_
      have NB117_122 := n11_
      have NB122_117 := n12_
      clear n0_ n1_ n2_ n3_ n4_ n5_ n6_ n7_ n8_ n9_ n10_ n11_ n12_
      clear hb hbox hg
      refine hK.out _ _ ⟨(blk_cell BK113.out 0).trans rfl, (blk_cell BK113.out 1).trans rfl, (blk_cell BK113.out 2).trans rfl, (blk_cell BK113.out 3).trans rfl, (blk_cell BK113.out 4).trans rfl, (blk_cell BK117.out 0).trans rfl, (blk_cell BK117.out 1).trans rfl⟩ (fun hHeld => ?_)
      clear hK K
      refine norm_ (a' := ?_) ?_ ?_
      rotate_left
      · show Act.put _ (some 4) _ = _
        simp only [Act.put, List.setIfInBounds_toArray, List.set_cons_zero, List.set_cons_succ, i64_w, i32_w]
        rfl
      refine one_ (i := 5) (N := some 15) #[true, true, true, true, true, true, true, true, true, true, false, false, true, false] rfl rfl (one_of HT_.out (by kernel_rfl)) (by decide) (fun K hK => ?_)
      refine goes_ Tryd.func59 (by kernel_rfl) rfl #[.agg #[.int .u64 t115, .int .u64 t116], .agg #[.int .u64 a0_3, .int .u64 a0_4]] (by rfl) rfl rfl (by (try simp only [List.map_toArray, List.map_cons, List.map_nil]); first | done | rfl | (simp only [List.length_drop, List.length_take]; rfl)) ?_
      with_reducible refine (ratio_wide_plus.calls t115 t116 a0_3 a0_4 t118 t119 _ A3.out).mono ?_
      rintro e w18 ⟨rfl, hb⟩
      refine ⟨_, rfl, ?_⟩
      have n0_ := Aside0.mk (bb hb BK113.out)
      have n1_ := Aside0.mk (bb hb BK114.out)
      have n2_ := Aside0.mk (bb hb BK117.out)
      have n3_ := Aside0.mk (bb hb BK122.out)
      have n4_ := Aside0.mk (below_step (bw HB.out) hb)
      clear BK113
      clear BK114
      clear BK117
      clear BK122
      clear HB
      have BK113 := n0_
      have BK114 := n1_
      have BK117 := n2_
      have BK122 := n3_
      have HB := n4_
      clear n0_ n1_ n2_ n3_ n4_
      (try clear hb)
      (try clear hb2)
      (try clear hk)
      (try clear hi)
      refine hK.out _ _ ⟨(blk_cell BK113.out 0).trans rfl, (blk_cell BK113.out 1).trans rfl, (blk_cell BK113.out 2).trans rfl, (blk_cell BK113.out 3).trans rfl, (blk_cell BK113.out 4).trans rfl, (blk_cell BK117.out 0).trans rfl, (blk_cell BK117.out 1).trans rfl⟩ (fun hHeld => ?_)
      clear hK K
      refine norm_ (a' := ?_) ?_ ?_
      rotate_left
      · show Act.put _ (some 15) _ = _
        simp only [Act.put, List.setIfInBounds_toArray, List.set_cons_zero, List.set_cons_succ, i64_w, i32_w]
        rfl
      refine one_ (i := 10) (N := some 20) #[true, true, true, true, true, true, true, true, true, true, true, false, true, false] rfl rfl (one_of HT_.out (by kernel_rfl)) (by decide) (fun K hK => ?_)
      refine goes_ Tryd.func59 (by kernel_rfl) rfl #[.agg #[.int .u64 a0_3, .int .u64 a0_4], .agg #[.int .u64 a0_3, .int .u64 a0_4]] (by rfl) rfl rfl (by (try simp only [List.map_toArray, List.map_cons, List.map_nil]); first | done | rfl | (simp only [List.length_drop, List.length_take]; rfl)) ?_
      with_reducible refine (ratio_wide_plus.calls a0_3 a0_4 a0_3 a0_4 t120 t121 _ A4.out).mono ?_
      rintro e w19 ⟨rfl, hb⟩
      refine ⟨_, rfl, ?_⟩
      have n0_ := Aside0.mk (bb hb BK113.out)
      have n1_ := Aside0.mk (bb hb BK114.out)
      have n2_ := Aside0.mk (bb hb BK117.out)
      have n3_ := Aside0.mk (bb hb BK122.out)
      have n4_ := Aside0.mk (below_step (bw HB.out) hb)
      clear BK113
      clear BK114
      clear BK117
      clear BK122
      clear HB
      have BK113 := n0_
      have BK114 := n1_
      have BK117 := n2_
      have BK122 := n3_
      have HB := n4_
      clear n0_ n1_ n2_ n3_ n4_
      (try clear hb)
      (try clear hb2)
      (try clear hk)
      (try clear hi)
      refine hK.out _ _ ⟨(blk_cell BK113.out 0).trans rfl, (blk_cell BK113.out 1).trans rfl, (blk_cell BK113.out 2).trans rfl, (blk_cell BK113.out 3).trans rfl, (blk_cell BK113.out 4).trans rfl, (blk_cell BK117.out 0).trans rfl, (blk_cell BK117.out 1).trans rfl⟩ (fun hHeld => ?_)
      clear hK K
      refine norm_ (a' := ?_) ?_ ?_
      rotate_left
      · show Act.put _ (some 20) _ = _
        simp only [Act.put, List.setIfInBounds_toArray, List.set_cons_zero, List.set_cons_succ, i64_w, i32_w]
        rfl
      refine pure_ (i := 11) (N := some 21) (v := ?_) (a' := ?_) #[true, true, true, true, true, true, true, true, true, true, true, true, true, false] rfl rfl (any_of HT_.out (by kernel_rfl)) (fun _ _ _ h => h) (Or.inl ⟨by rfl, ?_⟩) ?_ ?_
      rotate_left
      · intro w'
        go_simp
        with_reducible rfl
      rotate_left
      · simp only [Act.put, List.setIfInBounds_toArray, List.set_cons_zero, List.set_cons_succ, i64_w, i32_w]
        rfl
      exact norm_ (by simp only [putAll, Act.put, List.setIfInBounds_toArray, List.set_cons_zero, List.set_cons_succ]) (hCont (gb122) _ ⟨hHeld, (bk BK113.out), (bk BK114.out), (bk BK117.out), (bk BK122.out), GW122.out, GE122.out, NB113_122.out, NB122_113.out, NB114_122.out, NB122_114.out, NB117_122.out, NB122_117.out, (bw HB.out)⟩)
  rintro gb122 w20 ⟨hS_, h0_, h1_, h2_, h3_, h4_, h5_, h6_, h7_, h8_, h9_, h10_, h11_, h12_⟩
  have n0_ : Aside0 (w20.heap[gb113]? = some (.cells #[.bool a0_0, .int .u64 a0_1, .int .u64 a0_2, .int .u64 a0_3, .int .u64 a0_4] 71 (0, 0))) := ⟨h0_⟩
  have n1_ : Aside0 (w20.heap[gb114]? = some (.cells #[.bool false, .int .u64 0, .int .u64 0, .int .u64 0, .int .u64 0] 71 (0, 0))) := ⟨h1_⟩
  have n2_ : Aside0 (w20.heap[gb117]? = some (.cells #[.int .u64 t115, .int .u64 t116] 67 (0, 0))) := ⟨h2_⟩
  have n3_ : Aside0 (w20.heap[gb122]? = some (.cells #[.bool false, .int .u64 0, .int .u64 0, .int .u64 0, .int .u64 0] 71 (0, 0))) := ⟨h3_⟩
  have n4_ : Aside0 (w.heap.size ≤ gb122) := ⟨h4_⟩
  have n5_ : Aside0 (w.heap.size ≤ gb122) := ⟨h5_⟩
  have n6_ : Aside0 (gb113 ≠ gb122) := ⟨h6_⟩
  have n7_ : Aside0 (gb122 ≠ gb113) := ⟨h7_⟩
  have n8_ : Aside0 (gb114 ≠ gb122) := ⟨h8_⟩
  have n9_ : Aside0 (gb122 ≠ gb114) := ⟨h9_⟩
  have n10_ : Aside0 (gb117 ≠ gb122) := ⟨h10_⟩
  have n11_ : Aside0 (gb122 ≠ gb117) := ⟨h11_⟩
  have n12_ : Aside0 (Below w.heap.size w w20) := ⟨h12_⟩
  clear BK113
  clear BK114
  clear BK117
  clear HB
  clear h0_ h1_ h2_ h3_ h4_ h5_ h6_ h7_ h8_ h9_ h10_ h11_ h12_
  have BK113 := n0_
  have BK114 := n1_
  have BK117 := n2_
  have BK122 := n3_
  have GW122 := n4_
  have GE122 := n5_
  have NB113_122 := n6_
  have NB122_113 := n7_
  have NB114_122 := n8_
  have NB122_114 := n9_
  have NB117_122 := n10_
  have NB122_117 := n11_
  have HB := n12_
  clear n0_ n1_ n2_ n3_ n4_ n5_ n6_ n7_ n8_ n9_ n10_ n11_ n12_
  have hHeld : w20.cell? ⟨gb113, 0, none⟩ = some (.bool a0_0) ∧ w20.cell? ⟨gb113, 1, none⟩ = some (.int .u64 a0_1) ∧ w20.cell? ⟨gb113, 2, none⟩ = some (.int .u64 a0_2) ∧ w20.cell? ⟨gb113, 3, none⟩ = some (.int .u64 a0_3) ∧ w20.cell? ⟨gb113, 4, none⟩ = some (.int .u64 a0_4) ∧ w20.cell? ⟨gb117, 0, none⟩ = some (.int .u64 t115) ∧ w20.cell? ⟨gb117, 1, none⟩ = some (.int .u64 t116) := hS_
  refine norm_ (a' := ?_) ?_ ?_
  rotate_left
  · simp only [putAll, Act.put, List.setIfInBounds_toArray, List.set_cons_zero, List.set_cons_succ]
    rfl
  refine one_ (i := 13) (N := none) #[true, true, true, true, true, true, true, true, true, true, true, true, true, true] rfl rfl (one_of HT_.out (by kernel_rfl)) (by decide) (fun K hK => ?_)
  have hs21 : w20.cell? ⟨gb122, 0, none⟩ = some (.bool false) := (blk_cell BK122.out 0).trans rfl
  have hfs21 := blk_frozen BK122.out 0
  have hns21_0 := NB113_122.out
  have hns21_1 := NB114_122.out
  have hns21_2 := NB117_122.out
  have hms21_0 := NB122_113.out
  have hms21_1 := NB122_114.out
  have hms21_2 := NB122_117.out
  have hs22 : w20.cell? ⟨gb122, 1, none⟩ = some (.int .u64 0) := (blk_cell BK122.out 1).trans rfl
  have hfs22 := blk_frozen BK122.out 1
  have hns22_0 := NB113_122.out
  have hns22_1 := NB114_122.out
  have hns22_2 := NB117_122.out
  have hms22_0 := NB122_113.out
  have hms22_1 := NB122_114.out
  have hms22_2 := NB122_117.out
  have hs23 : w20.cell? ⟨gb122, 2, none⟩ = some (.int .u64 0) := (blk_cell BK122.out 2).trans rfl
  have hfs23 := blk_frozen BK122.out 2
  have hns23_0 := NB113_122.out
  have hns23_1 := NB114_122.out
  have hns23_2 := NB117_122.out
  have hms23_0 := NB122_113.out
  have hms23_1 := NB122_114.out
  have hms23_2 := NB122_117.out
  have hs24 : w20.cell? ⟨gb122, 3, none⟩ = some (.int .u64 0) := (blk_cell BK122.out 3).trans rfl
  have hfs24 := blk_frozen BK122.out 3
  have hns24_0 := NB113_122.out
  have hns24_1 := NB114_122.out
  have hns24_2 := NB117_122.out
  have hms24_0 := NB122_113.out
  have hms24_1 := NB122_114.out
  have hms24_2 := NB122_117.out
  have hs25 : w20.cell? ⟨gb122, 4, none⟩ = some (.int .u64 0) := (blk_cell BK122.out 4).trans rfl
  have hfs25 := blk_frozen BK122.out 4
  have hns25_0 := NB113_122.out
  have hns25_1 := NB114_122.out
  have hns25_2 := NB117_122.out
  have hms25_0 := NB122_113.out
  have hms25_1 := NB122_114.out
  have hms25_2 := NB122_117.out
  refine skip_ (w1 := ?_) (by rfl) rfl ?_ ?_
  rotate_left
  · go_simp
    rfl
  refine hK.out _ _ ⟨((cell_far (p := ⟨gb122, _, none⟩) NB113_122.out _).trans (((cell_far (p := ⟨gb122, _, none⟩) NB113_122.out _).trans (((cell_far (p := ⟨gb122, _, none⟩) NB113_122.out _).trans (((cell_far (p := ⟨gb122, _, none⟩) NB113_122.out _).trans (((cell_far (p := ⟨gb122, _, none⟩) NB113_122.out _).trans (hHeld.1)))))))))), ((cell_far (p := ⟨gb122, _, none⟩) NB113_122.out _).trans (((cell_far (p := ⟨gb122, _, none⟩) NB113_122.out _).trans (((cell_far (p := ⟨gb122, _, none⟩) NB113_122.out _).trans (((cell_far (p := ⟨gb122, _, none⟩) NB113_122.out _).trans (((cell_far (p := ⟨gb122, _, none⟩) NB113_122.out _).trans (hHeld.2.1)))))))))), ((cell_far (p := ⟨gb122, _, none⟩) NB113_122.out _).trans (((cell_far (p := ⟨gb122, _, none⟩) NB113_122.out _).trans (((cell_far (p := ⟨gb122, _, none⟩) NB113_122.out _).trans (((cell_far (p := ⟨gb122, _, none⟩) NB113_122.out _).trans (((cell_far (p := ⟨gb122, _, none⟩) NB113_122.out _).trans (hHeld.2.2.1)))))))))), ((cell_far (p := ⟨gb122, _, none⟩) NB113_122.out _).trans (((cell_far (p := ⟨gb122, _, none⟩) NB113_122.out _).trans (((cell_far (p := ⟨gb122, _, none⟩) NB113_122.out _).trans (((cell_far (p := ⟨gb122, _, none⟩) NB113_122.out _).trans (((cell_far (p := ⟨gb122, _, none⟩) NB113_122.out _).trans (hHeld.2.2.2.1)))))))))), ((cell_far (p := ⟨gb122, _, none⟩) NB113_122.out _).trans (((cell_far (p := ⟨gb122, _, none⟩) NB113_122.out _).trans (((cell_far (p := ⟨gb122, _, none⟩) NB113_122.out _).trans (((cell_far (p := ⟨gb122, _, none⟩) NB113_122.out _).trans (((cell_far (p := ⟨gb122, _, none⟩) NB113_122.out _).trans (hHeld.2.2.2.2.1)))))))))), ((cell_far (p := ⟨gb122, _, none⟩) NB117_122.out _).trans (((cell_far (p := ⟨gb122, _, none⟩) NB117_122.out _).trans (((cell_far (p := ⟨gb122, _, none⟩) NB117_122.out _).trans (((cell_far (p := ⟨gb122, _, none⟩) NB117_122.out _).trans (((cell_far (p := ⟨gb122, _, none⟩) NB117_122.out _).trans (hHeld.2.2.2.2.2.1)))))))))), ((cell_far (p := ⟨gb122, _, none⟩) NB117_122.out _).trans (((cell_far (p := ⟨gb122, _, none⟩) NB117_122.out _).trans (((cell_far (p := ⟨gb122, _, none⟩) NB117_122.out _).trans (((cell_far (p := ⟨gb122, _, none⟩) NB117_122.out _).trans (((cell_far (p := ⟨gb122, _, none⟩) NB117_122.out _).trans (hHeld.2.2.2.2.2.2))))))))))⟩ (fun hHeld => ?_)
  clear hK K
  refine done_ (done_of HT_.out (by kernel_rfl)) ?_
  go_upto_region 3 with (fail)
  go_cut [22] (fun v22 wc => ∃ (kq : Nat) (x22_4 : Bool), v22 = .bool x22_4 ∧ Aside0 (ratio_frac_half.j0 kq x22_4 a0_0 a0_1 a0_2 a0_3 a0_4 t115 t116 a0_0 t118 t119 t120 t121 = some (r1, r2, r3, r4, r5)) ∧ Aside0 (kq ≤ k) ∧ Aside0 (wc.heap[gb113]? = some (.cells #[.bool a0_0, .int .u64 a0_1, .int .u64 a0_2, .int .u64 a0_3, .int .u64 a0_4] 71 (0, 0))) ∧ Aside0 (wc.heap[gb114]? = some (.cells #[.bool false, .int .u64 0, .int .u64 0, .int .u64 0, .int .u64 0] 71 (0, 0))) ∧ Aside0 (wc.heap[gb117]? = some (.cells #[.int .u64 t115, .int .u64 t116] 67 (0, 0))) ∧ Aside0 (wc.heap[gb122]? = some (.cells #[.bool a0_0, .int .u64 t118, .int .u64 t119, .int .u64 t120, .int .u64 t121] 71 (0, 0))) ∧ Aside0 (Below w.heap.size w wc))
  case first =>
    have H := HC5.out
    clear HC5
    by_cases c26 : a0_0 = true
    · subst c26
      have H1 : ((ratio_wide_cmp.f t115 t116 a0_3 a0_4).bind fun t123 => (ratio_frac_half.j0 k (decide (t123 > 0)) true a0_1 a0_2 a0_3 a0_4 t115 t116 true t118 t119 t120 t121)) = some (r1, r2, r3, r4, r5) := by rw [if_pos rfl] at H; exact H
      clear H
      have H := H1
      clear H1
      replace H := Option.bind_eq_some_iff.mp H
      obtain ⟨t123, A270, H⟩ := H
      replace H : (ratio_frac_half.j0 k (decide (t123 > 0)) true a0_1 a0_2 a0_3 a0_4 t115 t116 true t118 t119 t120 t121) = some (r1, r2, r3, r4, r5) := H
      have A27 := Aside0.mk A270
      clear A270
      have H' := Aside0.mk H
      clear H
      have hnb28 := NB113_114.out
      have hnc28 := NB114_113.out
      have hnb29 := NB113_117.out
      have hnc29 := NB117_113.out
      have hnb30 := NB113_122.out
      have hnc30 := NB122_113.out
      have hcz31_0 : w20.cell? ⟨gb113, 0, none⟩ = some (.bool true) := (blk_cell BK113.out 0).trans rfl
      have hcz31_1 : w20.cell? ⟨gb113, 1, none⟩ = some (.int .u64 a0_1) := (blk_cell BK113.out 1).trans rfl
      have hcz31_2 : w20.cell? ⟨gb113, 2, none⟩ = some (.int .u64 a0_2) := (blk_cell BK113.out 2).trans rfl
      have hcz31_3 : w20.cell? ⟨gb113, 3, none⟩ = some (.int .u64 a0_3) := (blk_cell BK113.out 3).trans rfl
      have hcz31_4 : w20.cell? ⟨gb113, 4, none⟩ = some (.int .u64 a0_4) := (blk_cell BK113.out 4).trans rfl
      have hfz31_0 := blk_frozen BK113.out 0
      have hfz31_1 := blk_frozen BK113.out 1
      have hfz31_2 := blk_frozen BK113.out 2
      have hfz31_3 := blk_frozen BK113.out 3
      have hfz31_4 := blk_frozen BK113.out 4
      have hnb32 := NB117_114.out
      have hnc32 := NB114_117.out
      have hnb33 := NB117_122.out
      have hnc33 := NB122_117.out
      have hcz34_0 : w20.cell? ⟨gb117, 0, none⟩ = some (.int .u64 t115) := (blk_cell BK117.out 0).trans rfl
      have hcz34_1 : w20.cell? ⟨gb117, 1, none⟩ = some (.int .u64 t116) := (blk_cell BK117.out 1).trans rfl
      have hfz34_0 := blk_frozen BK117.out 0
      have hfz34_1 := blk_frozen BK117.out 1
      go_wp2_with (first | (go_at_call 60; (with_reducible refine (ratio_wide_cmp.calls t115 t116 a0_3 a0_4 t123 _ A27.out).mono ?_); rintro e w35 ⟨rfl, hb⟩; have n0_ := Aside0.mk (bb hb BK113.out); have n1_ := Aside0.mk (bb hb BK114.out); have n2_ := Aside0.mk (bb hb BK117.out); have n3_ := Aside0.mk (blk_below (g := gb122) (o := .cells #[.bool true, .int .u64 t118, .int .u64 t119, .int .u64 t120, .int .u64 t121] 71 (0, 0)) (by refine bk ?_; refine blk_put (cs := #[.bool true, .int .u64 t118, .int .u64 t119, .int .u64 t120, .int .u64 0]) ?_ 4 _ rfl; refine bk ?_; refine blk_put (cs := #[.bool true, .int .u64 t118, .int .u64 t119, .int .u64 0, .int .u64 0]) ?_ 3 _ rfl; refine bk ?_; refine blk_put (cs := #[.bool true, .int .u64 t118, .int .u64 0, .int .u64 0, .int .u64 0]) ?_ 2 _ rfl; refine bk ?_; refine blk_put (cs := #[.bool true, .int .u64 0, .int .u64 0, .int .u64 0, .int .u64 0]) ?_ 1 _ rfl; refine bk ?_; refine blk_put (cs := #[.bool false, .int .u64 0, .int .u64 0, .int .u64 0, .int .u64 0]) ?_ 0 _ rfl; refine bk ?_; exact BK122.out) hb); have n4_ := Aside0.mk (below_step (bw HB.out) hb); clear BK113; clear BK114; clear BK117; clear BK122; clear HB; have BK113 := n0_; have BK114 := n1_; have BK117 := n2_; have BK122 := n3_; have HB := n4_; clear n0_ n1_ n2_ n3_ n4_; (try clear hb); (try clear hb2); (try clear hk); (try clear hi)))
      go_meet
      case rel => exact ⟨_, (decide (t123 > 0)), (by first | rfl | (simp; done) | (simp [*]; done)), H', ⟨by first | omega | exact Nat.le_refl _⟩, ⟨by refine bk ?_; exact BK113.out⟩, ⟨by refine bk ?_; exact BK114.out⟩, ⟨by refine bk ?_; exact BK117.out⟩, ⟨by refine bk ?_; exact BK122.out⟩, ⟨by repeat (first | (with_reducible first | exact HB.out | apply below_alloc | apply pw_below_drewN | apply below_drew1 | refine below_set ?_ GE113.out | refine below_set ?_ GE114.out | refine below_set ?_ GE117.out | refine below_set ?_ GE122.out) | exact HB.out)⟩⟩
    · replace c26 := Bool.eq_false_iff.mpr c26
      subst c26
      have H1 : (ratio_frac_half.j0 k false false a0_1 a0_2 a0_3 a0_4 t115 t116 false t118 t119 t120 t121) = some (r1, r2, r3, r4, r5) := by rw [if_neg (show ¬ (false = true) by decide)] at H; exact H
      clear H
      have H := H1
      clear H1
      have H' := Aside0.mk H
      clear H
      have hnb36 := NB113_114.out
      have hnc36 := NB114_113.out
      have hnb37 := NB113_117.out
      have hnc37 := NB117_113.out
      have hnb38 := NB113_122.out
      have hnc38 := NB122_113.out
      have hcz39_0 : w20.cell? ⟨gb113, 0, none⟩ = some (.bool false) := (blk_cell BK113.out 0).trans rfl
      have hcz39_1 : w20.cell? ⟨gb113, 1, none⟩ = some (.int .u64 a0_1) := (blk_cell BK113.out 1).trans rfl
      have hcz39_2 : w20.cell? ⟨gb113, 2, none⟩ = some (.int .u64 a0_2) := (blk_cell BK113.out 2).trans rfl
      have hcz39_3 : w20.cell? ⟨gb113, 3, none⟩ = some (.int .u64 a0_3) := (blk_cell BK113.out 3).trans rfl
      have hcz39_4 : w20.cell? ⟨gb113, 4, none⟩ = some (.int .u64 a0_4) := (blk_cell BK113.out 4).trans rfl
      have hfz39_0 := blk_frozen BK113.out 0
      have hfz39_1 := blk_frozen BK113.out 1
      have hfz39_2 := blk_frozen BK113.out 2
      have hfz39_3 := blk_frozen BK113.out 3
      have hfz39_4 := blk_frozen BK113.out 4
      go_wp2
      go_meet
      case rel => exact ⟨_, (false), (by first | rfl | (simp; done) | (simp [*]; done)), H', ⟨by first | omega | exact Nat.le_refl _⟩, ⟨by refine bk ?_; exact BK113.out⟩, ⟨by refine bk ?_; exact BK114.out⟩, ⟨by refine bk ?_; exact BK117.out⟩, ⟨by refine bk ?_; refine blk_put (cs := #[.bool false, .int .u64 t118, .int .u64 t119, .int .u64 t120, .int .u64 0]) ?_ 4 _ rfl; refine bk ?_; refine blk_put (cs := #[.bool false, .int .u64 t118, .int .u64 t119, .int .u64 0, .int .u64 0]) ?_ 3 _ rfl; refine bk ?_; refine blk_put (cs := #[.bool false, .int .u64 t118, .int .u64 0, .int .u64 0, .int .u64 0]) ?_ 2 _ rfl; refine bk ?_; refine blk_put (cs := #[.bool false, .int .u64 0, .int .u64 0, .int .u64 0, .int .u64 0]) ?_ 1 _ rfl; refine bk ?_; refine blk_put (cs := #[.bool false, .int .u64 0, .int .u64 0, .int .u64 0, .int .u64 0]) ?_ 0 _ rfl; refine bk ?_; exact BK122.out⟩, ⟨by repeat (first | (with_reducible first | exact HB.out | apply below_alloc | apply pw_below_drewN | apply below_drew1 | refine below_set ?_ GE113.out | refine below_set ?_ GE114.out | refine below_set ?_ GE117.out | refine below_set ?_ GE122.out) | exact HB.out)⟩⟩
  case rest =>
    clear HC5
    try clear c1
    try clear c2
    try clear p2
    try clear c3
    try clear c5
    try clear c8
    try clear c9
    try clear c12
    try clear c13
    try clear c26
    try clear c28
    try clear c29
    try clear c30
    try clear c32
    try clear c33
    try clear c36
    try clear c37
    try clear c38
    try clear hcz14_0
    try clear hcz14_1
    try clear hcz31_0
    try clear hcz31_1
    try clear hcz31_2
    try clear hcz31_3
    try clear hcz31_4
    try clear hcz34_0
    try clear hcz34_1
    try clear hcz39_0
    try clear hcz39_1
    try clear hcz39_2
    try clear hcz39_3
    try clear hcz39_4
    try clear hcz9_0
    try clear hcz9_1
    try clear hcz9_2
    try clear hcz9_3
    try clear hcz9_4
    try clear hfz14_0
    try clear hfz14_1
    try clear hfz31_0
    try clear hfz31_1
    try clear hfz31_2
    try clear hfz31_3
    try clear hfz31_4
    try clear hfz34_0
    try clear hfz34_1
    try clear hfz39_0
    try clear hfz39_1
    try clear hfz39_2
    try clear hfz39_3
    try clear hfz39_4
    try clear hfz9_0
    try clear hfz9_1
    try clear hfz9_2
    try clear hfz9_3
    try clear hfz9_4
    obtain ⟨kq, x22_4, rfl, HA, HJ4, BK113, BK114, BK117, BK122, HB⟩ := hcut
    cases kq with
    | zero => exact absurd HA.out (by simp [ratio_frac_half.j0])
    | succ kj4 =>
      have H := HA.out
      clear HA
      simp only [ratio_frac_half.j0] at H
      by_cases c40 : x22_4 = true
      · subst c40
        have H1 : ((ratio_wide_minus.f t115 t116 a0_3 a0_4).bind fun bt124 => (some (a0_0, bt124.1, bt124.2, t120, t121))) = some (r1, r2, r3, r4, r5) := by rw [if_pos rfl] at H; exact H
        clear H
        have H := H1
        clear H1
        replace H := Option.bind_eq_some_iff.mp H
        obtain ⟨⟨t124, t125⟩, A410, H⟩ := H
        replace H : (some (a0_0, t124, t125, t120, t121)) = some (r1, r2, r3, r4, r5) := H
        have A41 := Aside0.mk A410
        clear A410
        simp only [Option.some.injEq, Prod.mk.injEq] at H
        obtain ⟨rfl, rfl, rfl, rfl, rfl⟩ := H
        have hnb42 := NB117_113.out
        have hnc42 := NB113_117.out
        have hnb43 := NB117_114.out
        have hnc43 := NB114_117.out
        have hnb44 := NB117_122.out
        have hnc44 := NB122_117.out
        have hcz45_0 : wc.cell? ⟨gb117, 0, none⟩ = some (.int .u64 t115) := (blk_cell BK117.out 0).trans rfl
        have hcz45_1 : wc.cell? ⟨gb117, 1, none⟩ = some (.int .u64 t116) := (blk_cell BK117.out 1).trans rfl
        have hfz45_0 := blk_frozen BK117.out 0
        have hfz45_1 := blk_frozen BK117.out 1
        have hnb46 := NB113_114.out
        have hnc46 := NB114_113.out
        have hnb47 := NB113_122.out
        have hnc47 := NB122_113.out
        have hcz48_0 : wc.cell? ⟨gb113, 0, none⟩ = some (.bool a0_0) := (blk_cell BK113.out 0).trans rfl
        have hcz48_1 : wc.cell? ⟨gb113, 1, none⟩ = some (.int .u64 a0_1) := (blk_cell BK113.out 1).trans rfl
        have hcz48_2 : wc.cell? ⟨gb113, 2, none⟩ = some (.int .u64 a0_2) := (blk_cell BK113.out 2).trans rfl
        have hcz48_3 : wc.cell? ⟨gb113, 3, none⟩ = some (.int .u64 a0_3) := (blk_cell BK113.out 3).trans rfl
        have hcz48_4 : wc.cell? ⟨gb113, 4, none⟩ = some (.int .u64 a0_4) := (blk_cell BK113.out 4).trans rfl
        have hfz48_0 := blk_frozen BK113.out 0
        have hfz48_1 := blk_frozen BK113.out 1
        have hfz48_2 := blk_frozen BK113.out 2
        have hfz48_3 := blk_frozen BK113.out 3
        have hfz48_4 := blk_frozen BK113.out 4
        go_wp2_with (first | ((with_reducible refine gate_callee (f := 61) rfl ?_); refine goesL_ (some 35) rfl rfl Tryd.func61 (by kernel_rfl) rfl #[.agg #[.int .u64 t115, .int .u64 t116], .agg #[.int .u64 a0_3, .int .u64 a0_4]] rfl (by (try simp only [List.map_toArray, List.map_cons, List.map_nil]); first | done | rfl | (simp only [List.length_drop, List.length_take]; rfl)) ?_; (with_reducible refine (ratio_wide_minus.calls t115 t116 a0_3 a0_4 t124 t125 _ A41.out).mono ?_); rintro e w49 ⟨rfl, hb⟩; refine ⟨_, rfl, ?_⟩; replace BK113 := Aside0.mk (bb hb BK113.out); replace BK114 := Aside0.mk (bb hb BK114.out); replace BK117 := Aside0.mk (bb hb BK117.out); replace BK122 := Aside0.mk (bb hb BK122.out); replace HB := Aside0.mk (below_step (bw HB.out) hb); (try clear hb); (try clear hb2); (try clear hk); (try clear hi); have hnb50 := NB122_114.out; have hnc50 := NB114_122.out; have hcz51_0 : w49.cell? ⟨gb122, 0, none⟩ = some (.bool a0_0) := (blk_cell BK122.out 0).trans rfl; have hcz51_1 : w49.cell? ⟨gb122, 1, none⟩ = some (.int .u64 t118) := (blk_cell BK122.out 1).trans rfl; have hcz51_2 : w49.cell? ⟨gb122, 2, none⟩ = some (.int .u64 t119) := (blk_cell BK122.out 2).trans rfl; have hcz51_3 : w49.cell? ⟨gb122, 3, none⟩ = some (.int .u64 t120) := (blk_cell BK122.out 3).trans rfl; have hcz51_4 : w49.cell? ⟨gb122, 4, none⟩ = some (.int .u64 t121) := (blk_cell BK122.out 4).trans rfl; have hfz51_0 := blk_frozen BK122.out 0; have hfz51_1 := blk_frozen BK122.out 1; have hfz51_2 := blk_frozen BK122.out 2; have hfz51_3 := blk_frozen BK122.out 3; have hfz51_4 := blk_frozen BK122.out 4; have hcz52_0 : w49.cell? ⟨gb114, 0, none⟩ = some (.bool false) := (blk_cell BK114.out 0).trans rfl; have hcz52_1 : w49.cell? ⟨gb114, 1, none⟩ = some (.int .u64 0) := (blk_cell BK114.out 1).trans rfl; have hcz52_2 : w49.cell? ⟨gb114, 2, none⟩ = some (.int .u64 0) := (blk_cell BK114.out 2).trans rfl; have hcz52_3 : w49.cell? ⟨gb114, 3, none⟩ = some (.int .u64 0) := (blk_cell BK114.out 3).trans rfl; have hcz52_4 : w49.cell? ⟨gb114, 4, none⟩ = some (.int .u64 0) := (blk_cell BK114.out 4).trans rfl; have hfz52_0 := blk_frozen BK114.out 0; have hfz52_1 := blk_frozen BK114.out 1; have hfz52_2 := blk_frozen BK114.out 2; have hfz52_3 := blk_frozen BK114.out 3; have hfz52_4 := blk_frozen BK114.out 4))
        refine bodyPost_ret (results_cell_row rfl _ _ gb114 71 #[.bool a0_0, .int .u64 t124, .int .u64 t125, .int .u64 t120, .int .u64 t121] (0, 0) _ rfl (by refine bk ?_; refine blk_put (cs := #[.bool a0_0, .int .u64 t124, .int .u64 t125, .int .u64 t120, .int .u64 0]) ?_ 4 _ rfl; refine bk ?_; refine blk_put (cs := #[.bool a0_0, .int .u64 t124, .int .u64 t125, .int .u64 0, .int .u64 0]) ?_ 3 _ rfl; refine bk ?_; refine blk_put (cs := #[.bool a0_0, .int .u64 t124, .int .u64 0, .int .u64 0, .int .u64 0]) ?_ 2 _ rfl; refine bk ?_; refine blk_put (cs := #[.bool a0_0, .int .u64 0, .int .u64 0, .int .u64 0, .int .u64 0]) ?_ 1 _ rfl; refine bk ?_; refine blk_put (cs := #[.bool false, .int .u64 0, .int .u64 0, .int .u64 0, .int .u64 0]) ?_ 0 _ rfl; refine bk ?_; exact BK114.out) Tryd.underlying71 rfl (by kernel_rfl)) rfl ?_
        exact ⟨by first | rfl | (simp [errW_none, errW_some] <;> rfl) | (simp [*, errW_none, errW_some] <;> rfl), by repeat (first | (with_reducible first | exact HB.out | apply below_alloc | apply pw_below_drewN | apply below_drew1 | refine below_set ?_ GE113.out | refine below_set ?_ GE114.out | refine below_set ?_ GE117.out | refine below_set ?_ GE122.out) | exact HB.out)⟩
      · replace c40 := Bool.eq_false_iff.mpr c40
        subst c40
        have H1 : (if a0_0 = true then ((ratio_wide_minus.f a0_3 a0_4 t115 t116).bind fun bt126 => (some (false, bt126.1, bt126.2, t120, t121))) else (some (a0_0, t118, t119, t120, t121))) = some (r1, r2, r3, r4, r5) := by rw [if_neg (show ¬ (false = true) by decide)] at H; exact H
        clear H
        have H := H1
        clear H1
        by_cases c53 : a0_0 = true
        · subst c53
          have H1 : ((ratio_wide_minus.f a0_3 a0_4 t115 t116).bind fun bt126 => (some (false, bt126.1, bt126.2, t120, t121))) = some (r1, r2, r3, r4, r5) := by rw [if_pos rfl] at H; exact H
          clear H
          have H := H1
          clear H1
          replace H := Option.bind_eq_some_iff.mp H
          obtain ⟨⟨t126, t127⟩, A540, H⟩ := H
          replace H : (some (false, t126, t127, t120, t121)) = some (r1, r2, r3, r4, r5) := H
          have A54 := Aside0.mk A540
          clear A540
          simp only [Option.some.injEq, Prod.mk.injEq] at H
          obtain ⟨rfl, rfl, rfl, rfl, rfl⟩ := H
          have hnb55 := NB113_114.out
          have hnc55 := NB114_113.out
          have hnb56 := NB113_117.out
          have hnc56 := NB117_113.out
          have hnb57 := NB113_122.out
          have hnc57 := NB122_113.out
          have hcz58_0 : wc.cell? ⟨gb113, 0, none⟩ = some (.bool true) := (blk_cell BK113.out 0).trans rfl
          have hcz58_1 : wc.cell? ⟨gb113, 1, none⟩ = some (.int .u64 a0_1) := (blk_cell BK113.out 1).trans rfl
          have hcz58_2 : wc.cell? ⟨gb113, 2, none⟩ = some (.int .u64 a0_2) := (blk_cell BK113.out 2).trans rfl
          have hcz58_3 : wc.cell? ⟨gb113, 3, none⟩ = some (.int .u64 a0_3) := (blk_cell BK113.out 3).trans rfl
          have hcz58_4 : wc.cell? ⟨gb113, 4, none⟩ = some (.int .u64 a0_4) := (blk_cell BK113.out 4).trans rfl
          have hfz58_0 := blk_frozen BK113.out 0
          have hfz58_1 := blk_frozen BK113.out 1
          have hfz58_2 := blk_frozen BK113.out 2
          have hfz58_3 := blk_frozen BK113.out 3
          have hfz58_4 := blk_frozen BK113.out 4
          have hnb59 := NB117_114.out
          have hnc59 := NB114_117.out
          have hnb60 := NB117_122.out
          have hnc60 := NB122_117.out
          have hcz61_0 : wc.cell? ⟨gb117, 0, none⟩ = some (.int .u64 t115) := (blk_cell BK117.out 0).trans rfl
          have hcz61_1 : wc.cell? ⟨gb117, 1, none⟩ = some (.int .u64 t116) := (blk_cell BK117.out 1).trans rfl
          have hfz61_0 := blk_frozen BK117.out 0
          have hfz61_1 := blk_frozen BK117.out 1
          go_wp2_with (first | ((with_reducible refine gate_callee (f := 61) rfl ?_); refine goesL_ (some 43) rfl rfl Tryd.func61 (by kernel_rfl) rfl #[.agg #[.int .u64 a0_3, .int .u64 a0_4], .agg #[.int .u64 t115, .int .u64 t116]] rfl (by (try simp only [List.map_toArray, List.map_cons, List.map_nil]); first | done | rfl | (simp only [List.length_drop, List.length_take]; rfl)) ?_; (with_reducible refine (ratio_wide_minus.calls a0_3 a0_4 t115 t116 t126 t127 _ A54.out).mono ?_); rintro e w62 ⟨rfl, hb⟩; refine ⟨_, rfl, ?_⟩; replace BK113 := Aside0.mk (bb hb BK113.out); replace BK114 := Aside0.mk (bb hb BK114.out); replace BK117 := Aside0.mk (bb hb BK117.out); replace BK122 := Aside0.mk (bb hb BK122.out); replace HB := Aside0.mk (below_step (bw HB.out) hb); (try clear hb); (try clear hb2); (try clear hk); (try clear hi); have hnb63 := NB122_114.out; have hnc63 := NB114_122.out; have hcz64_0 : w62.cell? ⟨gb122, 0, none⟩ = some (.bool true) := (blk_cell BK122.out 0).trans rfl; have hcz64_1 : w62.cell? ⟨gb122, 1, none⟩ = some (.int .u64 t118) := (blk_cell BK122.out 1).trans rfl; have hcz64_2 : w62.cell? ⟨gb122, 2, none⟩ = some (.int .u64 t119) := (blk_cell BK122.out 2).trans rfl; have hcz64_3 : w62.cell? ⟨gb122, 3, none⟩ = some (.int .u64 t120) := (blk_cell BK122.out 3).trans rfl; have hcz64_4 : w62.cell? ⟨gb122, 4, none⟩ = some (.int .u64 t121) := (blk_cell BK122.out 4).trans rfl; have hfz64_0 := blk_frozen BK122.out 0; have hfz64_1 := blk_frozen BK122.out 1; have hfz64_2 := blk_frozen BK122.out 2; have hfz64_3 := blk_frozen BK122.out 3; have hfz64_4 := blk_frozen BK122.out 4; have hcz65_0 : w62.cell? ⟨gb114, 0, none⟩ = some (.bool false) := (blk_cell BK114.out 0).trans rfl; have hcz65_1 : w62.cell? ⟨gb114, 1, none⟩ = some (.int .u64 0) := (blk_cell BK114.out 1).trans rfl; have hcz65_2 : w62.cell? ⟨gb114, 2, none⟩ = some (.int .u64 0) := (blk_cell BK114.out 2).trans rfl; have hcz65_3 : w62.cell? ⟨gb114, 3, none⟩ = some (.int .u64 0) := (blk_cell BK114.out 3).trans rfl; have hcz65_4 : w62.cell? ⟨gb114, 4, none⟩ = some (.int .u64 0) := (blk_cell BK114.out 4).trans rfl; have hfz65_0 := blk_frozen BK114.out 0; have hfz65_1 := blk_frozen BK114.out 1; have hfz65_2 := blk_frozen BK114.out 2; have hfz65_3 := blk_frozen BK114.out 3; have hfz65_4 := blk_frozen BK114.out 4))
          refine bodyPost_ret (results_cell_row rfl _ _ gb114 71 #[.bool false, .int .u64 t126, .int .u64 t127, .int .u64 t120, .int .u64 t121] (0, 0) _ rfl (by refine bk ?_; refine blk_put (cs := #[.bool false, .int .u64 t126, .int .u64 t127, .int .u64 t120, .int .u64 0]) ?_ 4 _ rfl; refine bk ?_; refine blk_put (cs := #[.bool false, .int .u64 t126, .int .u64 t127, .int .u64 0, .int .u64 0]) ?_ 3 _ rfl; refine bk ?_; refine blk_put (cs := #[.bool false, .int .u64 t126, .int .u64 0, .int .u64 0, .int .u64 0]) ?_ 2 _ rfl; refine bk ?_; refine blk_put (cs := #[.bool false, .int .u64 0, .int .u64 0, .int .u64 0, .int .u64 0]) ?_ 1 _ rfl; refine bk ?_; refine blk_put (cs := #[.bool false, .int .u64 0, .int .u64 0, .int .u64 0, .int .u64 0]) ?_ 0 _ rfl; refine bk ?_; exact BK114.out) Tryd.underlying71 rfl (by kernel_rfl)) rfl ?_
          exact ⟨by first | rfl | (simp [errW_none, errW_some] <;> rfl) | (simp [*, errW_none, errW_some] <;> rfl), by repeat (first | (with_reducible first | exact HB.out | apply below_alloc | apply pw_below_drewN | apply below_drew1 | refine below_set ?_ GE113.out | refine below_set ?_ GE114.out | refine below_set ?_ GE117.out | refine below_set ?_ GE122.out) | exact HB.out)⟩
        · replace c53 := Bool.eq_false_iff.mpr c53
          subst c53
          have H1 : (some (false, t118, t119, t120, t121)) = some (r1, r2, r3, r4, r5) := by rw [if_neg (show ¬ (false = true) by decide)] at H; exact H
          clear H
          have H := H1
          clear H1
          simp only [Option.some.injEq, Prod.mk.injEq] at H
          obtain ⟨rfl, rfl, rfl, rfl, rfl⟩ := H
          have hnb66 := NB113_114.out
          have hnc66 := NB114_113.out
          have hnb67 := NB113_117.out
          have hnc67 := NB117_113.out
          have hnb68 := NB113_122.out
          have hnc68 := NB122_113.out
          have hcz69_0 : wc.cell? ⟨gb113, 0, none⟩ = some (.bool false) := (blk_cell BK113.out 0).trans rfl
          have hcz69_1 : wc.cell? ⟨gb113, 1, none⟩ = some (.int .u64 a0_1) := (blk_cell BK113.out 1).trans rfl
          have hcz69_2 : wc.cell? ⟨gb113, 2, none⟩ = some (.int .u64 a0_2) := (blk_cell BK113.out 2).trans rfl
          have hcz69_3 : wc.cell? ⟨gb113, 3, none⟩ = some (.int .u64 a0_3) := (blk_cell BK113.out 3).trans rfl
          have hcz69_4 : wc.cell? ⟨gb113, 4, none⟩ = some (.int .u64 a0_4) := (blk_cell BK113.out 4).trans rfl
          have hfz69_0 := blk_frozen BK113.out 0
          have hfz69_1 := blk_frozen BK113.out 1
          have hfz69_2 := blk_frozen BK113.out 2
          have hfz69_3 := blk_frozen BK113.out 3
          have hfz69_4 := blk_frozen BK113.out 4
          have hnb70 := NB122_114.out
          have hnc70 := NB114_122.out
          have hnb71 := NB122_117.out
          have hnc71 := NB117_122.out
          have hcz72_0 : wc.cell? ⟨gb122, 0, none⟩ = some (.bool false) := (blk_cell BK122.out 0).trans rfl
          have hcz72_1 : wc.cell? ⟨gb122, 1, none⟩ = some (.int .u64 t118) := (blk_cell BK122.out 1).trans rfl
          have hcz72_2 : wc.cell? ⟨gb122, 2, none⟩ = some (.int .u64 t119) := (blk_cell BK122.out 2).trans rfl
          have hcz72_3 : wc.cell? ⟨gb122, 3, none⟩ = some (.int .u64 t120) := (blk_cell BK122.out 3).trans rfl
          have hcz72_4 : wc.cell? ⟨gb122, 4, none⟩ = some (.int .u64 t121) := (blk_cell BK122.out 4).trans rfl
          have hfz72_0 := blk_frozen BK122.out 0
          have hfz72_1 := blk_frozen BK122.out 1
          have hfz72_2 := blk_frozen BK122.out 2
          have hfz72_3 := blk_frozen BK122.out 3
          have hfz72_4 := blk_frozen BK122.out 4
          have hnb73 := NB114_117.out
          have hnc73 := NB117_114.out
          have hcz74_0 : wc.cell? ⟨gb114, 0, none⟩ = some (.bool false) := (blk_cell BK114.out 0).trans rfl
          have hcz74_1 : wc.cell? ⟨gb114, 1, none⟩ = some (.int .u64 0) := (blk_cell BK114.out 1).trans rfl
          have hcz74_2 : wc.cell? ⟨gb114, 2, none⟩ = some (.int .u64 0) := (blk_cell BK114.out 2).trans rfl
          have hcz74_3 : wc.cell? ⟨gb114, 3, none⟩ = some (.int .u64 0) := (blk_cell BK114.out 3).trans rfl
          have hcz74_4 : wc.cell? ⟨gb114, 4, none⟩ = some (.int .u64 0) := (blk_cell BK114.out 4).trans rfl
          have hfz74_0 := blk_frozen BK114.out 0
          have hfz74_1 := blk_frozen BK114.out 1
          have hfz74_2 := blk_frozen BK114.out 2
          have hfz74_3 := blk_frozen BK114.out 3
          have hfz74_4 := blk_frozen BK114.out 4
          go_wp2
          refine bodyPost_ret (results_cell_row rfl _ _ gb114 71 #[.bool false, .int .u64 t118, .int .u64 t119, .int .u64 t120, .int .u64 t121] (0, 0) _ rfl (by refine bk ?_; refine blk_put (cs := #[.bool false, .int .u64 t118, .int .u64 t119, .int .u64 t120, .int .u64 0]) ?_ 4 _ rfl; refine bk ?_; refine blk_put (cs := #[.bool false, .int .u64 t118, .int .u64 t119, .int .u64 0, .int .u64 0]) ?_ 3 _ rfl; refine bk ?_; refine blk_put (cs := #[.bool false, .int .u64 t118, .int .u64 0, .int .u64 0, .int .u64 0]) ?_ 2 _ rfl; refine bk ?_; refine blk_put (cs := #[.bool false, .int .u64 0, .int .u64 0, .int .u64 0, .int .u64 0]) ?_ 1 _ rfl; refine bk ?_; refine blk_put (cs := #[.bool false, .int .u64 0, .int .u64 0, .int .u64 0, .int .u64 0]) ?_ 0 _ rfl; refine bk ?_; exact BK114.out) Tryd.underlying71 rfl (by kernel_rfl)) rfl ?_
          exact ⟨by first | rfl | (simp [errW_none, errW_some] <;> rfl) | (simp [*, errW_none, errW_some] <;> rfl), by repeat (first | (with_reducible first | exact HB.out | apply below_alloc | apply pw_below_drewN | apply below_drew1 | refine below_set ?_ GE113.out | refine below_set ?_ GE114.out | refine below_set ?_ GE117.out | refine below_set ?_ GE122.out) | exact HB.out)⟩

end Go.Proofs.YtofndakpenpkbaaDoor.PW
