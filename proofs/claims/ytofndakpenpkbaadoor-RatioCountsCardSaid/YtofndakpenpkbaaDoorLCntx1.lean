-- made by wip/pp2.py out of the translation, over contracts of my own
import Derived.Test.YtofndakpenpkbaaDoorXZ
import Derived.Test.YtofndakpenpkbaaDoorLCntx0
namespace Go.Proofs.YtofndakpenpkbaaDoor.LCnt
open Go.Proofs.YtofndakpenpkbaaDoor.PA Go.Proofs.YtofndakpenpkbaaDoor.PC
open Go.RowKit Go.Proofs.YtofndakpenpkbaaDoorW.PrintWords Go.Proofs.YtofndakpenpkbaaDoorW.PrintLast Go.Proofs.YtofndakpenpkbaaDoorW.PrintMore
set_option linter.unusedVariables false
set_option linter.unusedSimpArgs false

/-! ### surtitlelaw3_known: function 16: told elsewhere -/

/-! ### ratio_New: function 17: told elsewhere -/

/-! ### surtitlelaw3_fine: function 33 -/
def surtitlelaw3_fine.f (a0 : Int) : Option (Bool) := some (a0 == 0)
set_option maxHeartbeats 8000000 in
set_option maxRecDepth 100000 in
theorem surtitlelaw3_fine.calls (a0 : Int) (r : Bool) (w : World) (h : surtitlelaw3_fine.f a0 = some r) :
    Calls Tryd.prog 33 #[.int .i64 a0] w fun e w' => e = .returned (.bool r) ∧ Drawn0 w w' := by
  have H : (some (a0 == 0)) = some r := h
  clear h
  obtain rfl := Option.some.inj H
  go_enter Tryd.func33, Tryd.ntmps33
  go_wp2
  go_ret
  exact ⟨by first | rfl | (simp; done) | (simp [*]; done), by repeat (first | exact Drawn0.refl _ | apply Drawn0.step)⟩

/-! ### ratio_Whole: function 40: told elsewhere -/

/-! ### surtitlelaw3_RatioCounts: function 11 -/
mutual
def surtitlelaw3_RatioCounts.j0 : Nat → Int → Int → Int → Int → Bool → Int → Int → Option (Bool)
  | 0, _, _, _, _, _, _, _ => none
  | k + 1, x2, x9, x10, x11, x51, x106000, x106001 => if x51 = true then (surtitlelaw3_RatioCounts.j1 k x2 x9 x10 (wrap64 (x11 - 1)) x106000 x106001) else (surtitlelaw3_RatioCounts.j1 k x2 x9 x10 x11 x106000 x106001)
def surtitlelaw3_RatioCounts.j1 : Nat → Int → Int → Int → Int → Int → Int → Option (Bool)
  | 0, _, _, _, _, _, _ => none
  | k + 1, x2, x9, x10, x11, x106000, x106001 => if x10 = 0 then (none) else (if (Int.tmod x9 x10) = 0 then (surtitlelaw3_RatioCounts.j2 k x2 x9 x10 x11 x11 x106000 x106001) else (surtitlelaw3_RatioCounts.j2 k x2 x9 x10 x11 (wrap64 (x11 + 1)) x106000 x106001))
def surtitlelaw3_RatioCounts.j2 : Nat → Int → Int → Int → Int → Int → Int → Int → Option (Bool)
  | 0, _, _, _, _, _, _, _ => none
  | k + 1, x2, x9, x10, x11, x12, x106000, x106001 => if (wrap64 (2 * (wrap64 (x9 - (wrap64 (x11 * x10)))))) ≥ x10 then (surtitlelaw3_RatioCounts.j3 k x2 x11 x12 (wrap64 (x11 + 1)) x106000 x106001) else (surtitlelaw3_RatioCounts.j3 k x2 x11 x12 x11 x106000 x106001)
def surtitlelaw3_RatioCounts.j3 : Nat → Int → Int → Int → Int → Int → Int → Option (Bool)
  | 0, _, _, _, _, _, _ => none
  | k + 1, x2, x11, x12, x13, x106000, x106001 => (ratio_Whole.f x106000 x106001 (wrap64 (x2)) 1).bind fun bt107 => ((ratio_Whole.f x106000 x106001 (wrap64 (x2)) 3).bind fun bt109 => ((ratio_Whole.f x106000 x106001 (wrap64 (x2)) 2).bind fun bt111 => ((surtitlelaw3_fine.f bt107.2).bind fun t113 => (if t113 = true then ((surtitlelaw3_fine.f bt109.2).bind fun t114 => (if t114 = true then ((surtitlelaw3_fine.f bt111.2).bind fun t115 => (if t115 = true then (if bt107.1 = x11 then (if bt109.1 = x12 then (some (bt111.1 == x13)) else (some false)) else (some false)) else (some false))) else (some false))) else (some false)))))
end
def surtitlelaw3_RatioCounts.f (k : Nat) (a0 : Int) (a1 : Int) (a2 : Int) : Option (Bool) := (surtitlelaw3_known.f).bind fun t101 => (if t101 = true then (if a1 = 0 then (some true) else ((ratio_New.f (wrap64 (a0)) (wrap64 (a1))).bind fun bt102 => ((surtitlelaw3_fine.f bt102.2.2).bind fun t106 => (if t106 = true then (if (wrap64 (a1)) = 0 then (none) else (if (Int.tmod (wrap64 ((wrap64 (a0)) * (wrap64 (a2)))) (wrap64 (a1))) = 0 then (surtitlelaw3_RatioCounts.j0 k a2 (wrap64 ((wrap64 (a0)) * (wrap64 (a2)))) (wrap64 (a1)) (wrap64 (Int.tdiv (wrap64 ((wrap64 (a0)) * (wrap64 (a2)))) (wrap64 (a1)))) false bt102.1 bt102.2.1) else (surtitlelaw3_RatioCounts.j0 k a2 (wrap64 ((wrap64 (a0)) * (wrap64 (a2)))) (wrap64 (a1)) (wrap64 (Int.tdiv (wrap64 ((wrap64 (a0)) * (wrap64 (a2)))) (wrap64 (a1)))) (decide ((wrap64 ((wrap64 (a0)) * (wrap64 (a2)))) < 0)) bt102.1 bt102.2.1))) else (some false))))) else (some false))
theorem surtitlelaw3_RatioCounts.mono_l : ∀ k, (∀ y0 y1 y2 y3 y4 y5 y6, LeO (surtitlelaw3_RatioCounts.j0 k y0 y1 y2 y3 y4 y5 y6) (surtitlelaw3_RatioCounts.j0 (k + 1) y0 y1 y2 y3 y4 y5 y6)) ∧ (∀ y0 y1 y2 y3 y4 y5, LeO (surtitlelaw3_RatioCounts.j1 k y0 y1 y2 y3 y4 y5) (surtitlelaw3_RatioCounts.j1 (k + 1) y0 y1 y2 y3 y4 y5)) ∧ (∀ y0 y1 y2 y3 y4 y5 y6, LeO (surtitlelaw3_RatioCounts.j2 k y0 y1 y2 y3 y4 y5 y6) (surtitlelaw3_RatioCounts.j2 (k + 1) y0 y1 y2 y3 y4 y5 y6)) ∧ (∀ y0 y1 y2 y3 y4 y5, LeO (surtitlelaw3_RatioCounts.j3 k y0 y1 y2 y3 y4 y5) (surtitlelaw3_RatioCounts.j3 (k + 1) y0 y1 y2 y3 y4 y5))
  | 0 => ⟨fun _ _ _ _ _ _ _ r h => by simp [surtitlelaw3_RatioCounts.j0] at h, fun _ _ _ _ _ _ r h => by simp [surtitlelaw3_RatioCounts.j1] at h, fun _ _ _ _ _ _ _ r h => by simp [surtitlelaw3_RatioCounts.j2] at h, fun _ _ _ _ _ _ r h => by simp [surtitlelaw3_RatioCounts.j3] at h⟩
  | k + 1 => by
    obtain ⟨ih0, ih1, ih2, ih3⟩ := surtitlelaw3_RatioCounts.mono_l k
    refine ⟨?_, ?_, ?_, ?_⟩
    · intro y0 y1 y2 y3 y4 y5 y6
      unfold surtitlelaw3_RatioCounts.j0
      repeat' first
      | (with_reducible exact ih0 _ _ _ _ _ _ _)
      | (with_reducible exact ih1 _ _ _ _ _ _)
      | (with_reducible exact ih2 _ _ _ _ _ _ _)
      | (with_reducible exact ih3 _ _ _ _ _ _)
      | (with_reducible exact LeO.refl _)
      | (with_reducible exact LeO.none _)
      | (with_reducible refine LeO.ite ?_ ?_)
      | (with_reducible refine LeO.bind ?_ (fun _ => ?_))
      | exact ih0 _ _ _ _ _ _ _
      | exact ih1 _ _ _ _ _ _
      | exact ih2 _ _ _ _ _ _ _
      | exact ih3 _ _ _ _ _ _
      | exact LeO.none _
      | refine LeO.ite ?_ ?_
      | refine LeO.bind ?_ (fun _ => ?_)
    · intro y0 y1 y2 y3 y4 y5
      unfold surtitlelaw3_RatioCounts.j1
      repeat' first
      | (with_reducible exact ih0 _ _ _ _ _ _ _)
      | (with_reducible exact ih1 _ _ _ _ _ _)
      | (with_reducible exact ih2 _ _ _ _ _ _ _)
      | (with_reducible exact ih3 _ _ _ _ _ _)
      | (with_reducible exact LeO.refl _)
      | (with_reducible exact LeO.none _)
      | (with_reducible refine LeO.ite ?_ ?_)
      | (with_reducible refine LeO.bind ?_ (fun _ => ?_))
      | exact ih0 _ _ _ _ _ _ _
      | exact ih1 _ _ _ _ _ _
      | exact ih2 _ _ _ _ _ _ _
      | exact ih3 _ _ _ _ _ _
      | exact LeO.none _
      | refine LeO.ite ?_ ?_
      | refine LeO.bind ?_ (fun _ => ?_)
    · intro y0 y1 y2 y3 y4 y5 y6
      unfold surtitlelaw3_RatioCounts.j2
      repeat' first
      | (with_reducible exact ih0 _ _ _ _ _ _ _)
      | (with_reducible exact ih1 _ _ _ _ _ _)
      | (with_reducible exact ih2 _ _ _ _ _ _ _)
      | (with_reducible exact ih3 _ _ _ _ _ _)
      | (with_reducible exact LeO.refl _)
      | (with_reducible exact LeO.none _)
      | (with_reducible refine LeO.ite ?_ ?_)
      | (with_reducible refine LeO.bind ?_ (fun _ => ?_))
      | exact ih0 _ _ _ _ _ _ _
      | exact ih1 _ _ _ _ _ _
      | exact ih2 _ _ _ _ _ _ _
      | exact ih3 _ _ _ _ _ _
      | exact LeO.none _
      | refine LeO.ite ?_ ?_
      | refine LeO.bind ?_ (fun _ => ?_)
    · intro y0 y1 y2 y3 y4 y5
      unfold surtitlelaw3_RatioCounts.j3
      repeat' first
      | (with_reducible exact ih0 _ _ _ _ _ _ _)
      | (with_reducible exact ih1 _ _ _ _ _ _)
      | (with_reducible exact ih2 _ _ _ _ _ _ _)
      | (with_reducible exact ih3 _ _ _ _ _ _)
      | (with_reducible exact LeO.refl _)
      | (with_reducible exact LeO.none _)
      | (with_reducible refine LeO.ite ?_ ?_)
      | (with_reducible refine LeO.bind ?_ (fun _ => ?_))
      | exact ih0 _ _ _ _ _ _ _
      | exact ih1 _ _ _ _ _ _
      | exact ih2 _ _ _ _ _ _ _
      | exact ih3 _ _ _ _ _ _
      | exact LeO.none _
      | refine LeO.ite ?_ ?_
      | refine LeO.bind ?_ (fun _ => ?_)
theorem surtitlelaw3_RatioCounts.mono : ∀ a0 a1 a2 k, LeO (surtitlelaw3_RatioCounts.f k a0 a1 a2) (surtitlelaw3_RatioCounts.f (k + 1) a0 a1 a2) := by
  intro a0 a1 a2 k
  obtain ⟨ih0, ih1, ih2, ih3⟩ := surtitlelaw3_RatioCounts.mono_l k
  unfold surtitlelaw3_RatioCounts.f
  repeat' first
      | (with_reducible exact ih0 _ _ _ _ _ _ _)
      | (with_reducible exact ih1 _ _ _ _ _ _)
      | (with_reducible exact ih2 _ _ _ _ _ _ _)
      | (with_reducible exact ih3 _ _ _ _ _ _)
      | (with_reducible exact LeO.refl _)
      | (with_reducible exact LeO.none _)
      | (with_reducible refine LeO.ite ?_ ?_)
      | (with_reducible refine LeO.bind ?_ (fun _ => ?_))
      | exact ih0 _ _ _ _ _ _ _
      | exact ih1 _ _ _ _ _ _
      | exact ih2 _ _ _ _ _ _ _
      | exact ih3 _ _ _ _ _ _
      | exact LeO.none _
      | refine LeO.ite ?_ ?_
      | refine LeO.bind ?_ (fun _ => ?_)
set_option maxHeartbeats 8000000 in
set_option maxRecDepth 100000 in
theorem surtitlelaw3_RatioCounts.calls (k : Nat) (a0 : Int) (a1 : Int) (a2 : Int) (r : Bool) (w : World) (h : surtitlelaw3_RatioCounts.f k a0 a1 a2 = some r) :
    Calls Tryd.prog 11 #[.int .i32 a0, .int .u16 a1, .int .i16 a2] w fun e w' => e = .returned (.bool r) ∧ Below w.heap.size w w' := by
  have hu24 := Tryd.underlying24
  have HB := Aside0.mk (Below.refl w.heap.size w)
  have H : ((surtitlelaw3_known.f).bind fun t101 => (if t101 = true then (if a1 = 0 then (some true) else ((ratio_New.f (wrap64 (a0)) (wrap64 (a1))).bind fun bt102 => ((surtitlelaw3_fine.f bt102.2.2).bind fun t106 => (if t106 = true then (if (wrap64 (a1)) = 0 then (none) else (if (Int.tmod (wrap64 ((wrap64 (a0)) * (wrap64 (a2)))) (wrap64 (a1))) = 0 then (surtitlelaw3_RatioCounts.j0 k a2 (wrap64 ((wrap64 (a0)) * (wrap64 (a2)))) (wrap64 (a1)) (wrap64 (Int.tdiv (wrap64 ((wrap64 (a0)) * (wrap64 (a2)))) (wrap64 (a1)))) false bt102.1 bt102.2.1) else (surtitlelaw3_RatioCounts.j0 k a2 (wrap64 ((wrap64 (a0)) * (wrap64 (a2)))) (wrap64 (a1)) (wrap64 (Int.tdiv (wrap64 ((wrap64 (a0)) * (wrap64 (a2)))) (wrap64 (a1)))) (decide ((wrap64 ((wrap64 (a0)) * (wrap64 (a2)))) < 0)) bt102.1 bt102.2.1))) else (some false))))) else (some false))) = some r := h
  clear h
  replace H := Option.bind_eq_some_iff.mp H
  obtain ⟨t101, A40, H⟩ := H
  replace H : (if t101 = true then (if a1 = 0 then (some true) else ((ratio_New.f (wrap64 (a0)) (wrap64 (a1))).bind fun bt102 => ((surtitlelaw3_fine.f bt102.2.2).bind fun t106 => (if t106 = true then (if (wrap64 (a1)) = 0 then (none) else (if (Int.tmod (wrap64 ((wrap64 (a0)) * (wrap64 (a2)))) (wrap64 (a1))) = 0 then (surtitlelaw3_RatioCounts.j0 k a2 (wrap64 ((wrap64 (a0)) * (wrap64 (a2)))) (wrap64 (a1)) (wrap64 (Int.tdiv (wrap64 ((wrap64 (a0)) * (wrap64 (a2)))) (wrap64 (a1)))) false bt102.1 bt102.2.1) else (surtitlelaw3_RatioCounts.j0 k a2 (wrap64 ((wrap64 (a0)) * (wrap64 (a2)))) (wrap64 (a1)) (wrap64 (Int.tdiv (wrap64 ((wrap64 (a0)) * (wrap64 (a2)))) (wrap64 (a1)))) (decide ((wrap64 ((wrap64 (a0)) * (wrap64 (a2)))) < 0)) bt102.1 bt102.2.1))) else (some false))))) else (some false)) = some r := H
  have A4 := Aside0.mk A40
  clear A40
  by_cases c5 : t101 = true
  · subst c5
    have H1 : (if a1 = 0 then (some true) else ((ratio_New.f (wrap64 (a0)) (wrap64 (a1))).bind fun bt102 => ((surtitlelaw3_fine.f bt102.2.2).bind fun t106 => (if t106 = true then (if (wrap64 (a1)) = 0 then (none) else (if (Int.tmod (wrap64 ((wrap64 (a0)) * (wrap64 (a2)))) (wrap64 (a1))) = 0 then (surtitlelaw3_RatioCounts.j0 k a2 (wrap64 ((wrap64 (a0)) * (wrap64 (a2)))) (wrap64 (a1)) (wrap64 (Int.tdiv (wrap64 ((wrap64 (a0)) * (wrap64 (a2)))) (wrap64 (a1)))) false bt102.1 bt102.2.1) else (surtitlelaw3_RatioCounts.j0 k a2 (wrap64 ((wrap64 (a0)) * (wrap64 (a2)))) (wrap64 (a1)) (wrap64 (Int.tdiv (wrap64 ((wrap64 (a0)) * (wrap64 (a2)))) (wrap64 (a1)))) (decide ((wrap64 ((wrap64 (a0)) * (wrap64 (a2)))) < 0)) bt102.1 bt102.2.1))) else (some false))))) = some r := by rw [if_pos rfl] at H; exact H
    clear H
    have H := H1
    clear H1
    by_cases c6 : a1 = 0
    · rw [if_pos c6] at H
      have c6b0 : (a1 == 0) = true := beq_iff_eq.mpr c6
      have c6b1 : (a1 != 0) = false := bne_eq_false_iff_eq.mpr c6
      clear c6
      obtain rfl := Option.some.inj H
      go_enter Tryd.func11, Tryd.ntmps11
      go_wp2_with (first | ((with_reducible refine gate_callee (f := 16) rfl ?_); refine goesL_ (some 19) rfl rfl Tryd.func16 (by kernel_rfl) rfl #[] rfl (by (try simp only [List.map_toArray, List.map_cons, List.map_nil]); first | done | rfl | (simp only [List.length_drop, List.length_take]; rfl)) ?_; (with_reducible refine (surtitlelaw3_known.calls  true _ A4.out).mono ?_); rintro e w7 ⟨rfl, hb⟩; refine ⟨_, rfl, ?_⟩; replace HB := Aside0.mk (below_step (bw HB.out) hb); (try clear hb); (try clear hb2); (try clear hk); (try clear hi)))
      go_ret
      exact ⟨by first | rfl | (simp [errW_none, errW_some] <;> rfl) | (simp [*, errW_none, errW_some] <;> rfl), by repeat (first | (with_reducible first | exact HB.out | apply below_alloc | apply pw_below_drewN | apply below_drew1) | exact HB.out)⟩
    · rw [if_neg c6] at H
      have c6b0 : (a1 == 0) = false := beq_eq_false_iff_ne.mpr c6
      have c6b1 : (a1 != 0) = true := bne_iff_ne.mpr c6
      replace H := Option.bind_eq_some_iff.mp H
      obtain ⟨⟨t102, t103, t104⟩, A80, H⟩ := H
      replace H : ((surtitlelaw3_fine.f t104).bind fun t106 => (if t106 = true then (if (wrap64 (a1)) = 0 then (none) else (if (Int.tmod (wrap64 ((wrap64 (a0)) * (wrap64 (a2)))) (wrap64 (a1))) = 0 then (surtitlelaw3_RatioCounts.j0 k a2 (wrap64 ((wrap64 (a0)) * (wrap64 (a2)))) (wrap64 (a1)) (wrap64 (Int.tdiv (wrap64 ((wrap64 (a0)) * (wrap64 (a2)))) (wrap64 (a1)))) false t102 t103) else (surtitlelaw3_RatioCounts.j0 k a2 (wrap64 ((wrap64 (a0)) * (wrap64 (a2)))) (wrap64 (a1)) (wrap64 (Int.tdiv (wrap64 ((wrap64 (a0)) * (wrap64 (a2)))) (wrap64 (a1)))) (decide ((wrap64 ((wrap64 (a0)) * (wrap64 (a2)))) < 0)) t102 t103))) else (some false))) = some r := H
      have A8 := Aside0.mk A80
      clear A80
      replace H := Option.bind_eq_some_iff.mp H
      obtain ⟨t106, A90, H⟩ := H
      replace H : (if t106 = true then (if (wrap64 (a1)) = 0 then (none) else (if (Int.tmod (wrap64 ((wrap64 (a0)) * (wrap64 (a2)))) (wrap64 (a1))) = 0 then (surtitlelaw3_RatioCounts.j0 k a2 (wrap64 ((wrap64 (a0)) * (wrap64 (a2)))) (wrap64 (a1)) (wrap64 (Int.tdiv (wrap64 ((wrap64 (a0)) * (wrap64 (a2)))) (wrap64 (a1)))) false t102 t103) else (surtitlelaw3_RatioCounts.j0 k a2 (wrap64 ((wrap64 (a0)) * (wrap64 (a2)))) (wrap64 (a1)) (wrap64 (Int.tdiv (wrap64 ((wrap64 (a0)) * (wrap64 (a2)))) (wrap64 (a1)))) (decide ((wrap64 ((wrap64 (a0)) * (wrap64 (a2)))) < 0)) t102 t103))) else (some false)) = some r := H
      have A9 := Aside0.mk A90
      clear A90
      by_cases c10 : t106 = true
      · subst c10
        have H1 : (if (wrap64 (a1)) = 0 then (none) else (if (Int.tmod (wrap64 ((wrap64 (a0)) * (wrap64 (a2)))) (wrap64 (a1))) = 0 then (surtitlelaw3_RatioCounts.j0 k a2 (wrap64 ((wrap64 (a0)) * (wrap64 (a2)))) (wrap64 (a1)) (wrap64 (Int.tdiv (wrap64 ((wrap64 (a0)) * (wrap64 (a2)))) (wrap64 (a1)))) false t102 t103) else (surtitlelaw3_RatioCounts.j0 k a2 (wrap64 ((wrap64 (a0)) * (wrap64 (a2)))) (wrap64 (a1)) (wrap64 (Int.tdiv (wrap64 ((wrap64 (a0)) * (wrap64 (a2)))) (wrap64 (a1)))) (decide ((wrap64 ((wrap64 (a0)) * (wrap64 (a2)))) < 0)) t102 t103))) = some r := by rw [if_pos rfl] at H; exact H
        clear H
        have H := H1
        clear H1
        by_cases c11 : (wrap64 (a1)) = 0
        · rw [if_pos c11] at H
          exact absurd H (by simp)
        · rw [if_neg c11] at H
          have c11b0 : ((wrap64 (a1)) == 0) = false := beq_eq_false_iff_ne.mpr c11
          have c11b1 : ((wrap64 (a1)) != 0) = true := bne_iff_ne.mpr c11
          have HC12 := Aside0.mk H
          clear H
          go_enter Tryd.func11, Tryd.ntmps11
          go_upto_region 11 with (first | ((with_reducible refine gate_callee (f := 16) rfl ?_); refine goesL_ (some 19) rfl rfl Tryd.func16 (by kernel_rfl) rfl #[] rfl (by (try simp only [List.map_toArray, List.map_cons, List.map_nil]); first | done | rfl | (simp only [List.length_drop, List.length_take]; rfl)) ?_; (with_reducible refine (surtitlelaw3_known.calls  true _ A4.out).mono ?_); rintro e w13 ⟨rfl, hb⟩; refine ⟨_, rfl, ?_⟩; replace HB := Aside0.mk (below_step (bw HB.out) hb); (try clear hb); (try clear hb2); (try clear hk); (try clear hi)) | ((with_reducible refine gate_callee (f := 17) rfl ?_); refine goesL_ (some 28) rfl rfl Tryd.func17 (by kernel_rfl) rfl #[.int .i64 (wrap64 (a0)), .int .i64 (wrap64 (a1))] rfl (by (try simp only [List.map_toArray, List.map_cons, List.map_nil]); first | done | rfl | (simp only [List.length_drop, List.length_take]; rfl)) ?_; (with_reducible refine (ratio_New.calls (wrap64 (a0)) (wrap64 (a1)) t102 t103 t104 _ A8.out).mono ?_); rintro e w14 ⟨rfl, hb⟩; refine ⟨_, rfl, ?_⟩; replace HB := Aside0.mk (below_step (bw HB.out) hb); (try clear hb); (try clear hb2); (try clear hk); (try clear hi)) | ((with_reducible refine gate_dst (N := 7) rfl ?_); refine box_event ?hg (N := 7) ?hd (cs := #[.int .i64 0, .int .i64 0]) (t := 24) ?hr ?_; (case hd => rfl); (case hg => rfl); (case hr => first | (go_simp; done) | (go_simp; rfl)); intro gb105 hg w15 hbox hb; have BK105 := Aside0.mk (hbox); have GW105 := Aside0.mk (ge1 hg (bw HB.out)); have GE105 := Aside0.mk (ge1 hg (bw HB.out)); replace HB := Aside0.mk (below_step (bw HB.out) hb); clear hb hbox hg; have hcz16_0 : w15.cell? ⟨gb105, 0, none⟩ = some (.int .i64 0) := (blk_cell BK105.out 0).trans rfl; have hcz16_1 : w15.cell? ⟨gb105, 1, none⟩ = some (.int .i64 0) := (blk_cell BK105.out 1).trans rfl; have hfz16_0 := blk_frozen BK105.out 0; have hfz16_1 := blk_frozen BK105.out 1) | ((with_reducible refine gate_callee (f := 33) rfl ?_); refine goesL_ (some 32) rfl rfl Tryd.func33 (by kernel_rfl) rfl #[.int .i64 t104] rfl (by (try simp only [List.map_toArray, List.map_cons, List.map_nil]); first | done | rfl | (simp only [List.length_drop, List.length_take]; rfl)) ?_; (with_reducible refine (surtitlelaw3_fine.calls t104 true _ A9.out).mono ?_); rintro e w' ⟨rfl, ⟨nd, rfl⟩⟩; refine ⟨_, rfl, ?_⟩))
          (try simp only [Act.put, List.setIfInBounds_toArray, List.set_cons_zero, List.set_cons_succ])
          go_cut [51] (fun v51 wc => ∃ (kq : Nat) (x51_11 : Bool), v51 = .bool x51_11 ∧ Aside0 (surtitlelaw3_RatioCounts.j0 kq a2 (wrap64 ((wrap64 (a0)) * (wrap64 (a2)))) (wrap64 (a1)) (wrap64 (Int.tdiv (wrap64 ((wrap64 (a0)) * (wrap64 (a2)))) (wrap64 (a1)))) x51_11 t102 t103 = some r) ∧ Aside0 (kq ≤ k) ∧ Aside0 (wc.heap[gb105]? = some (.cells #[.int .i64 t102, .int .i64 t103] 24 (0, 0))) ∧ Aside0 (Below w.heap.size w wc))
          case first =>
            have H := HC12.out
            clear HC12
            by_cases c17 : (Int.tmod (wrap64 ((wrap64 (a0)) * (wrap64 (a2)))) (wrap64 (a1))) = 0
            · rw [if_pos c17] at H
              have c17b0 : ((Int.tmod (wrap64 ((wrap64 (a0)) * (wrap64 (a2)))) (wrap64 (a1))) == 0) = true := beq_iff_eq.mpr c17
              have c17b1 : ((Int.tmod (wrap64 ((wrap64 (a0)) * (wrap64 (a2)))) (wrap64 (a1))) != 0) = false := bne_eq_false_iff_eq.mpr c17
              clear c17
              (first | rw [c17b0] | (simp only [i64_w, i32_w]; rw [c17b0]) | skip)
              have H' := Aside0.mk H
              clear H
              go_wp2
              go_meet
              case rel => exact ⟨_, (false), (by first | rfl | (simp; done) | (simp [*]; done)), H', ⟨by first | omega | exact Nat.le_refl _⟩, ⟨by refine bk ?_; refine blk_put (cs := #[.int .i64 t102, .int .i64 0]) ?_ 1 _ rfl; refine bk ?_; refine blk_put (cs := #[.int .i64 0, .int .i64 0]) ?_ 0 _ rfl; refine bk ?_; exact BK105.out⟩, ⟨by repeat (first | (with_reducible first | exact HB.out | apply below_alloc | apply pw_below_drewN | apply below_drew1 | refine below_set ?_ GE105.out) | exact HB.out)⟩⟩
            · rw [if_neg c17] at H
              have c17b0 : ((Int.tmod (wrap64 ((wrap64 (a0)) * (wrap64 (a2)))) (wrap64 (a1))) == 0) = false := beq_eq_false_iff_ne.mpr c17
              have c17b1 : ((Int.tmod (wrap64 ((wrap64 (a0)) * (wrap64 (a2)))) (wrap64 (a1))) != 0) = true := bne_iff_ne.mpr c17
              (first | rw [c17b0] | (simp only [i64_w, i32_w]; rw [c17b0]) | skip)
              have H' := Aside0.mk H
              clear H
              go_wp2
              go_meet
              case rel => exact ⟨_, (decide ((wrap64 ((wrap64 (a0)) * (wrap64 (a2)))) < 0)), (by first | rfl | (simp; done) | (simp [*]; done)), H', ⟨by first | omega | exact Nat.le_refl _⟩, ⟨by refine bk ?_; refine blk_put (cs := #[.int .i64 t102, .int .i64 0]) ?_ 1 _ rfl; refine bk ?_; refine blk_put (cs := #[.int .i64 0, .int .i64 0]) ?_ 0 _ rfl; refine bk ?_; exact BK105.out⟩, ⟨by repeat (first | (with_reducible first | exact HB.out | apply below_alloc | apply pw_below_drewN | apply below_drew1 | refine below_set ?_ GE105.out) | exact HB.out)⟩⟩
          case rest =>
            clear HC12
            try clear c1
            try clear p2
            try clear c3
            try clear c5
            try clear c6
            try clear c6b0
            try clear c6b1
            try clear p6
            try clear c10
            try clear c11
            try clear c11b0
            try clear c11b1
            try clear c16
            try clear c17
            try clear c17b0
            try clear c17b1
            try clear hcz16_0
            try clear hcz16_1
            try clear hfz16_0
            try clear hfz16_1
            obtain ⟨kq, x51_11, rfl, HA, HJ11, BK105, HB⟩ := hcut
            cases kq with
            | zero => exact absurd HA.out (by simp [surtitlelaw3_RatioCounts.j0])
            | succ kj11 =>
              have H := HA.out
              clear HA
              simp only [surtitlelaw3_RatioCounts.j0] at H
              have HC18 := Aside0.mk H
              clear H
              go_upto_if 51 with (fail)
              go_cut [11] (fun v11 wc => ∃ (kq : Nat) (x11_17 : Int), v11 = .int .i64 x11_17 ∧ Aside0 (surtitlelaw3_RatioCounts.j1 kq a2 (wrap64 ((wrap64 (a0)) * (wrap64 (a2)))) (wrap64 (a1)) x11_17 t102 t103 = some r) ∧ Aside0 (kq ≤ kj11) ∧ Aside0 (wc.heap[gb105]? = some (.cells #[.int .i64 t102, .int .i64 t103] 24 (0, 0))) ∧ Aside0 (Below w.heap.size w wc))
              case first =>
                have H := HC18.out
                clear HC18
                by_cases c19 : x51_11 = true
                · subst c19
                  have H1 : (surtitlelaw3_RatioCounts.j1 kj11 a2 (wrap64 ((wrap64 (a0)) * (wrap64 (a2)))) (wrap64 (a1)) (wrap64 ((wrap64 (Int.tdiv (wrap64 ((wrap64 (a0)) * (wrap64 (a2)))) (wrap64 (a1)))) - 1)) t102 t103) = some r := by rw [if_pos rfl] at H; exact H
                  clear H
                  have H := H1
                  clear H1
                  have H' := Aside0.mk H
                  clear H
                  go_wp2
                  go_meet
                  case rel => exact ⟨_, (wrap64 ((wrap64 (Int.tdiv (wrap64 ((wrap64 (a0)) * (wrap64 (a2)))) (wrap64 (a1)))) - 1)), (by first | rfl | (simp; done) | (simp [*]; done)), H', ⟨by have := HJ11.out; first | omega | exact Nat.le_refl _⟩, ⟨by refine bk ?_; exact BK105.out⟩, ⟨by repeat (first | (with_reducible first | exact HB.out | apply below_alloc | apply pw_below_drewN | apply below_drew1 | refine below_set ?_ GE105.out) | exact HB.out)⟩⟩
                · replace c19 := Bool.eq_false_iff.mpr c19
                  subst c19
                  have H1 : (surtitlelaw3_RatioCounts.j1 kj11 a2 (wrap64 ((wrap64 (a0)) * (wrap64 (a2)))) (wrap64 (a1)) (wrap64 (Int.tdiv (wrap64 ((wrap64 (a0)) * (wrap64 (a2)))) (wrap64 (a1)))) t102 t103) = some r := by rw [if_neg (show ¬ (false = true) by decide)] at H; exact H
                  clear H
                  have H := H1
                  clear H1
                  have H' := Aside0.mk H
                  clear H
                  go_wp2
                  go_meet
                  case rel => exact ⟨_, ((wrap64 (Int.tdiv (wrap64 ((wrap64 (a0)) * (wrap64 (a2)))) (wrap64 (a1))))), (by first | rfl | (simp; done) | (simp [*]; done)), H', ⟨by have := HJ11.out; first | omega | exact Nat.le_refl _⟩, ⟨by refine bk ?_; exact BK105.out⟩, ⟨by repeat (first | (with_reducible first | exact HB.out | apply below_alloc | apply pw_below_drewN | apply below_drew1 | refine below_set ?_ GE105.out) | exact HB.out)⟩⟩
              case rest =>
                clear HC18
                try clear c1
                try clear p2
                try clear c3
                try clear c5
                try clear c6
                try clear c6b0
                try clear c6b1
                try clear p6
                try clear c10
                try clear c11
                try clear c11b0
                try clear c11b1
                try clear c16
                try clear c17
                try clear c17b0
                try clear c17b1
                try clear c19
                try clear hcz16_0
                try clear hcz16_1
                try clear hfz16_0
                try clear hfz16_1
                try clear p2
                try clear p6
                obtain ⟨kq, x11_17, rfl, HA, HJ17, BK105, HB⟩ := hcut
                cases kq with
                | zero => exact absurd HA.out (by simp [surtitlelaw3_RatioCounts.j1])
                | succ kj17 =>
                  have H := HA.out
                  clear HA
                  simp only [surtitlelaw3_RatioCounts.j1] at H
                  by_cases c20 : (wrap64 (a1)) = 0
                  · rw [if_pos c20] at H
                    exact absurd H (by simp)
                  · rw [if_neg c20] at H
                    have c20b0 : ((wrap64 (a1)) == 0) = false := beq_eq_false_iff_ne.mpr c20
                    have c20b1 : ((wrap64 (a1)) != 0) = true := bne_iff_ne.mpr c20
                    have HC21 := Aside0.mk H
                    clear H
                    go_upto_if 58 with (fail)
                    go_cut [12] (fun v12 wc => ∃ (kq : Nat) (x12_20 : Int), v12 = .int .i64 x12_20 ∧ Aside0 (surtitlelaw3_RatioCounts.j2 kq a2 (wrap64 ((wrap64 (a0)) * (wrap64 (a2)))) (wrap64 (a1)) x11_17 x12_20 t102 t103 = some r) ∧ Aside0 (kq ≤ kj17) ∧ Aside0 (wc.heap[gb105]? = some (.cells #[.int .i64 t102, .int .i64 t103] 24 (0, 0))) ∧ Aside0 (Below w.heap.size w wc))
                    case first =>
                      have H := HC21.out
                      clear HC21
                      by_cases c22 : (Int.tmod (wrap64 ((wrap64 (a0)) * (wrap64 (a2)))) (wrap64 (a1))) = 0
                      · rw [if_pos c22] at H
                        have c22b0 : ((Int.tmod (wrap64 ((wrap64 (a0)) * (wrap64 (a2)))) (wrap64 (a1))) == 0) = true := beq_iff_eq.mpr c22
                        have c22b1 : ((Int.tmod (wrap64 ((wrap64 (a0)) * (wrap64 (a2)))) (wrap64 (a1))) != 0) = false := bne_eq_false_iff_eq.mpr c22
                        clear c22
                        (first | rw [c22b0] | (simp only [i64_w, i32_w]; rw [c22b0]) | skip)
                        have H' := Aside0.mk H
                        clear H
                        go_wp2
                        go_meet
                        case rel => exact ⟨_, (x11_17), (by first | rfl | (simp; done) | (simp [*]; done)), H', ⟨by have := HJ11.out; have := HJ17.out; first | omega | exact Nat.le_refl _⟩, ⟨by refine bk ?_; exact BK105.out⟩, ⟨by repeat (first | (with_reducible first | exact HB.out | apply below_alloc | apply pw_below_drewN | apply below_drew1 | refine below_set ?_ GE105.out) | exact HB.out)⟩⟩
                      · rw [if_neg c22] at H
                        have c22b0 : ((Int.tmod (wrap64 ((wrap64 (a0)) * (wrap64 (a2)))) (wrap64 (a1))) == 0) = false := beq_eq_false_iff_ne.mpr c22
                        have c22b1 : ((Int.tmod (wrap64 ((wrap64 (a0)) * (wrap64 (a2)))) (wrap64 (a1))) != 0) = true := bne_iff_ne.mpr c22
                        (first | rw [c22b0] | (simp only [i64_w, i32_w]; rw [c22b0]) | skip)
                        have H' := Aside0.mk H
                        clear H
                        go_wp2
                        go_meet
                        case rel => exact ⟨_, (wrap64 (x11_17 + 1)), (by first | rfl | (simp; done) | (simp [*]; done)), H', ⟨by have := HJ11.out; have := HJ17.out; first | omega | exact Nat.le_refl _⟩, ⟨by refine bk ?_; exact BK105.out⟩, ⟨by repeat (first | (with_reducible first | exact HB.out | apply below_alloc | apply pw_below_drewN | apply below_drew1 | refine below_set ?_ GE105.out) | exact HB.out)⟩⟩
                    case rest =>
                      clear HC21
                      try clear c1
                      try clear c2
                      try clear p2
                      try clear c3
                      try clear c5
                      try clear c6
                      try clear c6b0
                      try clear c6b1
                      try clear p6
                      try clear c10
                      try clear c11
                      try clear c11b0
                      try clear c11b1
                      try clear c16
                      try clear c17
                      try clear c17b0
                      try clear c17b1
                      try clear c19
                      try clear c20
                      try clear c20b0
                      try clear c20b1
                      try clear c22
                      try clear c22b0
                      try clear c22b1
                      try clear hcz16_0
                      try clear hcz16_1
                      try clear hfz16_0
                      try clear hfz16_1
                      try clear p2
                      try clear p6
                      obtain ⟨kq, x12_20, rfl, HA, HJ20, BK105, HB⟩ := hcut
                      cases kq with
                      | zero => exact absurd HA.out (by simp [surtitlelaw3_RatioCounts.j2])
                      | succ kj20 =>
                        have H := HA.out
                        clear HA
                        simp only [surtitlelaw3_RatioCounts.j2] at H
                        have HC23 := Aside0.mk H
                        clear H
                        go_upto_if 69 with (fail)
                        go_cut [13] (fun v13 wc => ∃ (kq : Nat) (x13_22 : Int), v13 = .int .i64 x13_22 ∧ Aside0 (surtitlelaw3_RatioCounts.j3 kq a2 x11_17 x12_20 x13_22 t102 t103 = some r) ∧ Aside0 (kq ≤ kj20) ∧ Aside0 (wc.heap[gb105]? = some (.cells #[.int .i64 t102, .int .i64 t103] 24 (0, 0))) ∧ Aside0 (Below w.heap.size w wc))
                        case first =>
                          have H := HC23.out
                          clear HC23
                          by_cases c24 : (wrap64 (2 * (wrap64 ((wrap64 ((wrap64 (a0)) * (wrap64 (a2)))) - (wrap64 (x11_17 * (wrap64 (a1)))))))) ≥ (wrap64 (a1))
                          · rw [if_pos c24] at H
                            have c24b0 : decide ((wrap64 (a1)) ≤ (wrap64 (2 * (wrap64 ((wrap64 ((wrap64 (a0)) * (wrap64 (a2)))) - (wrap64 (x11_17 * (wrap64 (a1))))))))) = true := decide_eq_true c24
                            clear c24
                            (first | rw [c24b0] | (simp only [i64_w, i32_w]; rw [c24b0]) | skip)
                            have H' := Aside0.mk H
                            clear H
                            go_wp2
                            go_meet
                            case rel => exact ⟨_, (wrap64 (x11_17 + 1)), (by first | rfl | (simp; done) | (simp [*]; done)), H', ⟨by have := HJ11.out; have := HJ17.out; have := HJ20.out; first | omega | exact Nat.le_refl _⟩, ⟨by refine bk ?_; exact BK105.out⟩, ⟨by repeat (first | (with_reducible first | exact HB.out | apply below_alloc | apply pw_below_drewN | apply below_drew1 | refine below_set ?_ GE105.out) | exact HB.out)⟩⟩
                          · rw [if_neg c24] at H
                            have c24b0 : decide ((wrap64 (a1)) ≤ (wrap64 (2 * (wrap64 ((wrap64 ((wrap64 (a0)) * (wrap64 (a2)))) - (wrap64 (x11_17 * (wrap64 (a1))))))))) = false := decide_eq_false c24
                            clear c24
                            (first | rw [c24b0] | (simp only [i64_w, i32_w]; rw [c24b0]) | skip)
                            have H' := Aside0.mk H
                            clear H
                            go_wp2
                            go_meet
                            case rel => exact ⟨_, (x11_17), (by first | rfl | (simp; done) | (simp [*]; done)), H', ⟨by have := HJ11.out; have := HJ17.out; have := HJ20.out; first | omega | exact Nat.le_refl _⟩, ⟨by refine bk ?_; exact BK105.out⟩, ⟨by repeat (first | (with_reducible first | exact HB.out | apply below_alloc | apply pw_below_drewN | apply below_drew1 | refine below_set ?_ GE105.out) | exact HB.out)⟩⟩
                        case rest =>
                          clear HC23
                          try clear c1
                          try clear c2
                          try clear p2
                          try clear c3
                          try clear c5
                          try clear c6
                          try clear c6b0
                          try clear c6b1
                          try clear p6
                          try clear c10
                          try clear c11
                          try clear c11b0
                          try clear c11b1
                          try clear c16
                          try clear c17
                          try clear c17b0
                          try clear c17b1
                          try clear c19
                          try clear c20
                          try clear c20b0
                          try clear c20b1
                          try clear c22
                          try clear c22b0
                          try clear c22b1
                          try clear c24
                          try clear c24b0
                          try clear hcz16_0
                          try clear hcz16_1
                          try clear hfz16_0
                          try clear hfz16_1
                          try clear p2
                          try clear p6
                          obtain ⟨kq, x13_22, rfl, HA, HJ22, BK105, HB⟩ := hcut
                          cases kq with
                          | zero => exact absurd HA.out (by simp [surtitlelaw3_RatioCounts.j3])
                          | succ kj22 =>
                            have H := HA.out
                            clear HA
                            simp only [surtitlelaw3_RatioCounts.j3] at H
                            replace H := Option.bind_eq_some_iff.mp H
                            obtain ⟨⟨t107, t108⟩, A250, H⟩ := H
                            replace H : ((ratio_Whole.f t102 t103 (wrap64 (a2)) 3).bind fun bt109 => ((ratio_Whole.f t102 t103 (wrap64 (a2)) 2).bind fun bt111 => ((surtitlelaw3_fine.f t108).bind fun t113 => (if t113 = true then ((surtitlelaw3_fine.f bt109.2).bind fun t114 => (if t114 = true then ((surtitlelaw3_fine.f bt111.2).bind fun t115 => (if t115 = true then (if t107 = x11_17 then (if bt109.1 = x12_20 then (some (bt111.1 == x13_22)) else (some false)) else (some false)) else (some false))) else (some false))) else (some false))))) = some r := H
                            have A25 := Aside0.mk A250
                            clear A250
                            replace H := Option.bind_eq_some_iff.mp H
                            obtain ⟨⟨t109, t110⟩, A260, H⟩ := H
                            replace H : ((ratio_Whole.f t102 t103 (wrap64 (a2)) 2).bind fun bt111 => ((surtitlelaw3_fine.f t108).bind fun t113 => (if t113 = true then ((surtitlelaw3_fine.f t110).bind fun t114 => (if t114 = true then ((surtitlelaw3_fine.f bt111.2).bind fun t115 => (if t115 = true then (if t107 = x11_17 then (if t109 = x12_20 then (some (bt111.1 == x13_22)) else (some false)) else (some false)) else (some false))) else (some false))) else (some false)))) = some r := H
                            have A26 := Aside0.mk A260
                            clear A260
                            replace H := Option.bind_eq_some_iff.mp H
                            obtain ⟨⟨t111, t112⟩, A270, H⟩ := H
                            replace H : ((surtitlelaw3_fine.f t108).bind fun t113 => (if t113 = true then ((surtitlelaw3_fine.f t110).bind fun t114 => (if t114 = true then ((surtitlelaw3_fine.f t112).bind fun t115 => (if t115 = true then (if t107 = x11_17 then (if t109 = x12_20 then (some (t111 == x13_22)) else (some false)) else (some false)) else (some false))) else (some false))) else (some false))) = some r := H
                            have A27 := Aside0.mk A270
                            clear A270
                            replace H := Option.bind_eq_some_iff.mp H
                            obtain ⟨t113, A280, H⟩ := H
                            replace H : (if t113 = true then ((surtitlelaw3_fine.f t110).bind fun t114 => (if t114 = true then ((surtitlelaw3_fine.f t112).bind fun t115 => (if t115 = true then (if t107 = x11_17 then (if t109 = x12_20 then (some (t111 == x13_22)) else (some false)) else (some false)) else (some false))) else (some false))) else (some false)) = some r := H
                            have A28 := Aside0.mk A280
                            clear A280
                            by_cases c29 : t113 = true
                            · subst c29
                              have H1 : ((surtitlelaw3_fine.f t110).bind fun t114 => (if t114 = true then ((surtitlelaw3_fine.f t112).bind fun t115 => (if t115 = true then (if t107 = x11_17 then (if t109 = x12_20 then (some (t111 == x13_22)) else (some false)) else (some false)) else (some false))) else (some false))) = some r := by rw [if_pos rfl] at H; exact H
                              clear H
                              have H := H1
                              clear H1
                              replace H := Option.bind_eq_some_iff.mp H
                              obtain ⟨t114, A300, H⟩ := H
                              replace H : (if t114 = true then ((surtitlelaw3_fine.f t112).bind fun t115 => (if t115 = true then (if t107 = x11_17 then (if t109 = x12_20 then (some (t111 == x13_22)) else (some false)) else (some false)) else (some false))) else (some false)) = some r := H
                              have A30 := Aside0.mk A300
                              clear A300
                              by_cases c31 : t114 = true
                              · subst c31
                                have H1 : ((surtitlelaw3_fine.f t112).bind fun t115 => (if t115 = true then (if t107 = x11_17 then (if t109 = x12_20 then (some (t111 == x13_22)) else (some false)) else (some false)) else (some false))) = some r := by rw [if_pos rfl] at H; exact H
                                clear H
                                have H := H1
                                clear H1
                                replace H := Option.bind_eq_some_iff.mp H
                                obtain ⟨t115, A320, H⟩ := H
                                replace H : (if t115 = true then (if t107 = x11_17 then (if t109 = x12_20 then (some (t111 == x13_22)) else (some false)) else (some false)) else (some false)) = some r := H
                                have A32 := Aside0.mk A320
                                clear A320
                                by_cases c33 : t115 = true
                                · subst c33
                                  have H1 : (if t107 = x11_17 then (if t109 = x12_20 then (some (t111 == x13_22)) else (some false)) else (some false)) = some r := by rw [if_pos rfl] at H; exact H
                                  clear H
                                  have H := H1
                                  clear H1
                                  by_cases c34 : t107 = x11_17
                                  · rw [if_pos c34] at H
                                    have c34b0 : (t107 == x11_17) = true := beq_iff_eq.mpr c34
                                    have c34b1 : (t107 != x11_17) = false := bne_eq_false_iff_eq.mpr c34
                                    clear c34
                                    by_cases c35 : t109 = x12_20
                                    · rw [if_pos c35] at H
                                      have c35b0 : (t109 == x12_20) = true := beq_iff_eq.mpr c35
                                      have c35b1 : (t109 != x12_20) = false := bne_eq_false_iff_eq.mpr c35
                                      clear c35
                                      obtain rfl := Option.some.inj H
                                      have hcz36_0 : wc.cell? ⟨gb105, 0, none⟩ = some (.int .i64 t102) := (blk_cell BK105.out 0).trans rfl
                                      have hcz36_1 : wc.cell? ⟨gb105, 1, none⟩ = some (.int .i64 t103) := (blk_cell BK105.out 1).trans rfl
                                      have hfz36_0 := blk_frozen BK105.out 0
                                      have hfz36_1 := blk_frozen BK105.out 1
                                      go_wp2_with (first | ((with_reducible refine gate_callee (f := 40) rfl ?_); refine goesL_ (some 76) rfl rfl Tryd.func40 (by kernel_rfl) rfl #[.agg #[.int .i64 t102, .int .i64 t103], .int .i64 (wrap64 (a2)), .int .i64 1] rfl (by (try simp only [List.map_toArray, List.map_cons, List.map_nil]); first | done | rfl | (simp only [List.length_drop, List.length_take]; rfl)) ?_; (with_reducible refine (ratio_Whole.calls t102 t103 (wrap64 (a2)) 1 t107 t108 _ A25.out).mono ?_); rintro e w37 ⟨rfl, hb⟩; refine ⟨_, rfl, ?_⟩; replace BK105 := Aside0.mk (bb hb BK105.out); replace HB := Aside0.mk (below_step (bw HB.out) hb); (try clear hb); (try clear hb2); (try clear hk); (try clear hi); have hcz38_0 : w37.cell? ⟨gb105, 0, none⟩ = some (.int .i64 t102) := (blk_cell BK105.out 0).trans rfl; have hcz38_1 : w37.cell? ⟨gb105, 1, none⟩ = some (.int .i64 t103) := (blk_cell BK105.out 1).trans rfl; have hfz38_0 := blk_frozen BK105.out 0; have hfz38_1 := blk_frozen BK105.out 1) | ((with_reducible refine gate_callee (f := 40) rfl ?_); refine goesL_ (some 83) rfl rfl Tryd.func40 (by kernel_rfl) rfl #[.agg #[.int .i64 t102, .int .i64 t103], .int .i64 (wrap64 (a2)), .int .i64 3] rfl (by (try simp only [List.map_toArray, List.map_cons, List.map_nil]); first | done | rfl | (simp only [List.length_drop, List.length_take]; rfl)) ?_; (with_reducible refine (ratio_Whole.calls t102 t103 (wrap64 (a2)) 3 t109 t110 _ A26.out).mono ?_); rintro e w39 ⟨rfl, hb⟩; refine ⟨_, rfl, ?_⟩; replace BK105 := Aside0.mk (bb hb BK105.out); replace HB := Aside0.mk (below_step (bw HB.out) hb); (try clear hb); (try clear hb2); (try clear hk); (try clear hi); have hcz40_0 : w39.cell? ⟨gb105, 0, none⟩ = some (.int .i64 t102) := (blk_cell BK105.out 0).trans rfl; have hcz40_1 : w39.cell? ⟨gb105, 1, none⟩ = some (.int .i64 t103) := (blk_cell BK105.out 1).trans rfl; have hfz40_0 := blk_frozen BK105.out 0; have hfz40_1 := blk_frozen BK105.out 1) | ((with_reducible refine gate_callee (f := 40) rfl ?_); refine goesL_ (some 90) rfl rfl Tryd.func40 (by kernel_rfl) rfl #[.agg #[.int .i64 t102, .int .i64 t103], .int .i64 (wrap64 (a2)), .int .i64 2] rfl (by (try simp only [List.map_toArray, List.map_cons, List.map_nil]); first | done | rfl | (simp only [List.length_drop, List.length_take]; rfl)) ?_; (with_reducible refine (ratio_Whole.calls t102 t103 (wrap64 (a2)) 2 t111 t112 _ A27.out).mono ?_); rintro e w41 ⟨rfl, hb⟩; refine ⟨_, rfl, ?_⟩; replace BK105 := Aside0.mk (bb hb BK105.out); replace HB := Aside0.mk (below_step (bw HB.out) hb); (try clear hb); (try clear hb2); (try clear hk); (try clear hi)) | ((with_reducible refine gate_callee (f := 33) rfl ?_); refine goesL_ (some 94) rfl rfl Tryd.func33 (by kernel_rfl) rfl #[.int .i64 t108] rfl (by (try simp only [List.map_toArray, List.map_cons, List.map_nil]); first | done | rfl | (simp only [List.length_drop, List.length_take]; rfl)) ?_; (with_reducible refine (surtitlelaw3_fine.calls t108 true _ A28.out).mono ?_); rintro e w' ⟨rfl, ⟨nd, rfl⟩⟩; refine ⟨_, rfl, ?_⟩) | (go_at_call 33; (with_reducible refine (surtitlelaw3_fine.calls t110 true _ A30.out).mono ?_); rintro e w' ⟨rfl, ⟨nd, rfl⟩⟩) | (go_at_call 33; (with_reducible refine (surtitlelaw3_fine.calls t112 true _ A32.out).mono ?_); rintro e w' ⟨rfl, ⟨nd, rfl⟩⟩))
                                      go_ret
                                      exact ⟨by first | rfl | (simp [errW_none, errW_some] <;> rfl) | (simp [*, errW_none, errW_some] <;> rfl), by repeat (first | (with_reducible first | exact HB.out | apply below_alloc | apply pw_below_drewN | apply below_drew1 | refine below_set ?_ GE105.out) | exact HB.out)⟩
                                    · rw [if_neg c35] at H
                                      have c35b0 : (t109 == x12_20) = false := beq_eq_false_iff_ne.mpr c35
                                      have c35b1 : (t109 != x12_20) = true := bne_iff_ne.mpr c35
                                      obtain rfl := Option.some.inj H
                                      have hcz42_0 : wc.cell? ⟨gb105, 0, none⟩ = some (.int .i64 t102) := (blk_cell BK105.out 0).trans rfl
                                      have hcz42_1 : wc.cell? ⟨gb105, 1, none⟩ = some (.int .i64 t103) := (blk_cell BK105.out 1).trans rfl
                                      have hfz42_0 := blk_frozen BK105.out 0
                                      have hfz42_1 := blk_frozen BK105.out 1
                                      go_wp2_with (first | ((with_reducible refine gate_callee (f := 40) rfl ?_); refine goesL_ (some 76) rfl rfl Tryd.func40 (by kernel_rfl) rfl #[.agg #[.int .i64 t102, .int .i64 t103], .int .i64 (wrap64 (a2)), .int .i64 1] rfl (by (try simp only [List.map_toArray, List.map_cons, List.map_nil]); first | done | rfl | (simp only [List.length_drop, List.length_take]; rfl)) ?_; (with_reducible refine (ratio_Whole.calls t102 t103 (wrap64 (a2)) 1 t107 t108 _ A25.out).mono ?_); rintro e w43 ⟨rfl, hb⟩; refine ⟨_, rfl, ?_⟩; replace BK105 := Aside0.mk (bb hb BK105.out); replace HB := Aside0.mk (below_step (bw HB.out) hb); (try clear hb); (try clear hb2); (try clear hk); (try clear hi); have hcz44_0 : w43.cell? ⟨gb105, 0, none⟩ = some (.int .i64 t102) := (blk_cell BK105.out 0).trans rfl; have hcz44_1 : w43.cell? ⟨gb105, 1, none⟩ = some (.int .i64 t103) := (blk_cell BK105.out 1).trans rfl; have hfz44_0 := blk_frozen BK105.out 0; have hfz44_1 := blk_frozen BK105.out 1) | ((with_reducible refine gate_callee (f := 40) rfl ?_); refine goesL_ (some 83) rfl rfl Tryd.func40 (by kernel_rfl) rfl #[.agg #[.int .i64 t102, .int .i64 t103], .int .i64 (wrap64 (a2)), .int .i64 3] rfl (by (try simp only [List.map_toArray, List.map_cons, List.map_nil]); first | done | rfl | (simp only [List.length_drop, List.length_take]; rfl)) ?_; (with_reducible refine (ratio_Whole.calls t102 t103 (wrap64 (a2)) 3 t109 t110 _ A26.out).mono ?_); rintro e w45 ⟨rfl, hb⟩; refine ⟨_, rfl, ?_⟩; replace BK105 := Aside0.mk (bb hb BK105.out); replace HB := Aside0.mk (below_step (bw HB.out) hb); (try clear hb); (try clear hb2); (try clear hk); (try clear hi); have hcz46_0 : w45.cell? ⟨gb105, 0, none⟩ = some (.int .i64 t102) := (blk_cell BK105.out 0).trans rfl; have hcz46_1 : w45.cell? ⟨gb105, 1, none⟩ = some (.int .i64 t103) := (blk_cell BK105.out 1).trans rfl; have hfz46_0 := blk_frozen BK105.out 0; have hfz46_1 := blk_frozen BK105.out 1) | ((with_reducible refine gate_callee (f := 40) rfl ?_); refine goesL_ (some 90) rfl rfl Tryd.func40 (by kernel_rfl) rfl #[.agg #[.int .i64 t102, .int .i64 t103], .int .i64 (wrap64 (a2)), .int .i64 2] rfl (by (try simp only [List.map_toArray, List.map_cons, List.map_nil]); first | done | rfl | (simp only [List.length_drop, List.length_take]; rfl)) ?_; (with_reducible refine (ratio_Whole.calls t102 t103 (wrap64 (a2)) 2 t111 t112 _ A27.out).mono ?_); rintro e w47 ⟨rfl, hb⟩; refine ⟨_, rfl, ?_⟩; replace BK105 := Aside0.mk (bb hb BK105.out); replace HB := Aside0.mk (below_step (bw HB.out) hb); (try clear hb); (try clear hb2); (try clear hk); (try clear hi)) | ((with_reducible refine gate_callee (f := 33) rfl ?_); refine goesL_ (some 94) rfl rfl Tryd.func33 (by kernel_rfl) rfl #[.int .i64 t108] rfl (by (try simp only [List.map_toArray, List.map_cons, List.map_nil]); first | done | rfl | (simp only [List.length_drop, List.length_take]; rfl)) ?_; (with_reducible refine (surtitlelaw3_fine.calls t108 true _ A28.out).mono ?_); rintro e w' ⟨rfl, ⟨nd, rfl⟩⟩; refine ⟨_, rfl, ?_⟩) | (go_at_call 33; (with_reducible refine (surtitlelaw3_fine.calls t110 true _ A30.out).mono ?_); rintro e w' ⟨rfl, ⟨nd, rfl⟩⟩) | (go_at_call 33; (with_reducible refine (surtitlelaw3_fine.calls t112 true _ A32.out).mono ?_); rintro e w' ⟨rfl, ⟨nd, rfl⟩⟩))
                                      go_ret
                                      exact ⟨by first | rfl | (simp [errW_none, errW_some] <;> rfl) | (simp [*, errW_none, errW_some] <;> rfl), by repeat (first | (with_reducible first | exact HB.out | apply below_alloc | apply pw_below_drewN | apply below_drew1 | refine below_set ?_ GE105.out) | exact HB.out)⟩
                                  · rw [if_neg c34] at H
                                    have c34b0 : (t107 == x11_17) = false := beq_eq_false_iff_ne.mpr c34
                                    have c34b1 : (t107 != x11_17) = true := bne_iff_ne.mpr c34
                                    obtain rfl := Option.some.inj H
                                    have hcz48_0 : wc.cell? ⟨gb105, 0, none⟩ = some (.int .i64 t102) := (blk_cell BK105.out 0).trans rfl
                                    have hcz48_1 : wc.cell? ⟨gb105, 1, none⟩ = some (.int .i64 t103) := (blk_cell BK105.out 1).trans rfl
                                    have hfz48_0 := blk_frozen BK105.out 0
                                    have hfz48_1 := blk_frozen BK105.out 1
                                    go_wp2_with (first | ((with_reducible refine gate_callee (f := 40) rfl ?_); refine goesL_ (some 76) rfl rfl Tryd.func40 (by kernel_rfl) rfl #[.agg #[.int .i64 t102, .int .i64 t103], .int .i64 (wrap64 (a2)), .int .i64 1] rfl (by (try simp only [List.map_toArray, List.map_cons, List.map_nil]); first | done | rfl | (simp only [List.length_drop, List.length_take]; rfl)) ?_; (with_reducible refine (ratio_Whole.calls t102 t103 (wrap64 (a2)) 1 t107 t108 _ A25.out).mono ?_); rintro e w49 ⟨rfl, hb⟩; refine ⟨_, rfl, ?_⟩; replace BK105 := Aside0.mk (bb hb BK105.out); replace HB := Aside0.mk (below_step (bw HB.out) hb); (try clear hb); (try clear hb2); (try clear hk); (try clear hi); have hcz50_0 : w49.cell? ⟨gb105, 0, none⟩ = some (.int .i64 t102) := (blk_cell BK105.out 0).trans rfl; have hcz50_1 : w49.cell? ⟨gb105, 1, none⟩ = some (.int .i64 t103) := (blk_cell BK105.out 1).trans rfl; have hfz50_0 := blk_frozen BK105.out 0; have hfz50_1 := blk_frozen BK105.out 1) | ((with_reducible refine gate_callee (f := 40) rfl ?_); refine goesL_ (some 83) rfl rfl Tryd.func40 (by kernel_rfl) rfl #[.agg #[.int .i64 t102, .int .i64 t103], .int .i64 (wrap64 (a2)), .int .i64 3] rfl (by (try simp only [List.map_toArray, List.map_cons, List.map_nil]); first | done | rfl | (simp only [List.length_drop, List.length_take]; rfl)) ?_; (with_reducible refine (ratio_Whole.calls t102 t103 (wrap64 (a2)) 3 t109 t110 _ A26.out).mono ?_); rintro e w51 ⟨rfl, hb⟩; refine ⟨_, rfl, ?_⟩; replace BK105 := Aside0.mk (bb hb BK105.out); replace HB := Aside0.mk (below_step (bw HB.out) hb); (try clear hb); (try clear hb2); (try clear hk); (try clear hi); have hcz52_0 : w51.cell? ⟨gb105, 0, none⟩ = some (.int .i64 t102) := (blk_cell BK105.out 0).trans rfl; have hcz52_1 : w51.cell? ⟨gb105, 1, none⟩ = some (.int .i64 t103) := (blk_cell BK105.out 1).trans rfl; have hfz52_0 := blk_frozen BK105.out 0; have hfz52_1 := blk_frozen BK105.out 1) | ((with_reducible refine gate_callee (f := 40) rfl ?_); refine goesL_ (some 90) rfl rfl Tryd.func40 (by kernel_rfl) rfl #[.agg #[.int .i64 t102, .int .i64 t103], .int .i64 (wrap64 (a2)), .int .i64 2] rfl (by (try simp only [List.map_toArray, List.map_cons, List.map_nil]); first | done | rfl | (simp only [List.length_drop, List.length_take]; rfl)) ?_; (with_reducible refine (ratio_Whole.calls t102 t103 (wrap64 (a2)) 2 t111 t112 _ A27.out).mono ?_); rintro e w53 ⟨rfl, hb⟩; refine ⟨_, rfl, ?_⟩; replace BK105 := Aside0.mk (bb hb BK105.out); replace HB := Aside0.mk (below_step (bw HB.out) hb); (try clear hb); (try clear hb2); (try clear hk); (try clear hi)) | ((with_reducible refine gate_callee (f := 33) rfl ?_); refine goesL_ (some 94) rfl rfl Tryd.func33 (by kernel_rfl) rfl #[.int .i64 t108] rfl (by (try simp only [List.map_toArray, List.map_cons, List.map_nil]); first | done | rfl | (simp only [List.length_drop, List.length_take]; rfl)) ?_; (with_reducible refine (surtitlelaw3_fine.calls t108 true _ A28.out).mono ?_); rintro e w' ⟨rfl, ⟨nd, rfl⟩⟩; refine ⟨_, rfl, ?_⟩) | (go_at_call 33; (with_reducible refine (surtitlelaw3_fine.calls t110 true _ A30.out).mono ?_); rintro e w' ⟨rfl, ⟨nd, rfl⟩⟩) | (go_at_call 33; (with_reducible refine (surtitlelaw3_fine.calls t112 true _ A32.out).mono ?_); rintro e w' ⟨rfl, ⟨nd, rfl⟩⟩))
                                    go_ret
                                    exact ⟨by first | rfl | (simp [errW_none, errW_some] <;> rfl) | (simp [*, errW_none, errW_some] <;> rfl), by repeat (first | (with_reducible first | exact HB.out | apply below_alloc | apply pw_below_drewN | apply below_drew1 | refine below_set ?_ GE105.out) | exact HB.out)⟩
                                · replace c33 := Bool.eq_false_iff.mpr c33
                                  subst c33
                                  have H1 : (some false) = some r := by rw [if_neg (show ¬ (false = true) by decide)] at H; exact H
                                  clear H
                                  have H := H1
                                  clear H1
                                  obtain rfl := Option.some.inj H
                                  have hcz54_0 : wc.cell? ⟨gb105, 0, none⟩ = some (.int .i64 t102) := (blk_cell BK105.out 0).trans rfl
                                  have hcz54_1 : wc.cell? ⟨gb105, 1, none⟩ = some (.int .i64 t103) := (blk_cell BK105.out 1).trans rfl
                                  have hfz54_0 := blk_frozen BK105.out 0
                                  have hfz54_1 := blk_frozen BK105.out 1
                                  go_wp2_with (first | ((with_reducible refine gate_callee (f := 40) rfl ?_); refine goesL_ (some 76) rfl rfl Tryd.func40 (by kernel_rfl) rfl #[.agg #[.int .i64 t102, .int .i64 t103], .int .i64 (wrap64 (a2)), .int .i64 1] rfl (by (try simp only [List.map_toArray, List.map_cons, List.map_nil]); first | done | rfl | (simp only [List.length_drop, List.length_take]; rfl)) ?_; (with_reducible refine (ratio_Whole.calls t102 t103 (wrap64 (a2)) 1 t107 t108 _ A25.out).mono ?_); rintro e w55 ⟨rfl, hb⟩; refine ⟨_, rfl, ?_⟩; replace BK105 := Aside0.mk (bb hb BK105.out); replace HB := Aside0.mk (below_step (bw HB.out) hb); (try clear hb); (try clear hb2); (try clear hk); (try clear hi); have hcz56_0 : w55.cell? ⟨gb105, 0, none⟩ = some (.int .i64 t102) := (blk_cell BK105.out 0).trans rfl; have hcz56_1 : w55.cell? ⟨gb105, 1, none⟩ = some (.int .i64 t103) := (blk_cell BK105.out 1).trans rfl; have hfz56_0 := blk_frozen BK105.out 0; have hfz56_1 := blk_frozen BK105.out 1) | ((with_reducible refine gate_callee (f := 40) rfl ?_); refine goesL_ (some 83) rfl rfl Tryd.func40 (by kernel_rfl) rfl #[.agg #[.int .i64 t102, .int .i64 t103], .int .i64 (wrap64 (a2)), .int .i64 3] rfl (by (try simp only [List.map_toArray, List.map_cons, List.map_nil]); first | done | rfl | (simp only [List.length_drop, List.length_take]; rfl)) ?_; (with_reducible refine (ratio_Whole.calls t102 t103 (wrap64 (a2)) 3 t109 t110 _ A26.out).mono ?_); rintro e w57 ⟨rfl, hb⟩; refine ⟨_, rfl, ?_⟩; replace BK105 := Aside0.mk (bb hb BK105.out); replace HB := Aside0.mk (below_step (bw HB.out) hb); (try clear hb); (try clear hb2); (try clear hk); (try clear hi); have hcz58_0 : w57.cell? ⟨gb105, 0, none⟩ = some (.int .i64 t102) := (blk_cell BK105.out 0).trans rfl; have hcz58_1 : w57.cell? ⟨gb105, 1, none⟩ = some (.int .i64 t103) := (blk_cell BK105.out 1).trans rfl; have hfz58_0 := blk_frozen BK105.out 0; have hfz58_1 := blk_frozen BK105.out 1) | ((with_reducible refine gate_callee (f := 40) rfl ?_); refine goesL_ (some 90) rfl rfl Tryd.func40 (by kernel_rfl) rfl #[.agg #[.int .i64 t102, .int .i64 t103], .int .i64 (wrap64 (a2)), .int .i64 2] rfl (by (try simp only [List.map_toArray, List.map_cons, List.map_nil]); first | done | rfl | (simp only [List.length_drop, List.length_take]; rfl)) ?_; (with_reducible refine (ratio_Whole.calls t102 t103 (wrap64 (a2)) 2 t111 t112 _ A27.out).mono ?_); rintro e w59 ⟨rfl, hb⟩; refine ⟨_, rfl, ?_⟩; replace BK105 := Aside0.mk (bb hb BK105.out); replace HB := Aside0.mk (below_step (bw HB.out) hb); (try clear hb); (try clear hb2); (try clear hk); (try clear hi)) | ((with_reducible refine gate_callee (f := 33) rfl ?_); refine goesL_ (some 94) rfl rfl Tryd.func33 (by kernel_rfl) rfl #[.int .i64 t108] rfl (by (try simp only [List.map_toArray, List.map_cons, List.map_nil]); first | done | rfl | (simp only [List.length_drop, List.length_take]; rfl)) ?_; (with_reducible refine (surtitlelaw3_fine.calls t108 true _ A28.out).mono ?_); rintro e w' ⟨rfl, ⟨nd, rfl⟩⟩; refine ⟨_, rfl, ?_⟩) | (go_at_call 33; (with_reducible refine (surtitlelaw3_fine.calls t110 true _ A30.out).mono ?_); rintro e w' ⟨rfl, ⟨nd, rfl⟩⟩) | (go_at_call 33; (with_reducible refine (surtitlelaw3_fine.calls t112 false _ A32.out).mono ?_); rintro e w' ⟨rfl, ⟨nd, rfl⟩⟩))
                                  go_ret
                                  exact ⟨by first | rfl | (simp [errW_none, errW_some] <;> rfl) | (simp [*, errW_none, errW_some] <;> rfl), by repeat (first | (with_reducible first | exact HB.out | apply below_alloc | apply pw_below_drewN | apply below_drew1 | refine below_set ?_ GE105.out) | exact HB.out)⟩
                              · replace c31 := Bool.eq_false_iff.mpr c31
                                subst c31
                                have H1 : (some false) = some r := by rw [if_neg (show ¬ (false = true) by decide)] at H; exact H
                                clear H
                                have H := H1
                                clear H1
                                obtain rfl := Option.some.inj H
                                have hcz60_0 : wc.cell? ⟨gb105, 0, none⟩ = some (.int .i64 t102) := (blk_cell BK105.out 0).trans rfl
                                have hcz60_1 : wc.cell? ⟨gb105, 1, none⟩ = some (.int .i64 t103) := (blk_cell BK105.out 1).trans rfl
                                have hfz60_0 := blk_frozen BK105.out 0
                                have hfz60_1 := blk_frozen BK105.out 1
                                go_wp2_with (first | ((with_reducible refine gate_callee (f := 40) rfl ?_); refine goesL_ (some 76) rfl rfl Tryd.func40 (by kernel_rfl) rfl #[.agg #[.int .i64 t102, .int .i64 t103], .int .i64 (wrap64 (a2)), .int .i64 1] rfl (by (try simp only [List.map_toArray, List.map_cons, List.map_nil]); first | done | rfl | (simp only [List.length_drop, List.length_take]; rfl)) ?_; (with_reducible refine (ratio_Whole.calls t102 t103 (wrap64 (a2)) 1 t107 t108 _ A25.out).mono ?_); rintro e w61 ⟨rfl, hb⟩; refine ⟨_, rfl, ?_⟩; replace BK105 := Aside0.mk (bb hb BK105.out); replace HB := Aside0.mk (below_step (bw HB.out) hb); (try clear hb); (try clear hb2); (try clear hk); (try clear hi); have hcz62_0 : w61.cell? ⟨gb105, 0, none⟩ = some (.int .i64 t102) := (blk_cell BK105.out 0).trans rfl; have hcz62_1 : w61.cell? ⟨gb105, 1, none⟩ = some (.int .i64 t103) := (blk_cell BK105.out 1).trans rfl; have hfz62_0 := blk_frozen BK105.out 0; have hfz62_1 := blk_frozen BK105.out 1) | ((with_reducible refine gate_callee (f := 40) rfl ?_); refine goesL_ (some 83) rfl rfl Tryd.func40 (by kernel_rfl) rfl #[.agg #[.int .i64 t102, .int .i64 t103], .int .i64 (wrap64 (a2)), .int .i64 3] rfl (by (try simp only [List.map_toArray, List.map_cons, List.map_nil]); first | done | rfl | (simp only [List.length_drop, List.length_take]; rfl)) ?_; (with_reducible refine (ratio_Whole.calls t102 t103 (wrap64 (a2)) 3 t109 t110 _ A26.out).mono ?_); rintro e w63 ⟨rfl, hb⟩; refine ⟨_, rfl, ?_⟩; replace BK105 := Aside0.mk (bb hb BK105.out); replace HB := Aside0.mk (below_step (bw HB.out) hb); (try clear hb); (try clear hb2); (try clear hk); (try clear hi); have hcz64_0 : w63.cell? ⟨gb105, 0, none⟩ = some (.int .i64 t102) := (blk_cell BK105.out 0).trans rfl; have hcz64_1 : w63.cell? ⟨gb105, 1, none⟩ = some (.int .i64 t103) := (blk_cell BK105.out 1).trans rfl; have hfz64_0 := blk_frozen BK105.out 0; have hfz64_1 := blk_frozen BK105.out 1) | ((with_reducible refine gate_callee (f := 40) rfl ?_); refine goesL_ (some 90) rfl rfl Tryd.func40 (by kernel_rfl) rfl #[.agg #[.int .i64 t102, .int .i64 t103], .int .i64 (wrap64 (a2)), .int .i64 2] rfl (by (try simp only [List.map_toArray, List.map_cons, List.map_nil]); first | done | rfl | (simp only [List.length_drop, List.length_take]; rfl)) ?_; (with_reducible refine (ratio_Whole.calls t102 t103 (wrap64 (a2)) 2 t111 t112 _ A27.out).mono ?_); rintro e w65 ⟨rfl, hb⟩; refine ⟨_, rfl, ?_⟩; replace BK105 := Aside0.mk (bb hb BK105.out); replace HB := Aside0.mk (below_step (bw HB.out) hb); (try clear hb); (try clear hb2); (try clear hk); (try clear hi)) | ((with_reducible refine gate_callee (f := 33) rfl ?_); refine goesL_ (some 94) rfl rfl Tryd.func33 (by kernel_rfl) rfl #[.int .i64 t108] rfl (by (try simp only [List.map_toArray, List.map_cons, List.map_nil]); first | done | rfl | (simp only [List.length_drop, List.length_take]; rfl)) ?_; (with_reducible refine (surtitlelaw3_fine.calls t108 true _ A28.out).mono ?_); rintro e w' ⟨rfl, ⟨nd, rfl⟩⟩; refine ⟨_, rfl, ?_⟩) | (go_at_call 33; (with_reducible refine (surtitlelaw3_fine.calls t110 false _ A30.out).mono ?_); rintro e w' ⟨rfl, ⟨nd, rfl⟩⟩))
                                go_ret
                                exact ⟨by first | rfl | (simp [errW_none, errW_some] <;> rfl) | (simp [*, errW_none, errW_some] <;> rfl), by repeat (first | (with_reducible first | exact HB.out | apply below_alloc | apply pw_below_drewN | apply below_drew1 | refine below_set ?_ GE105.out) | exact HB.out)⟩
                            · replace c29 := Bool.eq_false_iff.mpr c29
                              subst c29
                              have H1 : (some false) = some r := by rw [if_neg (show ¬ (false = true) by decide)] at H; exact H
                              clear H
                              have H := H1
                              clear H1
                              obtain rfl := Option.some.inj H
                              have hcz66_0 : wc.cell? ⟨gb105, 0, none⟩ = some (.int .i64 t102) := (blk_cell BK105.out 0).trans rfl
                              have hcz66_1 : wc.cell? ⟨gb105, 1, none⟩ = some (.int .i64 t103) := (blk_cell BK105.out 1).trans rfl
                              have hfz66_0 := blk_frozen BK105.out 0
                              have hfz66_1 := blk_frozen BK105.out 1
                              go_wp2_with (first | ((with_reducible refine gate_callee (f := 40) rfl ?_); refine goesL_ (some 76) rfl rfl Tryd.func40 (by kernel_rfl) rfl #[.agg #[.int .i64 t102, .int .i64 t103], .int .i64 (wrap64 (a2)), .int .i64 1] rfl (by (try simp only [List.map_toArray, List.map_cons, List.map_nil]); first | done | rfl | (simp only [List.length_drop, List.length_take]; rfl)) ?_; (with_reducible refine (ratio_Whole.calls t102 t103 (wrap64 (a2)) 1 t107 t108 _ A25.out).mono ?_); rintro e w67 ⟨rfl, hb⟩; refine ⟨_, rfl, ?_⟩; replace BK105 := Aside0.mk (bb hb BK105.out); replace HB := Aside0.mk (below_step (bw HB.out) hb); (try clear hb); (try clear hb2); (try clear hk); (try clear hi); have hcz68_0 : w67.cell? ⟨gb105, 0, none⟩ = some (.int .i64 t102) := (blk_cell BK105.out 0).trans rfl; have hcz68_1 : w67.cell? ⟨gb105, 1, none⟩ = some (.int .i64 t103) := (blk_cell BK105.out 1).trans rfl; have hfz68_0 := blk_frozen BK105.out 0; have hfz68_1 := blk_frozen BK105.out 1) | ((with_reducible refine gate_callee (f := 40) rfl ?_); refine goesL_ (some 83) rfl rfl Tryd.func40 (by kernel_rfl) rfl #[.agg #[.int .i64 t102, .int .i64 t103], .int .i64 (wrap64 (a2)), .int .i64 3] rfl (by (try simp only [List.map_toArray, List.map_cons, List.map_nil]); first | done | rfl | (simp only [List.length_drop, List.length_take]; rfl)) ?_; (with_reducible refine (ratio_Whole.calls t102 t103 (wrap64 (a2)) 3 t109 t110 _ A26.out).mono ?_); rintro e w69 ⟨rfl, hb⟩; refine ⟨_, rfl, ?_⟩; replace BK105 := Aside0.mk (bb hb BK105.out); replace HB := Aside0.mk (below_step (bw HB.out) hb); (try clear hb); (try clear hb2); (try clear hk); (try clear hi); have hcz70_0 : w69.cell? ⟨gb105, 0, none⟩ = some (.int .i64 t102) := (blk_cell BK105.out 0).trans rfl; have hcz70_1 : w69.cell? ⟨gb105, 1, none⟩ = some (.int .i64 t103) := (blk_cell BK105.out 1).trans rfl; have hfz70_0 := blk_frozen BK105.out 0; have hfz70_1 := blk_frozen BK105.out 1) | ((with_reducible refine gate_callee (f := 40) rfl ?_); refine goesL_ (some 90) rfl rfl Tryd.func40 (by kernel_rfl) rfl #[.agg #[.int .i64 t102, .int .i64 t103], .int .i64 (wrap64 (a2)), .int .i64 2] rfl (by (try simp only [List.map_toArray, List.map_cons, List.map_nil]); first | done | rfl | (simp only [List.length_drop, List.length_take]; rfl)) ?_; (with_reducible refine (ratio_Whole.calls t102 t103 (wrap64 (a2)) 2 t111 t112 _ A27.out).mono ?_); rintro e w71 ⟨rfl, hb⟩; refine ⟨_, rfl, ?_⟩; replace BK105 := Aside0.mk (bb hb BK105.out); replace HB := Aside0.mk (below_step (bw HB.out) hb); (try clear hb); (try clear hb2); (try clear hk); (try clear hi)) | ((with_reducible refine gate_callee (f := 33) rfl ?_); refine goesL_ (some 94) rfl rfl Tryd.func33 (by kernel_rfl) rfl #[.int .i64 t108] rfl (by (try simp only [List.map_toArray, List.map_cons, List.map_nil]); first | done | rfl | (simp only [List.length_drop, List.length_take]; rfl)) ?_; (with_reducible refine (surtitlelaw3_fine.calls t108 false _ A28.out).mono ?_); rintro e w' ⟨rfl, ⟨nd, rfl⟩⟩; refine ⟨_, rfl, ?_⟩))
                              go_ret
                              exact ⟨by first | rfl | (simp [errW_none, errW_some] <;> rfl) | (simp [*, errW_none, errW_some] <;> rfl), by repeat (first | (with_reducible first | exact HB.out | apply below_alloc | apply pw_below_drewN | apply below_drew1 | refine below_set ?_ GE105.out) | exact HB.out)⟩
      · replace c10 := Bool.eq_false_iff.mpr c10
        subst c10
        have H1 : (some false) = some r := by rw [if_neg (show ¬ (false = true) by decide)] at H; exact H
        clear H
        have H := H1
        clear H1
        obtain rfl := Option.some.inj H
        go_enter Tryd.func11, Tryd.ntmps11
        go_wp2_with (first | ((with_reducible refine gate_callee (f := 16) rfl ?_); refine goesL_ (some 19) rfl rfl Tryd.func16 (by kernel_rfl) rfl #[] rfl (by (try simp only [List.map_toArray, List.map_cons, List.map_nil]); first | done | rfl | (simp only [List.length_drop, List.length_take]; rfl)) ?_; (with_reducible refine (surtitlelaw3_known.calls  true _ A4.out).mono ?_); rintro e w72 ⟨rfl, hb⟩; refine ⟨_, rfl, ?_⟩; replace HB := Aside0.mk (below_step (bw HB.out) hb); (try clear hb); (try clear hb2); (try clear hk); (try clear hi)) | ((with_reducible refine gate_callee (f := 17) rfl ?_); refine goesL_ (some 28) rfl rfl Tryd.func17 (by kernel_rfl) rfl #[.int .i64 (wrap64 (a0)), .int .i64 (wrap64 (a1))] rfl (by (try simp only [List.map_toArray, List.map_cons, List.map_nil]); first | done | rfl | (simp only [List.length_drop, List.length_take]; rfl)) ?_; (with_reducible refine (ratio_New.calls (wrap64 (a0)) (wrap64 (a1)) t102 t103 t104 _ A8.out).mono ?_); rintro e w73 ⟨rfl, hb⟩; refine ⟨_, rfl, ?_⟩; replace HB := Aside0.mk (below_step (bw HB.out) hb); (try clear hb); (try clear hb2); (try clear hk); (try clear hi)) | ((with_reducible refine gate_dst (N := 7) rfl ?_); refine box_event ?hg (N := 7) ?hd (cs := #[.int .i64 0, .int .i64 0]) (t := 24) ?hr ?_; (case hd => rfl); (case hg => rfl); (case hr => first | (go_simp; done) | (go_simp; rfl)); intro gb105 hg w74 hbox hb; have BK105 := Aside0.mk (hbox); have GW105 := Aside0.mk (ge1 hg (bw HB.out)); have GE105 := Aside0.mk (ge1 hg (bw HB.out)); replace HB := Aside0.mk (below_step (bw HB.out) hb); clear hb hbox hg; have hcz75_0 : w74.cell? ⟨gb105, 0, none⟩ = some (.int .i64 0) := (blk_cell BK105.out 0).trans rfl; have hcz75_1 : w74.cell? ⟨gb105, 1, none⟩ = some (.int .i64 0) := (blk_cell BK105.out 1).trans rfl; have hfz75_0 := blk_frozen BK105.out 0; have hfz75_1 := blk_frozen BK105.out 1) | ((with_reducible refine gate_callee (f := 33) rfl ?_); refine goesL_ (some 32) rfl rfl Tryd.func33 (by kernel_rfl) rfl #[.int .i64 t104] rfl (by (try simp only [List.map_toArray, List.map_cons, List.map_nil]); first | done | rfl | (simp only [List.length_drop, List.length_take]; rfl)) ?_; (with_reducible refine (surtitlelaw3_fine.calls t104 false _ A9.out).mono ?_); rintro e w' ⟨rfl, ⟨nd, rfl⟩⟩; refine ⟨_, rfl, ?_⟩))
        go_ret
        exact ⟨by first | rfl | (simp [errW_none, errW_some] <;> rfl) | (simp [*, errW_none, errW_some] <;> rfl), by repeat (first | (with_reducible first | exact HB.out | apply below_alloc | apply pw_below_drewN | apply below_drew1 | refine below_set ?_ GE105.out) | exact HB.out)⟩
  · replace c5 := Bool.eq_false_iff.mpr c5
    subst c5
    have H1 : (some false) = some r := by rw [if_neg (show ¬ (false = true) by decide)] at H; exact H
    clear H
    have H := H1
    clear H1
    obtain rfl := Option.some.inj H
    go_enter Tryd.func11, Tryd.ntmps11
    go_wp2_with (first | ((with_reducible refine gate_callee (f := 16) rfl ?_); refine goesL_ (some 19) rfl rfl Tryd.func16 (by kernel_rfl) rfl #[] rfl (by (try simp only [List.map_toArray, List.map_cons, List.map_nil]); first | done | rfl | (simp only [List.length_drop, List.length_take]; rfl)) ?_; (with_reducible refine (surtitlelaw3_known.calls  false _ A4.out).mono ?_); rintro e w76 ⟨rfl, hb⟩; refine ⟨_, rfl, ?_⟩; replace HB := Aside0.mk (below_step (bw HB.out) hb); (try clear hb); (try clear hb2); (try clear hk); (try clear hi)))
    go_ret
    exact ⟨by first | rfl | (simp [errW_none, errW_some] <;> rfl) | (simp [*, errW_none, errW_some] <;> rfl), by repeat (first | (with_reducible first | exact HB.out | apply below_alloc | apply pw_below_drewN | apply below_drew1) | exact HB.out)⟩

/-- THE ONE PURE STATEMENT of surtitlelaw3_RatioCounts: yours. -/
def surtitlelaw3_RatioCounts.Pure : Prop := ∀ (a0 : Int) (a1 : Int) (a2 : Int), (Lit.int .i32 a0).wf = true → (Lit.int .u16 a1).wf = true → (Lit.int .i16 a2).wf = true → ∃ k, surtitlelaw3_RatioCounts.f k a0 a1 a2 = some true
theorem surtitlelaw3_RatioCounts.walk (P : surtitlelaw3_RatioCounts.Pure) (a0 : Int) (a1 : Int) (a2 : Int) (w : World) (w0 : (Lit.int .i32 a0).wf = true) (w1 : (Lit.int .u16 a1).wf = true) (w2 : (Lit.int .i16 a2).wf = true) :
    Calls Tryd.prog 11 #[.int .i32 a0, .int .u16 a1, .int .i16 a2] w fun e w' => e = .returned (.bool true) ∧ Below w.heap.size w w' := by
  obtain ⟨k, h⟩ := P a0 a1 a2 w0 w1 w2
  refine (surtitlelaw3_RatioCounts.calls k a0 a1 a2 true w h).mono ?_
  rintro e w' ⟨rfl, hd⟩
  exact ⟨rfl, hd⟩

end Go.Proofs.YtofndakpenpkbaaDoor.LCnt
