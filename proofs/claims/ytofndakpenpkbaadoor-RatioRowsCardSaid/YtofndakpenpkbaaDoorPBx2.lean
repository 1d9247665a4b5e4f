-- made by wip/pp2.py out of the translation, over contracts of my own
import Derived.Test.YtofndakpenpkbaaDoorProg
import Derived.Below
import Derived.Deep.Draws
import Derived.Deep.AppendLies
import Derived.Maps.AppendAt
import Derived.OwnWalk
import Derived.Laws.BytesArg
import Derived.Laws.MakeOwn
import Derived.Laws.OwnMore
import Derived.Deep.OwnRows
import Derived.Tactics
import Derived.Lib.ConvBytes
import Derived.Laws.Slices
import Derived.WalkKit
import Derived.KernelRfl
import Derived.RowKit3
import Derived.Deep.LoopGhost
import Derived.Deep.QuietTactic
import Derived.BigQuiet
import Derived.WideLaws
import Derived.Deep.DeepCutAuto
import Derived.Deep.CutBlock
import Derived.Deep.RegionHeld3
import Derived.Laws.Rows
import Derived.Lib.AppendStr
import Derived.ArgAppend
import Derived.Laws.IdiomCopy
import Derived.OrdersHeld
import Derived.Laws.BitsLemmas
import Derived.RowKit
import Derived.Test.YtofndakpenpkbaaDoorRefL
import Derived.Test.YtofndakpenpkbaaDoorRefS
import Derived.Test.YtofndakpenpkbaaDoorPSnx1
import Derived.Test.YtofndakpenpkbaaDoorXW
namespace Go.Proofs.YtofndakpenpkbaaDoor.PB
open Go.Proofs.YtofndakpenpkbaaDoor.PA Go.Proofs.YtofndakpenpkbaaDoor.PR Go.Proofs.YtofndakpenpkbaaDoor.PO Go.Proofs.YtofndakpenpkbaaDoor.PP Go.Proofs.YtofndakpenpkbaaDoor.PL Go.Proofs.YtofndakpenpkbaaDoor.PS Go.Proofs.YtofndakpenpkbaaDoor.PSn
open Go.RowKit Go.Proofs.YtofndakpenpkbaaDoorW.PrintWords Go.Proofs.YtofndakpenpkbaaDoorW.PrintLast Go.Proofs.YtofndakpenpkbaaDoorW.PrintMore
set_option linter.unusedVariables false
set_option linter.unusedSimpArgs false



def errW : Option Int → Value
  | none => .nilIface
  | some c => .iface 0 (.int .i64 c)
theorem errW_none : errW none = .nilIface := rfl
theorem errW_some (c : Int) : errW (some c) = .iface 0 (.int .i64 c) := rfl


end Go.Proofs.YtofndakpenpkbaaDoor.PB

namespace Go.Proofs.YtofndakpenpkbaaDoor.PB
open Go.Proofs.YtofndakpenpkbaaDoor.PA Go.Proofs.YtofndakpenpkbaaDoor.PR Go.Proofs.YtofndakpenpkbaaDoor.PO Go.Proofs.YtofndakpenpkbaaDoor.PP Go.Proofs.YtofndakpenpkbaaDoor.PL Go.Proofs.YtofndakpenpkbaaDoor.PS Go.Proofs.YtofndakpenpkbaaDoor.PSn
open Go.RowKit Go.Proofs.YtofndakpenpkbaaDoorW.PrintWords Go.Proofs.YtofndakpenpkbaaDoorW.PrintLast Go.Proofs.YtofndakpenpkbaaDoorW.PrintMore
set_option linter.unusedVariables false
set_option linter.unusedSimpArgs false

/-! ### surtitleref3_Add: function 22: told elsewhere -/

/-! ### surtitleref3_Sum: function 35 -/
def surtitleref3_Sum.l0 : Nat → List (PSn.S24) → Int → Int → Int → Option (Int × Int × Int)
  | 0, _, _, _, _ => none
  | k + 1, x0, x5, x103000, x103001 => if x5 < (x0.length : Int) then (if 0 ≤ x5 then ((surtitleref3_Add.f k x103000 x103001 ((PSn.rd_T24 x0 x5).f0) ((PSn.rd_T24 x0 x5).f1)).bind fun bt104 => (if bt104.2.2 = 0 then (surtitleref3_Sum.l0 k x0 (wrap64 (x5 + 1)) bt104.1 bt104.2.1) else (some (0, 0, bt104.2.2)))) else (none)) else (some (x103000, x103001, 0))
def surtitleref3_Sum.f (k : Nat) (l0 : List (PSn.S24)) : Option (Int × Int × Int) := surtitleref3_Sum.l0 k l0 0 0 1
def surtitleref3_Sum.T5 : Bool × List (List Nat × List Nat) := (true, [([], []), ([], []), ([], []), ([1, 2], [1, 2]), ([3], [3]), ([0, 4], [0, 4]), ([5], [5]), ([6], [6]), ([6], [6]), ([], []), ([9, 7, 5, 0, 1, 2, 3, 4, 5, 6, 7, 9], [7, 9]), ([8, 10, 0, 1, 2, 3, 4, 5, 6, 7, 8, 9, 10], [8])])
def surtitleref3_Sum.B5 : List Nat := [0, 0, 0, 6, 14, 31, 63, 127, 127, 0, 767, 2047]
theorem surtitleref3_Sum.tab5 : rtab .any (opsOf Tryd.f35 5) = surtitleref3_Sum.T5 := by kernel_rfl
theorem surtitleref3_Sum.bits5 : waitsOk surtitleref3_Sum.T5.2 surtitleref3_Sum.B5 = true := by kernel_rfl
set_option maxHeartbeats 8000000 in
set_option maxRecDepth 100000 in
theorem surtitleref3_Sum.calls (k : Nat) (A0 : Option Addr) (c0 : Nat) (l0 : List (PSn.S24)) (r1 : Int) (r2 : Int) (r3 : Int) (w : World) (hr0 : Kd.C PSn.k24 w A0 l0.length l0) (hc0 : l0.length ≤ c0) (h : surtitleref3_Sum.f k l0 = some (r1, r2, r3)) :
    Calls Tryd.prog 35 #[.slice A0 l0.length c0] w fun e w' => e = .returned (.tuple #[.agg #[.int .i64 r1, .int .i64 r2], .int .i64 r3]) ∧ Below w.heap.size w w' := by
  have hu24 := Tryd.underlying24
  have HR0 := Aside0.mk hr0
  have HC0 := Aside0.mk hc0
  clear hr0 hc0
  have HB := Aside0.mk (Below.refl w.heap.size w)
  have H : (surtitleref3_Sum.l0 k l0 0 0 1) = some (r1, r2, r3) := h
  clear h
  have H' := Aside0.mk H
  clear H
  go_enter Tryd.func35, Tryd.ntmps35
  go_wp2_with (first | ((with_reducible refine gate_dst (N := 2) rfl ?_); refine box_event ?hg (N := 2) ?hd (cs := #[.int .i64 0, .int .i64 0]) (t := 24) ?hr ?_; (case hd => rfl); (case hg => rfl); (case hr => first | (go_simp; done) | (go_simp; rfl)); intro gb101 hg w2 hbox hb; have BK101 := Aside0.mk (hbox); have GW101 := ag hg HB; have GE101 := ag hg HB; replace HB := hs hb HB; clear hb hbox hg) | ((with_reducible refine gate_dst (N := 4) rfl ?_); refine box_event ?hg (N := 4) ?hd (cs := #[.int .i64 0, .int .i64 0]) (t := 24) ?hr ?_; (case hd => rfl); (case hg => rfl); (case hr => first | (go_simp; done) | (go_simp; rfl)); intro gb102 hg w3 hbox hb; have BK102 := Aside0.mk (hbox); have GW102 := ag hg HB; have GE102 := ag hg HB; have NB101_102 := na hg BK101; have NB102_101 := nb hg BK101; replace BK101 := ab hb BK101; replace HB := hs hb HB; clear hb hbox hg; have hnb4 := NB102_101.out; have hnc4 := NB101_102.out; obtain ⟨hcz5_0, hcz5_1, hfz5_0, hfz5_1⟩ := k2 BK102.out))
  go_loopg [5] k (fun kq v5 w' => ∃ (x5_1 : Int) (x102000_1 : Int) (x102001_1 : Int) (x103000_1 : Int) (x103001_1 : Int), v5 = .int .i64 x5_1 ∧ Aside0 (surtitleref3_Sum.l0 kq l0 x5_1 x103000_1 x103001_1 = some (r1, r2, r3)) ∧ Aside0 (kq ≤ k) ∧ Aside0 (w'.heap[gb101]? = some (.cells #[.int .i64 x102000_1, .int .i64 x102001_1] 24 (0, 0))) ∧ Aside0 (w'.heap[gb102]? = some (.cells #[.int .i64 x103000_1, .int .i64 x103001_1] 24 (0, 0))) ∧ Aside0 (Below w.heap.size w w'))
  case atStart => exact ⟨(0), (0), (0), (0), (1), (by first | rfl | (simp; done) | (simp [*]; done)), H', ⟨Nat.le_refl _⟩, ⟨by refine bk ?_; exact BK101.out⟩, ⟨by refine bk ?_; refine blk_put (cs := #[.int .i64 0, .int .i64 0]) ?_ 1 _ rfl; refine bk ?_; refine blk_put (cs := #[.int .i64 0, .int .i64 0]) ?_ 0 _ rfl; refine bk ?_; exact BK102.out⟩, ⟨by repeat (first | (with_reducible first | exact HB.out | apply below_alloc | apply pw_below_drewN | apply below_drew1 | refine below_set ?_ GE101.out | refine below_set ?_ GE102.out) | exact HB.out)⟩⟩
  case round =>
    clear H'
    try clear hcz5_0
    try clear hcz5_1
    try clear hfz5_0
    try clear hfz5_1
    obtain ⟨x5_1, x102000_1, x102001_1, x103000_1, x103001_1, rfl, HA, HK1, BK101, BK102, HB⟩ := hrel
    obtain _ | k1 := gk
    · exact absurd HA.out (by simp [surtitleref3_Sum.l0])
    have H := HA.out
    clear HA
    simp only [surtitleref3_Sum.l0] at H
    by_cases c6 : x5_1 < (l0.length : Int)
    · rw [if_pos c6] at H
      have c6b0 : decide (x5_1 < (l0.length : Int)) = true := decide_eq_true c6
      clear c6
      by_cases c7 : 0 ≤ x5_1
      · rw [if_pos c7] at H
        have c7b0 : decide (0 ≤ x5_1) = true := decide_eq_true c7
        clear c7
        replace H := Option.bind_eq_some_iff.mp H
        obtain ⟨⟨t104, t105, t106⟩, A80, H⟩ := H
        replace H : (if t106 = 0 then (surtitleref3_Sum.l0 k1 l0 (wrap64 (x5_1 + 1)) t104 t105) else (some (0, 0, t106))) = some (r1, r2, r3) := H
        have A8 := Aside0.mk A80
        clear A80
        by_cases c9 : t106 = 0
        · rw [if_pos c9] at H
          have c9b0 : (t106 == 0) = true := beq_iff_eq.mpr c9
          have c9b1 : (t106 != 0) = false := bne_eq_false_iff_eq.mpr c9
          clear c9
          have H' := Aside0.mk H
          clear H
          try go_wp2
          have n0_ := Aside0.mk (blk_drew BK101.out)
          have n1_ := Aside0.mk (blk_drew BK102.out)
          have n2_ := Aside0.mk (below_drew1 HB.out)
          clear BK101
          clear BK102
          clear HB
          have BK101 := n0_
          have BK102 := n1_
          have HB := n2_
          clear n0_ n1_ n2_
          have p103 : 0 ≤ (x5_1 : Int) := of_decide_eq_true (by first | (with_reducible assumption) | assumption)
          have q103 : x5_1 < (l0.length : Int) := of_decide_eq_true (by first | (with_reducible assumption) | assumption)
          obtain ⟨ad103, e103, hx103_0, hx103_1⟩ := PSn.at_T24 HR0.out x5_1 p103 q103
          have hw103_1 := hx103_1
          have hw103_0 := hx103_0
          cases e103
          replace hx103_0 := (HB.out.cell (World.block_lt_of_cell? w _ hx103_0)).trans hx103_0
          replace hx103_1 := (HB.out.cell (World.block_lt_of_cell? w _ hx103_1)).trans hx103_1
          replace p103 := eq_true p103
          replace q103 := eq_true q103
          refine start_ (n := 12) (S := fun w' => w'.cell? ⟨gb102, 0, none⟩ = some (.int .i64 x103000_1) ∧ w'.cell? ⟨gb102, 1, none⟩ = some (.int .i64 x103001_1) ∧ w'.cell? (ad103.add ((x5_1).toNat * 2)) = some (.int .i64 ((PSn.rd_T24 l0 x5_1).f0)) ∧ w'.cell? ⟨(ad103.add ((x5_1).toNat * 2)).block, (ad103.add ((x5_1).toNat * 2)).off + 1, none⟩ = some (.int .i64 ((PSn.rd_T24 l0 x5_1).f1))) (ds := []) #[false, false, false, false, false, false, false, false, false, false, false, false] (by kernel_rfl) rfl rfl ⟨zc0 BK102.out, zc1 BK102.out, ((HB.out.cell (World.block_lt_of_cell? w _ hw103_0)).trans hw103_0), ((HB.out.cell (World.block_lt_of_cell? w _ hw103_1)).trans hw103_1)⟩ (fun hHeld => ?_); refine with_tabW surtitleref3_Sum.tab5 surtitleref3_Sum.bits5 (fun HT_ HW_ => ?_)
          generalize wr.drew = w10 at BK101 BK102 HB hx103_0 hx103_1 hHeld ⊢
          refine pure_ (i := 1) (N := some 17) (v := ?_) (a' := ?_) #[false, true, false, false, false, false, false, false, false, false, false, false] rfl rfl (any_of HT_.out (by kernel_rfl)) (fun _ _ _ h => h) (Or.inl ⟨by rfl, ?_⟩) ?_ ?_
          rotate_left
          · intro w'
            go_simp
            with_reducible rfl
          rotate_left
          · simp only [Act.put, List.setIfInBounds_toArray, List.set_cons_zero, List.set_cons_succ, i64_w, i32_w]
            rfl
          refine pure_ (i := 2) (N := some 18) (v := ?_) (a' := ?_) #[false, true, true, false, false, false, false, false, false, false, false, false] rfl rfl (any_of HT_.out (by kernel_rfl)) (fun _ _ _ h => h) (Or.inl ⟨by rfl, ?_⟩) ?_ ?_
          rotate_left
          · intro w'
            go_simp
            with_reducible rfl
          rotate_left
          · simp only [Act.put, List.setIfInBounds_toArray, List.set_cons_zero, List.set_cons_succ, i64_w, i32_w]
            rfl
          refine pure_ (i := 3) (N := some 19) (v := ?_) (a' := ?_) #[false, true, true, true, false, false, false, false, false, false, false, false] rfl rfl (any_of HT_.out (by kernel_rfl)) (fun _ _ _ h => h) (Or.inl ⟨by rfl, ?_⟩) ?_ ?_
          rotate_left
          · intro w'
            go_simp
            with_reducible rfl
          rotate_left
          · simp only [Act.put, List.setIfInBounds_toArray, List.set_cons_zero, List.set_cons_succ, i64_w, i32_w]
            rfl
          refine take_ (i := 0) (N := some 16) (v := ?_) (a' := ?_) #[true, true, true, true, false, false, false, false, false, false, false, false] rfl rfl (take_ofW HT_.out HW_.out (by kernel_rfl)) (fun _ _ _ h => h) (Or.inl ⟨by rfl, ?_⟩) hHeld ?_ ?_
          rotate_left
          · rintro w' ⟨s0, s1, s2, s3⟩
            go_simp
            with_reducible rfl
          rotate_left
          · simp only [Act.put, List.setIfInBounds_toArray, List.set_cons_zero, List.set_cons_succ, i64_w, i32_w]
            rfl
          refine take_ (i := 4) (N := some 20) (v := ?_) (a' := ?_) #[true, true, true, true, true, false, false, false, false, false, false, false] rfl rfl (take_ofW HT_.out HW_.out (by kernel_rfl)) (fun _ _ _ h => h) (Or.inl ⟨by rfl, ?_⟩) hHeld ?_ ?_
          rotate_left
          · rintro w' ⟨s0, s1, s2, s3⟩
            go_simp
            with_reducible rfl
          rotate_left
          · simp only [Act.put, List.setIfInBounds_toArray, List.set_cons_zero, List.set_cons_succ, i64_w, i32_w]
            rfl
          refine join_ (σ := Nat) 2 #[true, true, true, true, true, true, true, true, true, true, false, false] (fun s_ => [(21, .tuple #[.agg #[.int .i64 t104, .int .i64 t105], .int .i64 t106]), (6, .pointer (some ⟨s_, 0, none⟩)), (15, .tuple #[.agg #[.int .i64 t104, .int .i64 t105], .int .i64 t106]), (22, .agg #[.int .i64 t104, .int .i64 t105]), (23, .int .i64 t106)]) (fun s_ w' => (w'.cell? ⟨gb102, 0, none⟩ = some (.int .i64 x103000_1) ∧ w'.cell? ⟨gb102, 1, none⟩ = some (.int .i64 x103001_1) ∧ w'.cell? (ad103.add ((x5_1).toNat * 2)) = some (.int .i64 ((PSn.rd_T24 l0 x5_1).f0)) ∧ w'.cell? ⟨(ad103.add ((x5_1).toNat * 2)).block, (ad103.add ((x5_1).toNat * 2)).off + 1, none⟩ = some (.int .i64 ((PSn.rd_T24 l0 x5_1).f1))) ∧ (w'.heap[gb101]? = some (.cells #[.int .i64 x102000_1, .int .i64 x102001_1] 24 (0, 0))) ∧ (w'.heap[gb102]? = some (.cells #[.int .i64 x103000_1, .int .i64 x103001_1] 24 (0, 0))) ∧ (w'.heap[s_]? = some (.cells #[.int .i64 0, .int .i64 0] 24 (0, 0))) ∧ (w.heap.size ≤ s_) ∧ (w.heap.size ≤ s_) ∧ (gb101 ≠ s_) ∧ (s_ ≠ gb101) ∧ (gb102 ≠ s_) ∧ (s_ ≠ gb102) ∧ (Below w.heap.size w w')) ?_ ?_
          rotate_left
          · intro hCont
            refine two_ (i := 5) (j := 9) (Ni := some 21) (Nj := some 6) #[true, true, true, true, true, true, false, false, false, false, false, false] #[true, true, true, true, true, false, false, false, false, true, false, false] rfl rfl rfl rfl (two_of HT_.out (by kernel_rfl)) (by decide) (by decide) (fun K hK => ?_) (fun K hK => ?_)
            · skip
              refine goes_ Tryd.func22 (by kernel_rfl) rfl #[.agg #[.int .i64 x103000_1, .int .i64 x103001_1], .agg #[.int .i64 ((PSn.rd_T24 l0 x5_1).f0), .int .i64 ((PSn.rd_T24 l0 x5_1).f1)]] (by rfl) rfl rfl (by (try simp only [List.map_toArray, List.map_cons, List.map_nil]); first | done | rfl | (simp only [List.length_drop, List.length_take]; rfl)) ?_
              with_reducible refine (surtitleref3_Add.calls k1 x103000_1 x103001_1 ((PSn.rd_T24 l0 x5_1).f0) ((PSn.rd_T24 l0 x5_1).f1) t104 t105 t106 _ A8.out).mono ?_
              rintro e w11 ⟨rfl, hb⟩
              refine ⟨_, rfl, ?_⟩
              have n0_ := ab hb BK101
              have n1_ := ab hb BK102
              have n2_ := hs hb HB
              clear BK101
              clear BK102
              clear HB
              have BK101 := n0_
              have BK102 := n1_
              have HB := n2_
              clear n0_ n1_ n2_
              (try clear hb)
              (try clear hb2)
              (try clear hk)
              (try clear hi)
              refine hK.out _ _ ⟨zc0 BK102.out, zc1 BK102.out, ((HB.out.cell (World.block_lt_of_cell? w _ hw103_0)).trans hw103_0), ((HB.out.cell (World.block_lt_of_cell? w _ hw103_1)).trans hw103_1)⟩ (fun hHeld => ?_)
              clear hK K
              refine norm_ (a' := ?_) ?_ ?_
              rotate_left
              · show Act.put _ (some 21) _ = _
                simp only [Act.put, List.setIfInBounds_toArray, List.set_cons_zero, List.set_cons_succ, i64_w, i32_w]
                rfl
              refine pure_ (i := 6) (N := some 15) (v := ?_) (a' := ?_) #[true, true, true, true, true, true, true, false, false, false, false, false] rfl rfl (any_of HT_.out (by kernel_rfl)) (fun _ _ _ h => h) (Or.inl ⟨by rfl, ?_⟩) ?_ ?_
              rotate_left
              · intro w'
                go_simp
                with_reducible rfl
              rotate_left
              · simp only [Act.put, List.setIfInBounds_toArray, List.set_cons_zero, List.set_cons_succ, i64_w, i32_w]
                rfl
              refine pure_ (i := 7) (N := some 22) (v := ?_) (a' := ?_) #[true, true, true, true, true, true, true, true, false, false, false, false] rfl rfl (any_of HT_.out (by kernel_rfl)) (fun _ _ _ h => h) (Or.inl ⟨by rfl, ?_⟩) ?_ ?_
              rotate_left
              · intro w'
                go_simp
                with_reducible rfl
              rotate_left
              · simp only [Act.put, List.setIfInBounds_toArray, List.set_cons_zero, List.set_cons_succ, i64_w, i32_w]
                rfl
              refine pure_ (i := 8) (N := some 23) (v := ?_) (a' := ?_) #[true, true, true, true, true, true, true, true, true, false, false, false] rfl rfl (any_of HT_.out (by kernel_rfl)) (fun _ _ _ h => h) (Or.inl ⟨by rfl, ?_⟩) ?_ ?_
              rotate_left
              · intro w'
                go_simp
                with_reducible rfl
              rotate_left
              · simp only [Act.put, List.setIfInBounds_toArray, List.set_cons_zero, List.set_cons_succ, i64_w, i32_w]
                rfl
              refine one_ (i := 9) (N := some 6) #[true, true, true, true, true, true, true, true, true, true, false, false] rfl rfl (one_of HT_.out (by kernel_rfl)) (by decide) (fun K hK => ?_)
              refine box_step ?hg (N := 6) ?hd (cs := #[.int .i64 0, .int .i64 0]) (t := 24) ?hr ?_; (case hd => rfl); (case hg => rfl); (case hr => first | (go_simp; done) | (go_simp; rfl))
              intro gb107 hg w12 hbox hb
              have n0_ := ab hb BK101
              have n1_ := ab hb BK102
              have n2_ := hs hb HB
              have n3_ := Aside0.mk (hbox)
              have n4_ := ag hg HB
              have n5_ := ag hg HB
              have n6_ := na hg BK101
              have n7_ := nb hg BK101
              have n8_ := na hg BK102
              have n9_ := nb hg BK102
              clear BK101
              clear BK102
              clear HB
              have BK101 := n0_
              have BK102 := n1_
              have HB := n2_
              have BK107 := n3_
              have GW107 := n4_
              have GE107 := n5_
              have NB101_107 := n6_
              have NB107_101 := n7_
              have NB102_107 := n8_
              have NB107_102 := n9_
              clear n0_ n1_ n2_ n3_ n4_ n5_ n6_ n7_ n8_ n9_
              clear hb hbox hg
              refine hK.out _ _ ⟨zc0 BK102.out, zc1 BK102.out, ((HB.out.cell (World.block_lt_of_cell? w _ hw103_0)).trans hw103_0), ((HB.out.cell (World.block_lt_of_cell? w _ hw103_1)).trans hw103_1)⟩ (fun hHeld => ?_)
              clear hK K
              refine norm_ (a' := ?_) ?_ ?_
              rotate_left
              · show Act.put _ (some 6) _ = _
                simp only [Act.put, List.setIfInBounds_toArray, List.set_cons_zero, List.set_cons_succ, i64_w, i32_w]
                rfl
              exact norm_ (by simp only [putAll, Act.put, List.setIfInBounds_toArray, List.set_cons_zero, List.set_cons_succ]) (hCont (gb107) _ ⟨hHeld, (bk BK101.out), (bk BK102.out), (bk BK107.out), GW107.out, GE107.out, NB101_107.out, NB107_101.out, NB102_107.out, NB107_102.out, (bw HB.out)⟩)
            skip
            refine box_step ?hg (N := 6) ?hd (cs := #[.int .i64 0, .int .i64 0]) (t := 24) ?hr ?_; (case hd => rfl); (case hg => rfl); (case hr => first | (go_simp; done) | (go_simp; rfl))
            intro gb107 hg w11 hbox hb
            have n0_ := ab hb BK101
            have n1_ := ab hb BK102
            have n2_ := hs hb HB
            have n3_ := Aside0.mk (hbox)
            have n4_ := ag hg HB
            have n5_ := ag hg HB
            have n6_ := na hg BK101
            have n7_ := nb hg BK101
            have n8_ := na hg BK102
            have n9_ := nb hg BK102
            clear BK101
            clear BK102
            clear HB
            have BK101 := n0_
            have BK102 := n1_
            have HB := n2_
            have BK107 := n3_
            have GW107 := n4_
            have GE107 := n5_
            have NB101_107 := n6_
            have NB107_101 := n7_
            have NB102_107 := n8_
            have NB107_102 := n9_
            clear n0_ n1_ n2_ n3_ n4_ n5_ n6_ n7_ n8_ n9_
            clear hb hbox hg
            refine hK.out _ _ ⟨zc0 BK102.out, zc1 BK102.out, ((HB.out.cell (World.block_lt_of_cell? w _ hw103_0)).trans hw103_0), ((HB.out.cell (World.block_lt_of_cell? w _ hw103_1)).trans hw103_1)⟩ (fun hHeld => ?_)
            clear hK K
            refine norm_ (a' := ?_) ?_ ?_
            rotate_left
            · show Act.put _ (some 6) _ = _
              simp only [Act.put, List.setIfInBounds_toArray, List.set_cons_zero, List.set_cons_succ, i64_w, i32_w]
              rfl
            refine one_ (i := 5) (N := some 21) #[true, true, true, true, true, true, false, false, false, true, false, false] rfl rfl (one_of HT_.out (by kernel_rfl)) (by decide) (fun K hK => ?_)
            refine goes_ Tryd.func22 (by kernel_rfl) rfl #[.agg #[.int .i64 x103000_1, .int .i64 x103001_1], .agg #[.int .i64 ((PSn.rd_T24 l0 x5_1).f0), .int .i64 ((PSn.rd_T24 l0 x5_1).f1)]] (by rfl) rfl rfl (by (try simp only [List.map_toArray, List.map_cons, List.map_nil]); first | done | rfl | (simp only [List.length_drop, List.length_take]; rfl)) ?_
            with_reducible refine (surtitleref3_Add.calls k1 x103000_1 x103001_1 ((PSn.rd_T24 l0 x5_1).f0) ((PSn.rd_T24 l0 x5_1).f1) t104 t105 t106 _ A8.out).mono ?_
            rintro e w12 ⟨rfl, hb⟩
            refine ⟨_, rfl, ?_⟩
            have n0_ := ab hb BK101
            have n1_ := ab hb BK102
            have n2_ := ab hb BK107
            have n3_ := hs hb HB
            clear BK101
            clear BK102
            clear BK107
            clear HB
            have BK101 := n0_
            have BK102 := n1_
            have BK107 := n2_
            have HB := n3_
            clear n0_ n1_ n2_ n3_
            (try clear hb)
            (try clear hb2)
            (try clear hk)
            (try clear hi)
            refine hK.out _ _ ⟨zc0 BK102.out, zc1 BK102.out, ((HB.out.cell (World.block_lt_of_cell? w _ hw103_0)).trans hw103_0), ((HB.out.cell (World.block_lt_of_cell? w _ hw103_1)).trans hw103_1)⟩ (fun hHeld => ?_)
            clear hK K
            refine norm_ (a' := ?_) ?_ ?_
            rotate_left
            · show Act.put _ (some 21) _ = _
              simp only [Act.put, List.setIfInBounds_toArray, List.set_cons_zero, List.set_cons_succ, i64_w, i32_w]
              rfl
            refine pure_ (i := 6) (N := some 15) (v := ?_) (a' := ?_) #[true, true, true, true, true, true, true, false, false, true, false, false] rfl rfl (any_of HT_.out (by kernel_rfl)) (fun _ _ _ h => h) (Or.inl ⟨by rfl, ?_⟩) ?_ ?_
            rotate_left
            · intro w'
              go_simp
              with_reducible rfl
            rotate_left
            · simp only [Act.put, List.setIfInBounds_toArray, List.set_cons_zero, List.set_cons_succ, i64_w, i32_w]
              rfl
            refine pure_ (i := 7) (N := some 22) (v := ?_) (a' := ?_) #[true, true, true, true, true, true, true, true, false, true, false, false] rfl rfl (any_of HT_.out (by kernel_rfl)) (fun _ _ _ h => h) (Or.inl ⟨by rfl, ?_⟩) ?_ ?_
            rotate_left
            · intro w'
              go_simp
              with_reducible rfl
            rotate_left
            · simp only [Act.put, List.setIfInBounds_toArray, List.set_cons_zero, List.set_cons_succ, i64_w, i32_w]
              rfl
            refine pure_ (i := 8) (N := some 23) (v := ?_) (a' := ?_) #[true, true, true, true, true, true, true, true, true, true, false, false] rfl rfl (any_of HT_.out (by kernel_rfl)) (fun _ _ _ h => h) (Or.inl ⟨by rfl, ?_⟩) ?_ ?_
            rotate_left
            · intro w'
              go_simp
              with_reducible rfl
            rotate_left
            · simp only [Act.put, List.setIfInBounds_toArray, List.set_cons_zero, List.set_cons_succ, i64_w, i32_w]
              rfl
            exact norm_ (by simp only [putAll, Act.put, List.setIfInBounds_toArray, List.set_cons_zero, List.set_cons_succ]) (hCont (gb107) _ ⟨hHeld, (bk BK101.out), (bk BK102.out), (bk BK107.out), GW107.out, GE107.out, NB101_107.out, NB107_101.out, NB102_107.out, NB107_102.out, (bw HB.out)⟩)
          rintro gb107 w13 ⟨hS_, h0_, h1_, h2_, h3_, h4_, h5_, h6_, h7_, h8_, h9_⟩
          have n0_ : Aside0 (w13.heap[gb101]? = some (.cells #[.int .i64 x102000_1, .int .i64 x102001_1] 24 (0, 0))) := ⟨h0_⟩
          have n1_ : Aside0 (w13.heap[gb102]? = some (.cells #[.int .i64 x103000_1, .int .i64 x103001_1] 24 (0, 0))) := ⟨h1_⟩
          have n2_ : Aside0 (w13.heap[gb107]? = some (.cells #[.int .i64 0, .int .i64 0] 24 (0, 0))) := ⟨h2_⟩
          have n3_ : Aside0 (w.heap.size ≤ gb107) := ⟨h3_⟩
          have n4_ : Aside0 (w.heap.size ≤ gb107) := ⟨h4_⟩
          have n5_ : Aside0 (gb101 ≠ gb107) := ⟨h5_⟩
          have n6_ : Aside0 (gb107 ≠ gb101) := ⟨h6_⟩
          have n7_ : Aside0 (gb102 ≠ gb107) := ⟨h7_⟩
          have n8_ : Aside0 (gb107 ≠ gb102) := ⟨h8_⟩
          have n9_ : Aside0 (Below w.heap.size w w13) := ⟨h9_⟩
          clear BK101
          clear BK102
          clear HB
          clear h0_ h1_ h2_ h3_ h4_ h5_ h6_ h7_ h8_ h9_
          have BK101 := n0_
          have BK102 := n1_
          have BK107 := n2_
          have GW107 := n3_
          have GE107 := n4_
          have NB101_107 := n5_
          have NB107_101 := n6_
          have NB102_107 := n7_
          have NB107_102 := n8_
          have HB := n9_
          clear n0_ n1_ n2_ n3_ n4_ n5_ n6_ n7_ n8_ n9_
          have hHeld : w13.cell? ⟨gb102, 0, none⟩ = some (.int .i64 x103000_1) ∧ w13.cell? ⟨gb102, 1, none⟩ = some (.int .i64 x103001_1) ∧ w13.cell? (ad103.add ((x5_1).toNat * 2)) = some (.int .i64 ((PSn.rd_T24 l0 x5_1).f0)) ∧ w13.cell? ⟨(ad103.add ((x5_1).toNat * 2)).block, (ad103.add ((x5_1).toNat * 2)).off + 1, none⟩ = some (.int .i64 ((PSn.rd_T24 l0 x5_1).f1)) := hS_
          refine norm_ (a' := ?_) ?_ ?_
          rotate_left
          · simp only [putAll, Act.put, List.setIfInBounds_toArray, List.set_cons_zero, List.set_cons_succ]
            rfl
          refine one_ (i := 10) (N := none) #[true, true, true, true, true, true, true, true, true, true, true, false] rfl rfl (one_of HT_.out (by kernel_rfl)) (by decide) (fun K hK => ?_)
          have hs14 : w13.cell? ⟨gb107, 0, none⟩ = some (.int .i64 0) := zc0 BK107.out
          have hfs14 := blk_frozen BK107.out 0
          have hns14_0 := NB101_107.out
          have hns14_1 := NB102_107.out
          have hms14_0 := NB107_101.out
          have hms14_1 := NB107_102.out
          have hs15 : w13.cell? ⟨gb107, 1, none⟩ = some (.int .i64 0) := zc1 BK107.out
          have hfs15 := blk_frozen BK107.out 1
          have hns15_0 := NB101_107.out
          have hns15_1 := NB102_107.out
          have hms15_0 := NB107_101.out
          have hms15_1 := NB107_102.out
          refine skip_ (w1 := ?_) (by rfl) rfl ?_ ?_
          rotate_left
          · go_simp
            rfl
          refine hK.out _ _ ⟨((cell_far (p := ⟨gb107, _, none⟩) NB102_107.out _).trans (((cell_far (p := ⟨gb107, _, none⟩) NB102_107.out _).trans (hHeld.1)))), ((cell_far (p := ⟨gb107, _, none⟩) NB102_107.out _).trans (((cell_far (p := ⟨gb107, _, none⟩) NB102_107.out _).trans (hHeld.2.1)))), ((cell_far (p := ⟨gb107, _, none⟩) (by first | exact Nat.ne_of_lt (Nat.lt_of_lt_of_le (by have := World.block_lt_of_cell? _ _ hw103_0; first | rwa [add_block] at this | exact this) GW107.out) | (rw [add_block]; exact Nat.ne_of_lt (Nat.lt_of_lt_of_le (by have := World.block_lt_of_cell? _ _ hw103_0; first | rwa [add_block] at this | exact this) GW107.out)) | (show (Addr.add _ _).block ≠ _; rw [add_block]; exact Nat.ne_of_lt (Nat.lt_of_lt_of_le (by have := World.block_lt_of_cell? _ _ hw103_0; first | rwa [add_block] at this | exact this) GW107.out)) | (dsimp only; exact Nat.ne_of_lt (Nat.lt_of_lt_of_le (by have := World.block_lt_of_cell? _ _ hw103_0; first | rwa [add_block] at this | exact this) GW107.out))) _).trans (((cell_far (p := ⟨gb107, _, none⟩) (by first | exact Nat.ne_of_lt (Nat.lt_of_lt_of_le (by have := World.block_lt_of_cell? _ _ hw103_0; first | rwa [add_block] at this | exact this) GW107.out) | (rw [add_block]; exact Nat.ne_of_lt (Nat.lt_of_lt_of_le (by have := World.block_lt_of_cell? _ _ hw103_0; first | rwa [add_block] at this | exact this) GW107.out)) | (show (Addr.add _ _).block ≠ _; rw [add_block]; exact Nat.ne_of_lt (Nat.lt_of_lt_of_le (by have := World.block_lt_of_cell? _ _ hw103_0; first | rwa [add_block] at this | exact this) GW107.out)) | (dsimp only; exact Nat.ne_of_lt (Nat.lt_of_lt_of_le (by have := World.block_lt_of_cell? _ _ hw103_0; first | rwa [add_block] at this | exact this) GW107.out))) _).trans (hHeld.2.2.1)))), ((cell_far (p := ⟨gb107, _, none⟩) (by first | exact Nat.ne_of_lt (Nat.lt_of_lt_of_le (by have := World.block_lt_of_cell? _ _ hw103_1; first | rwa [add_block] at this | exact this) GW107.out) | (rw [add_block]; exact Nat.ne_of_lt (Nat.lt_of_lt_of_le (by have := World.block_lt_of_cell? _ _ hw103_1; first | rwa [add_block] at this | exact this) GW107.out)) | (show (Addr.add _ _).block ≠ _; rw [add_block]; exact Nat.ne_of_lt (Nat.lt_of_lt_of_le (by have := World.block_lt_of_cell? _ _ hw103_1; first | rwa [add_block] at this | exact this) GW107.out)) | (dsimp only; exact Nat.ne_of_lt (Nat.lt_of_lt_of_le (by have := World.block_lt_of_cell? _ _ hw103_1; first | rwa [add_block] at this | exact this) GW107.out))) _).trans (((cell_far (p := ⟨gb107, _, none⟩) (by first | exact Nat.ne_of_lt (Nat.lt_of_lt_of_le (by have := World.block_lt_of_cell? _ _ hw103_1; first | rwa [add_block] at this | exact this) GW107.out) | (rw [add_block]; exact Nat.ne_of_lt (Nat.lt_of_lt_of_le (by have := World.block_lt_of_cell? _ _ hw103_1; first | rwa [add_block] at this | exact this) GW107.out)) | (show (Addr.add _ _).block ≠ _; rw [add_block]; exact Nat.ne_of_lt (Nat.lt_of_lt_of_le (by have := World.block_lt_of_cell? _ _ hw103_1; first | rwa [add_block] at this | exact this) GW107.out)) | (dsimp only; exact Nat.ne_of_lt (Nat.lt_of_lt_of_le (by have := World.block_lt_of_cell? _ _ hw103_1; first | rwa [add_block] at this | exact this) GW107.out))) _).trans (hHeld.2.2.2))))⟩ (fun hHeld => ?_)
          clear hK K
          refine pure_ (i := 11) (N := some 7) (v := ?_) (a' := ?_) #[true, true, true, true, true, true, true, true, true, true, true, true] rfl rfl (any_of HT_.out (by kernel_rfl)) (fun _ _ _ h => h) (Or.inl ⟨by rfl, ?_⟩) ?_ ?_
          rotate_left
          · intro w'
            go_simp
            with_reducible rfl
          rotate_left
          · simp only [Act.put, List.setIfInBounds_toArray, List.set_cons_zero, List.set_cons_succ, i64_w, i32_w]
            rfl
          refine done_ (done_of HT_.out (by kernel_rfl)) ?_
          have hnb16 := NB107_101.out
          have hnc16 := NB101_107.out
          have hnb17 := NB107_102.out
          have hnc17 := NB102_107.out
          obtain ⟨hcz18_0, hcz18_1, hfz18_0, hfz18_1⟩ := k2 BK107.out
          have hnb19 := NB102_101.out
          have hnc19 := NB101_102.out
          obtain ⟨hcz20_0, hcz20_1, hfz20_0, hfz20_1⟩ := k2 BK102.out
          try go_wp2
          go_roundg k1
          case measure => have := HK1.out; omega
          case rel => exact ⟨(wrap64 (x5_1 + 1)), (x102000_1), (x102001_1), (t104), (t105), (by first | rfl | (simp; done) | (simp [*]; done)), H', ⟨by have := HK1.out; omega⟩, ⟨by refine bk ?_; exact BK101.out⟩, ⟨by refine bk ?_; refine blk_put (cs := #[.int .i64 t104, .int .i64 x103001_1]) ?_ 1 _ rfl; refine bk ?_; refine blk_put (cs := #[.int .i64 x103000_1, .int .i64 x103001_1]) ?_ 0 _ rfl; refine bk ?_; exact BK102.out⟩, ⟨by repeat (first | (with_reducible first | exact HB.out | apply below_alloc | apply pw_below_drewN | apply below_drew1 | refine below_set ?_ GE101.out | refine below_set ?_ GE102.out | refine below_set ?_ GE107.out) | exact HB.out)⟩⟩
        rw [if_neg c9] at H
        have c9b0 : (t106 == 0) = false := beq_eq_false_iff_ne.mpr c9
        have c9b1 : (t106 != 0) = true := bne_iff_ne.mpr c9
        simp only [Option.some.injEq, Prod.mk.injEq] at H
        obtain ⟨rfl, rfl, rfl⟩ := H
        try go_wp2
        have n0_ := Aside0.mk (blk_drew BK101.out)
        have n1_ := Aside0.mk (blk_drew BK102.out)
        have n2_ := Aside0.mk (below_drew1 HB.out)
        clear BK101
        clear BK102
        clear HB
        have BK101 := n0_
        have BK102 := n1_
        have HB := n2_
        clear n0_ n1_ n2_
        have p103 : 0 ≤ (x5_1 : Int) := of_decide_eq_true (by first | (with_reducible assumption) | assumption)
        have q103 : x5_1 < (l0.length : Int) := of_decide_eq_true (by first | (with_reducible assumption) | assumption)
        obtain ⟨ad103, e103, hx103_0, hx103_1⟩ := PSn.at_T24 HR0.out x5_1 p103 q103
        have hw103_1 := hx103_1
        have hw103_0 := hx103_0
        cases e103
        replace hx103_0 := (HB.out.cell (World.block_lt_of_cell? w _ hx103_0)).trans hx103_0
        replace hx103_1 := (HB.out.cell (World.block_lt_of_cell? w _ hx103_1)).trans hx103_1
        replace p103 := eq_true p103
        replace q103 := eq_true q103
        refine start_ (n := 12) (S := fun w' => w'.cell? ⟨gb102, 0, none⟩ = some (.int .i64 x103000_1) ∧ w'.cell? ⟨gb102, 1, none⟩ = some (.int .i64 x103001_1) ∧ w'.cell? (ad103.add ((x5_1).toNat * 2)) = some (.int .i64 ((PSn.rd_T24 l0 x5_1).f0)) ∧ w'.cell? ⟨(ad103.add ((x5_1).toNat * 2)).block, (ad103.add ((x5_1).toNat * 2)).off + 1, none⟩ = some (.int .i64 ((PSn.rd_T24 l0 x5_1).f1))) (ds := []) #[false, false, false, false, false, false, false, false, false, false, false, false] (by kernel_rfl) rfl rfl ⟨zc0 BK102.out, zc1 BK102.out, ((HB.out.cell (World.block_lt_of_cell? w _ hw103_0)).trans hw103_0), ((HB.out.cell (World.block_lt_of_cell? w _ hw103_1)).trans hw103_1)⟩ (fun hHeld => ?_); refine with_tabW surtitleref3_Sum.tab5 surtitleref3_Sum.bits5 (fun HT_ HW_ => ?_)
        generalize wr.drew = w21 at BK101 BK102 HB hx103_0 hx103_1 hHeld ⊢
        refine pure_ (i := 1) (N := some 17) (v := ?_) (a' := ?_) #[false, true, false, false, false, false, false, false, false, false, false, false] rfl rfl (any_of HT_.out (by kernel_rfl)) (fun _ _ _ h => h) (Or.inl ⟨by rfl, ?_⟩) ?_ ?_
        rotate_left
        · intro w'
          go_simp
          with_reducible rfl
        rotate_left
        · simp only [Act.put, List.setIfInBounds_toArray, List.set_cons_zero, List.set_cons_succ, i64_w, i32_w]
          rfl
        refine pure_ (i := 2) (N := some 18) (v := ?_) (a' := ?_) #[false, true, true, false, false, false, false, false, false, false, false, false] rfl rfl (any_of HT_.out (by kernel_rfl)) (fun _ _ _ h => h) (Or.inl ⟨by rfl, ?_⟩) ?_ ?_
        rotate_left
        · intro w'
          go_simp
          with_reducible rfl
        rotate_left
        · simp only [Act.put, List.setIfInBounds_toArray, List.set_cons_zero, List.set_cons_succ, i64_w, i32_w]
          rfl
        refine pure_ (i := 3) (N := some 19) (v := ?_) (a' := ?_) #[false, true, true, true, false, false, false, false, false, false, false, false] rfl rfl (any_of HT_.out (by kernel_rfl)) (fun _ _ _ h => h) (Or.inl ⟨by rfl, ?_⟩) ?_ ?_
        rotate_left
        · intro w'
          go_simp
          with_reducible rfl
        rotate_left
        · simp only [Act.put, List.setIfInBounds_toArray, List.set_cons_zero, List.set_cons_succ, i64_w, i32_w]
          rfl
        refine take_ (i := 0) (N := some 16) (v := ?_) (a' := ?_) #[true, true, true, true, false, false, false, false, false, false, false, false] rfl rfl (take_ofW HT_.out HW_.out (by kernel_rfl)) (fun _ _ _ h => h) (Or.inl ⟨by rfl, ?_⟩) hHeld ?_ ?_
        rotate_left
        · rintro w' ⟨s0, s1, s2, s3⟩
          go_simp
          with_reducible rfl
        rotate_left
        · simp only [Act.put, List.setIfInBounds_toArray, List.set_cons_zero, List.set_cons_succ, i64_w, i32_w]
          rfl
        refine take_ (i := 4) (N := some 20) (v := ?_) (a' := ?_) #[true, true, true, true, true, false, false, false, false, false, false, false] rfl rfl (take_ofW HT_.out HW_.out (by kernel_rfl)) (fun _ _ _ h => h) (Or.inl ⟨by rfl, ?_⟩) hHeld ?_ ?_
        rotate_left
        · rintro w' ⟨s0, s1, s2, s3⟩
          go_simp
          with_reducible rfl
        rotate_left
        · simp only [Act.put, List.setIfInBounds_toArray, List.set_cons_zero, List.set_cons_succ, i64_w, i32_w]
          rfl
        refine join_ (σ := Nat) 2 #[true, true, true, true, true, true, true, true, true, true, false, false] (fun s_ => [(21, .tuple #[.agg #[.int .i64 t104, .int .i64 t105], .int .i64 t106]), (6, .pointer (some ⟨s_, 0, none⟩)), (15, .tuple #[.agg #[.int .i64 t104, .int .i64 t105], .int .i64 t106]), (22, .agg #[.int .i64 t104, .int .i64 t105]), (23, .int .i64 t106)]) (fun s_ w' => (w'.cell? ⟨gb102, 0, none⟩ = some (.int .i64 x103000_1) ∧ w'.cell? ⟨gb102, 1, none⟩ = some (.int .i64 x103001_1) ∧ w'.cell? (ad103.add ((x5_1).toNat * 2)) = some (.int .i64 ((PSn.rd_T24 l0 x5_1).f0)) ∧ w'.cell? ⟨(ad103.add ((x5_1).toNat * 2)).block, (ad103.add ((x5_1).toNat * 2)).off + 1, none⟩ = some (.int .i64 ((PSn.rd_T24 l0 x5_1).f1))) ∧ (w'.heap[gb101]? = some (.cells #[.int .i64 x102000_1, .int .i64 x102001_1] 24 (0, 0))) ∧ (w'.heap[gb102]? = some (.cells #[.int .i64 x103000_1, .int .i64 x103001_1] 24 (0, 0))) ∧ (w'.heap[s_]? = some (.cells #[.int .i64 0, .int .i64 0] 24 (0, 0))) ∧ (w.heap.size ≤ s_) ∧ (w.heap.size ≤ s_) ∧ (gb101 ≠ s_) ∧ (s_ ≠ gb101) ∧ (gb102 ≠ s_) ∧ (s_ ≠ gb102) ∧ (Below w.heap.size w w')) ?_ ?_
        rotate_left
        · intro hCont
          refine two_ (i := 5) (j := 9) (Ni := some 21) (Nj := some 6) #[true, true, true, true, true, true, false, false, false, false, false, false] #[true, true, true, true, true, false, false, false, false, true, false, false] rfl rfl rfl rfl (two_of HT_.out (by kernel_rfl)) (by decide) (by decide) (fun K hK => ?_) (fun K hK => ?_)
          · skip
            refine goes_ Tryd.func22 (by kernel_rfl) rfl #[.agg #[.int .i64 x103000_1, .int .i64 x103001_1], .agg #[.int .i64 ((PSn.rd_T24 l0 x5_1).f0), .int .i64 ((PSn.rd_T24 l0 x5_1).f1)]] (by rfl) rfl rfl (by (try simp only [List.map_toArray, List.map_cons, List.map_nil]); first | done | rfl | (simp only [List.length_drop, List.length_take]; rfl)) ?_
            with_reducible refine (surtitleref3_Add.calls k1 x103000_1 x103001_1 ((PSn.rd_T24 l0 x5_1).f0) ((PSn.rd_T24 l0 x5_1).f1) t104 t105 t106 _ A8.out).mono ?_
            rintro e w22 ⟨rfl, hb⟩
            refine ⟨_, rfl, ?_⟩
            have n0_ := ab hb BK101
            have n1_ := ab hb BK102
            have n2_ := hs hb HB
            clear BK101
            clear BK102
            clear HB
            have BK101 := n0_
            have BK102 := n1_
            have HB := n2_
            clear n0_ n1_ n2_
            (try clear hb)
            (try clear hb2)
            (try clear hk)
            (try clear hi)
            refine hK.out _ _ ⟨zc0 BK102.out, zc1 BK102.out, ((HB.out.cell (World.block_lt_of_cell? w _ hw103_0)).trans hw103_0), ((HB.out.cell (World.block_lt_of_cell? w _ hw103_1)).trans hw103_1)⟩ (fun hHeld => ?_)
            clear hK K
            refine norm_ (a' := ?_) ?_ ?_
            rotate_left
            · show Act.put _ (some 21) _ = _
              simp only [Act.put, List.setIfInBounds_toArray, List.set_cons_zero, List.set_cons_succ, i64_w, i32_w]
              rfl
            refine pure_ (i := 6) (N := some 15) (v := ?_) (a' := ?_) #[true, true, true, true, true, true, true, false, false, false, false, false] rfl rfl (any_of HT_.out (by kernel_rfl)) (fun _ _ _ h => h) (Or.inl ⟨by rfl, ?_⟩) ?_ ?_
            rotate_left
            · intro w'
              go_simp
              with_reducible rfl
            rotate_left
            · simp only [Act.put, List.setIfInBounds_toArray, List.set_cons_zero, List.set_cons_succ, i64_w, i32_w]
              rfl
            refine pure_ (i := 7) (N := some 22) (v := ?_) (a' := ?_) #[true, true, true, true, true, true, true, true, false, false, false, false] rfl rfl (any_of HT_.out (by kernel_rfl)) (fun _ _ _ h => h) (Or.inl ⟨by rfl, ?_⟩) ?_ ?_
            rotate_left
            · intro w'
              go_simp
              with_reducible rfl
            rotate_left
            · simp only [Act.put, List.setIfInBounds_toArray, List.set_cons_zero, List.set_cons_succ, i64_w, i32_w]
              rfl
            refine pure_ (i := 8) (N := some 23) (v := ?_) (a' := ?_) #[true, true, true, true, true, true, true, true, true, false, false, false] rfl rfl (any_of HT_.out (by kernel_rfl)) (fun _ _ _ h => h) (Or.inl ⟨by rfl, ?_⟩) ?_ ?_
            rotate_left
            · intro w'
              go_simp
              with_reducible rfl
            rotate_left
            · simp only [Act.put, List.setIfInBounds_toArray, List.set_cons_zero, List.set_cons_succ, i64_w, i32_w]
              rfl
            refine one_ (i := 9) (N := some 6) #[true, true, true, true, true, true, true, true, true, true, false, false] rfl rfl (one_of HT_.out (by kernel_rfl)) (by decide) (fun K hK => ?_)
            refine box_step ?hg (N := 6) ?hd (cs := #[.int .i64 0, .int .i64 0]) (t := 24) ?hr ?_; (case hd => rfl); (case hg => rfl); (case hr => first | (go_simp; done) | (go_simp; rfl))
            intro gb107 hg w23 hbox hb
            have n0_ := ab hb BK101
            have n1_ := ab hb BK102
            have n2_ := hs hb HB
            have n3_ := Aside0.mk (hbox)
            have n4_ := ag hg HB
            have n5_ := ag hg HB
            have n6_ := na hg BK101
            have n7_ := nb hg BK101
            have n8_ := na hg BK102
            have n9_ := nb hg BK102
            clear BK101
            clear BK102
            clear HB
            have BK101 := n0_
            have BK102 := n1_
            have HB := n2_
            have BK107 := n3_
            have GW107 := n4_
            have GE107 := n5_
            have NB101_107 := n6_
            have NB107_101 := n7_
            have NB102_107 := n8_
            have NB107_102 := n9_
            clear n0_ n1_ n2_ n3_ n4_ n5_ n6_ n7_ n8_ n9_
            clear hb hbox hg
            refine hK.out _ _ ⟨zc0 BK102.out, zc1 BK102.out, ((HB.out.cell (World.block_lt_of_cell? w _ hw103_0)).trans hw103_0), ((HB.out.cell (World.block_lt_of_cell? w _ hw103_1)).trans hw103_1)⟩ (fun hHeld => ?_)
            clear hK K
            refine norm_ (a' := ?_) ?_ ?_
            rotate_left
            · show Act.put _ (some 6) _ = _
              simp only [Act.put, List.setIfInBounds_toArray, List.set_cons_zero, List.set_cons_succ, i64_w, i32_w]
              rfl
            exact norm_ (by simp only [putAll, Act.put, List.setIfInBounds_toArray, List.set_cons_zero, List.set_cons_succ]) (hCont (gb107) _ ⟨hHeld, (bk BK101.out), (bk BK102.out), (bk BK107.out), GW107.out, GE107.out, NB101_107.out, NB107_101.out, NB102_107.out, NB107_102.out, (bw HB.out)⟩)
          skip
          refine box_step ?hg (N := 6) ?hd (cs := #[.int .i64 0, .int .i64 0]) (t := 24) ?hr ?_; (case hd => rfl); (case hg => rfl); (case hr => first | (go_simp; done) | (go_simp; rfl))
          intro gb107 hg w22 hbox hb
          have n0_ := ab hb BK101
          have n1_ := ab hb BK102
          have n2_ := hs hb HB
          have n3_ := Aside0.mk (hbox)
          have n4_ := ag hg HB
          have n5_ := ag hg HB
          have n6_ := na hg BK101
          have n7_ := nb hg BK101
          have n8_ := na hg BK102
          have n9_ := nb hg BK102
          clear BK101
          clear BK102
          clear HB
          have BK101 := n0_
          have BK102 := n1_
          have HB := n2_
          have BK107 := n3_
          have GW107 := n4_
          have GE107 := n5_
          have NB101_107 := n6_
          have NB107_101 := n7_
          have NB102_107 := n8_
          have NB107_102 := n9_
          clear n0_ n1_ n2_ n3_ n4_ n5_ n6_ n7_ n8_ n9_
          clear hb hbox hg
          refine hK.out _ _ ⟨zc0 BK102.out, zc1 BK102.out, ((HB.out.cell (World.block_lt_of_cell? w _ hw103_0)).trans hw103_0), ((HB.out.cell (World.block_lt_of_cell? w _ hw103_1)).trans hw103_1)⟩ (fun hHeld => ?_)
          clear hK K
          refine norm_ (a' := ?_) ?_ ?_
          rotate_left
          · show Act.put _ (some 6) _ = _
            simp only [Act.put, List.setIfInBounds_toArray, List.set_cons_zero, List.set_cons_succ, i64_w, i32_w]
            rfl
          refine one_ (i := 5) (N := some 21) #[true, true, true, true, true, true, false, false, false, true, false, false] rfl rfl (one_of HT_.out (by kernel_rfl)) (by decide) (fun K hK => ?_)
          refine goes_ Tryd.func22 (by kernel_rfl) rfl #[.agg #[.int .i64 x103000_1, .int .i64 x103001_1], .agg #[.int .i64 ((PSn.rd_T24 l0 x5_1).f0), .int .i64 ((PSn.rd_T24 l0 x5_1).f1)]] (by rfl) rfl rfl (by (try simp only [List.map_toArray, List.map_cons, List.map_nil]); first | done | rfl | (simp only [List.length_drop, List.length_take]; rfl)) ?_
          with_reducible refine (surtitleref3_Add.calls k1 x103000_1 x103001_1 ((PSn.rd_T24 l0 x5_1).f0) ((PSn.rd_T24 l0 x5_1).f1) t104 t105 t106 _ A8.out).mono ?_
          rintro e w23 ⟨rfl, hb⟩
          refine ⟨_, rfl, ?_⟩
          have n0_ := ab hb BK101
          have n1_ := ab hb BK102
          have n2_ := ab hb BK107
          have n3_ := hs hb HB
          clear BK101
          clear BK102
          clear BK107
          clear HB
          have BK101 := n0_
          have BK102 := n1_
          have BK107 := n2_
          have HB := n3_
          clear n0_ n1_ n2_ n3_
          (try clear hb)
          (try clear hb2)
          (try clear hk)
          (try clear hi)
          refine hK.out _ _ ⟨zc0 BK102.out, zc1 BK102.out, ((HB.out.cell (World.block_lt_of_cell? w _ hw103_0)).trans hw103_0), ((HB.out.cell (World.block_lt_of_cell? w _ hw103_1)).trans hw103_1)⟩ (fun hHeld => ?_)
          clear hK K
          refine norm_ (a' := ?_) ?_ ?_
          rotate_left
          · show Act.put _ (some 21) _ = _
            simp only [Act.put, List.setIfInBounds_toArray, List.set_cons_zero, List.set_cons_succ, i64_w, i32_w]
            rfl
          refine pure_ (i := 6) (N := some 15) (v := ?_) (a' := ?_) #[true, true, true, true, true, true, true, false, false, true, false, false] rfl rfl (any_of HT_.out (by kernel_rfl)) (fun _ _ _ h => h) (Or.inl ⟨by rfl, ?_⟩) ?_ ?_
          rotate_left
          · intro w'
            go_simp
            with_reducible rfl
          rotate_left
          · simp only [Act.put, List.setIfInBounds_toArray, List.set_cons_zero, List.set_cons_succ, i64_w, i32_w]
            rfl
          refine pure_ (i := 7) (N := some 22) (v := ?_) (a' := ?_) #[true, true, true, true, true, true, true, true, false, true, false, false] rfl rfl (any_of HT_.out (by kernel_rfl)) (fun _ _ _ h => h) (Or.inl ⟨by rfl, ?_⟩) ?_ ?_
          rotate_left
          · intro w'
            go_simp
            with_reducible rfl
          rotate_left
          · simp only [Act.put, List.setIfInBounds_toArray, List.set_cons_zero, List.set_cons_succ, i64_w, i32_w]
            rfl
          refine pure_ (i := 8) (N := some 23) (v := ?_) (a' := ?_) #[true, true, true, true, true, true, true, true, true, true, false, false] rfl rfl (any_of HT_.out (by kernel_rfl)) (fun _ _ _ h => h) (Or.inl ⟨by rfl, ?_⟩) ?_ ?_
          rotate_left
          · intro w'
            go_simp
            with_reducible rfl
          rotate_left
          · simp only [Act.put, List.setIfInBounds_toArray, List.set_cons_zero, List.set_cons_succ, i64_w, i32_w]
            rfl
          exact norm_ (by simp only [putAll, Act.put, List.setIfInBounds_toArray, List.set_cons_zero, List.set_cons_succ]) (hCont (gb107) _ ⟨hHeld, (bk BK101.out), (bk BK102.out), (bk BK107.out), GW107.out, GE107.out, NB101_107.out, NB107_101.out, NB102_107.out, NB107_102.out, (bw HB.out)⟩)
        rintro gb107 w24 ⟨hS_, h0_, h1_, h2_, h3_, h4_, h5_, h6_, h7_, h8_, h9_⟩
        have n0_ : Aside0 (w24.heap[gb101]? = some (.cells #[.int .i64 x102000_1, .int .i64 x102001_1] 24 (0, 0))) := ⟨h0_⟩
        have n1_ : Aside0 (w24.heap[gb102]? = some (.cells #[.int .i64 x103000_1, .int .i64 x103001_1] 24 (0, 0))) := ⟨h1_⟩
        have n2_ : Aside0 (w24.heap[gb107]? = some (.cells #[.int .i64 0, .int .i64 0] 24 (0, 0))) := ⟨h2_⟩
        have n3_ : Aside0 (w.heap.size ≤ gb107) := ⟨h3_⟩
        have n4_ : Aside0 (w.heap.size ≤ gb107) := ⟨h4_⟩
        have n5_ : Aside0 (gb101 ≠ gb107) := ⟨h5_⟩
        have n6_ : Aside0 (gb107 ≠ gb101) := ⟨h6_⟩
        have n7_ : Aside0 (gb102 ≠ gb107) := ⟨h7_⟩
        have n8_ : Aside0 (gb107 ≠ gb102) := ⟨h8_⟩
        have n9_ : Aside0 (Below w.heap.size w w24) := ⟨h9_⟩
        clear BK101
        clear BK102
        clear HB
        clear h0_ h1_ h2_ h3_ h4_ h5_ h6_ h7_ h8_ h9_
        have BK101 := n0_
        have BK102 := n1_
        have BK107 := n2_
        have GW107 := n3_
        have GE107 := n4_
        have NB101_107 := n5_
        have NB107_101 := n6_
        have NB102_107 := n7_
        have NB107_102 := n8_
        have HB := n9_
        clear n0_ n1_ n2_ n3_ n4_ n5_ n6_ n7_ n8_ n9_
        have hHeld : w24.cell? ⟨gb102, 0, none⟩ = some (.int .i64 x103000_1) ∧ w24.cell? ⟨gb102, 1, none⟩ = some (.int .i64 x103001_1) ∧ w24.cell? (ad103.add ((x5_1).toNat * 2)) = some (.int .i64 ((PSn.rd_T24 l0 x5_1).f0)) ∧ w24.cell? ⟨(ad103.add ((x5_1).toNat * 2)).block, (ad103.add ((x5_1).toNat * 2)).off + 1, none⟩ = some (.int .i64 ((PSn.rd_T24 l0 x5_1).f1)) := hS_
        refine norm_ (a' := ?_) ?_ ?_
        rotate_left
        · simp only [putAll, Act.put, List.setIfInBounds_toArray, List.set_cons_zero, List.set_cons_succ]
          rfl
        refine one_ (i := 10) (N := none) #[true, true, true, true, true, true, true, true, true, true, true, false] rfl rfl (one_of HT_.out (by kernel_rfl)) (by decide) (fun K hK => ?_)
        have hs25 : w24.cell? ⟨gb107, 0, none⟩ = some (.int .i64 0) := zc0 BK107.out
        have hfs25 := blk_frozen BK107.out 0
        have hns25_0 := NB101_107.out
        have hns25_1 := NB102_107.out
        have hms25_0 := NB107_101.out
        have hms25_1 := NB107_102.out
        have hs26 : w24.cell? ⟨gb107, 1, none⟩ = some (.int .i64 0) := zc1 BK107.out
        have hfs26 := blk_frozen BK107.out 1
        have hns26_0 := NB101_107.out
        have hns26_1 := NB102_107.out
        have hms26_0 := NB107_101.out
        have hms26_1 := NB107_102.out
        refine skip_ (w1 := ?_) (by rfl) rfl ?_ ?_
        rotate_left
        · go_simp
          rfl
        refine hK.out _ _ ⟨((cell_far (p := ⟨gb107, _, none⟩) NB102_107.out _).trans (((cell_far (p := ⟨gb107, _, none⟩) NB102_107.out _).trans (hHeld.1)))), ((cell_far (p := ⟨gb107, _, none⟩) NB102_107.out _).trans (((cell_far (p := ⟨gb107, _, none⟩) NB102_107.out _).trans (hHeld.2.1)))), ((cell_far (p := ⟨gb107, _, none⟩) (by first | exact Nat.ne_of_lt (Nat.lt_of_lt_of_le (by have := World.block_lt_of_cell? _ _ hw103_0; first | rwa [add_block] at this | exact this) GW107.out) | (rw [add_block]; exact Nat.ne_of_lt (Nat.lt_of_lt_of_le (by have := World.block_lt_of_cell? _ _ hw103_0; first | rwa [add_block] at this | exact this) GW107.out)) | (show (Addr.add _ _).block ≠ _; rw [add_block]; exact Nat.ne_of_lt (Nat.lt_of_lt_of_le (by have := World.block_lt_of_cell? _ _ hw103_0; first | rwa [add_block] at this | exact this) GW107.out)) | (dsimp only; exact Nat.ne_of_lt (Nat.lt_of_lt_of_le (by have := World.block_lt_of_cell? _ _ hw103_0; first | rwa [add_block] at this | exact this) GW107.out))) _).trans (((cell_far (p := ⟨gb107, _, none⟩) (by first | exact Nat.ne_of_lt (Nat.lt_of_lt_of_le (by have := World.block_lt_of_cell? _ _ hw103_0; first | rwa [add_block] at this | exact this) GW107.out) | (rw [add_block]; exact Nat.ne_of_lt (Nat.lt_of_lt_of_le (by have := World.block_lt_of_cell? _ _ hw103_0; first | rwa [add_block] at this | exact this) GW107.out)) | (show (Addr.add _ _).block ≠ _; rw [add_block]; exact Nat.ne_of_lt (Nat.lt_of_lt_of_le (by have := World.block_lt_of_cell? _ _ hw103_0; first | rwa [add_block] at this | exact this) GW107.out)) | (dsimp only; exact Nat.ne_of_lt (Nat.lt_of_lt_of_le (by have := World.block_lt_of_cell? _ _ hw103_0; first | rwa [add_block] at this | exact this) GW107.out))) _).trans (hHeld.2.2.1)))), ((cell_far (p := ⟨gb107, _, none⟩) (by first | exact Nat.ne_of_lt (Nat.lt_of_lt_of_le (by have := World.block_lt_of_cell? _ _ hw103_1; first | rwa [add_block] at this | exact this) GW107.out) | (rw [add_block]; exact Nat.ne_of_lt (Nat.lt_of_lt_of_le (by have := World.block_lt_of_cell? _ _ hw103_1; first | rwa [add_block] at this | exact this) GW107.out)) | (show (Addr.add _ _).block ≠ _; rw [add_block]; exact Nat.ne_of_lt (Nat.lt_of_lt_of_le (by have := World.block_lt_of_cell? _ _ hw103_1; first | rwa [add_block] at this | exact this) GW107.out)) | (dsimp only; exact Nat.ne_of_lt (Nat.lt_of_lt_of_le (by have := World.block_lt_of_cell? _ _ hw103_1; first | rwa [add_block] at this | exact this) GW107.out))) _).trans (((cell_far (p := ⟨gb107, _, none⟩) (by first | exact Nat.ne_of_lt (Nat.lt_of_lt_of_le (by have := World.block_lt_of_cell? _ _ hw103_1; first | rwa [add_block] at this | exact this) GW107.out) | (rw [add_block]; exact Nat.ne_of_lt (Nat.lt_of_lt_of_le (by have := World.block_lt_of_cell? _ _ hw103_1; first | rwa [add_block] at this | exact this) GW107.out)) | (show (Addr.add _ _).block ≠ _; rw [add_block]; exact Nat.ne_of_lt (Nat.lt_of_lt_of_le (by have := World.block_lt_of_cell? _ _ hw103_1; first | rwa [add_block] at this | exact this) GW107.out)) | (dsimp only; exact Nat.ne_of_lt (Nat.lt_of_lt_of_le (by have := World.block_lt_of_cell? _ _ hw103_1; first | rwa [add_block] at this | exact this) GW107.out))) _).trans (hHeld.2.2.2))))⟩ (fun hHeld => ?_)
        clear hK K
        refine pure_ (i := 11) (N := some 7) (v := ?_) (a' := ?_) #[true, true, true, true, true, true, true, true, true, true, true, true] rfl rfl (any_of HT_.out (by kernel_rfl)) (fun _ _ _ h => h) (Or.inl ⟨by rfl, ?_⟩) ?_ ?_
        rotate_left
        · intro w'
          go_simp
          with_reducible rfl
        rotate_left
        · simp only [Act.put, List.setIfInBounds_toArray, List.set_cons_zero, List.set_cons_succ, i64_w, i32_w]
          rfl
        refine done_ (done_of HT_.out (by kernel_rfl)) ?_
        have hnb27 := NB101_102.out
        have hnc27 := NB102_101.out
        have hnb28 := NB101_107.out
        have hnc28 := NB107_101.out
        obtain ⟨hcz29_0, hcz29_1, hfz29_0, hfz29_1⟩ := k2 BK101.out
        try go_wp2
        refine bodyPost_ret (results_ct rfl _ _ gb101 24 #[.int .i64 0, .int .i64 0] (0, 0) _ rfl (by refine bk ?_; refine blk_put (cs := #[.int .i64 0, .int .i64 x102001_1]) ?_ 1 _ rfl; refine bk ?_; refine blk_put (cs := #[.int .i64 x102000_1, .int .i64 x102001_1]) ?_ 0 _ rfl; refine bk ?_; exact BK101.out) Tryd.underlying24 rfl (by kernel_rfl)) rfl ?_
        exact ⟨by first | rfl | (simp [errW_none, errW_some] <;> rfl) | (simp [*, errW_none, errW_some] <;> rfl), by repeat (first | (with_reducible first | exact HB.out | apply below_alloc | apply pw_below_drewN | apply below_drew1 | refine below_set ?_ GE101.out | refine below_set ?_ GE102.out | refine below_set ?_ GE107.out) | exact HB.out)⟩
      rw [if_neg c7] at H
      exact absurd H (by simp)
    rw [if_neg c6] at H
    have c6b0 : decide (x5_1 < (l0.length : Int)) = false := decide_eq_false c6
    clear c6
    simp only [Option.some.injEq, Prod.mk.injEq] at H
    obtain ⟨rfl, rfl, rfl⟩ := H
    have hnb30 := NB102_101.out
    have hnc30 := NB101_102.out
    obtain ⟨hcz31_0, hcz31_1, hfz31_0, hfz31_1⟩ := k2 BK102.out
    obtain ⟨hcz32_0, hcz32_1, hfz32_0, hfz32_1⟩ := k2 BK101.out
    go_wp2
    refine bodyPost_ret (results_ct rfl _ _ gb101 24 #[.int .i64 x103000_1, .int .i64 x103001_1] (0, 0) _ rfl (by refine bk ?_; refine blk_put (cs := #[.int .i64 x103000_1, .int .i64 x102001_1]) ?_ 1 _ rfl; refine bk ?_; refine blk_put (cs := #[.int .i64 x102000_1, .int .i64 x102001_1]) ?_ 0 _ rfl; refine bk ?_; exact BK101.out) Tryd.underlying24 rfl (by kernel_rfl)) rfl ?_
    exact ⟨by first | rfl | (simp [errW_none, errW_some] <;> rfl) | (simp [*, errW_none, errW_some] <;> rfl), by repeat (first | (with_reducible first | exact HB.out | apply below_alloc | apply pw_below_drewN | apply below_drew1 | refine below_set ?_ GE101.out | refine below_set ?_ GE102.out) | exact HB.out)⟩

/-! ### surtitleref3_Cmp: function 39: told elsewhere -/

end Go.Proofs.YtofndakpenpkbaaDoor.PB

namespace Go.Proofs.YtofndakpenpkbaaDoor.PB
open Go.Proofs.YtofndakpenpkbaaDoor.PA Go.Proofs.YtofndakpenpkbaaDoor.PR Go.Proofs.YtofndakpenpkbaaDoor.PO Go.Proofs.YtofndakpenpkbaaDoor.PP Go.Proofs.YtofndakpenpkbaaDoor.PL Go.Proofs.YtofndakpenpkbaaDoor.PS Go.Proofs.YtofndakpenpkbaaDoor.PSn
open Go.RowKit Go.Proofs.YtofndakpenpkbaaDoorW.PrintWords Go.Proofs.YtofndakpenpkbaaDoorW.PrintLast Go.Proofs.YtofndakpenpkbaaDoorW.PrintMore
set_option linter.unusedVariables false
set_option linter.unusedSimpArgs false

/-! ### surtitleref3_Best: function 37 -/
def surtitleref3_Best.l0 : Nat → List (PSn.S24) → Int → Int → Int → Int → Option (Int × Int × Bool)
  | 0, _, _, _, _, _ => none
  | k + 1, x0, x1, x7, x111000, x111001 => if x7 < (x0.length : Int) then (if 0 ≤ x7 then ((surtitleref3_Cmp.f ((PSn.rd_T24 x0 x7).f0) ((PSn.rd_T24 x0 x7).f1) x111000 x111001).bind fun t112 => (if t112 = x1 then (surtitleref3_Best.l0 k x0 x1 (wrap64 (x7 + 1)) ((PSn.rd_T24 x0 x7).f0) ((PSn.rd_T24 x0 x7).f1)) else (surtitleref3_Best.l0 k x0 x1 (wrap64 (x7 + 1)) x111000 x111001))) else (none)) else (some (x111000, x111001, true))
def surtitleref3_Best.f (k : Nat) (l0 : List (PSn.S24)) (a1 : Int) : Option (Int × Int × Bool) := if (l0.length : Int) = 0 then (some (0, 0, false)) else (if 0 < (l0.length : Int) then (surtitleref3_Best.l0 k l0 a1 1 ((PSn.rd_T24 l0 0).f0) ((PSn.rd_T24 l0 0).f1)) else (none))
def surtitleref3_Best.T7 : Bool × List (List Nat × List Nat) := (true, [([], []), ([], []), ([0, 1], [0, 1]), ([2], [2]), ([], []), ([3, 4], [3, 4]), ([], []), ([5, 6], [5, 6])])
def surtitleref3_Best.B7 : List Nat := [0, 0, 3, 7, 0, 31, 0, 127]
theorem surtitleref3_Best.tab7 : rtab .any (opsOf Tryd.f37 7) = surtitleref3_Best.T7 := by kernel_rfl
theorem surtitleref3_Best.bits7 : waitsOk surtitleref3_Best.T7.2 surtitleref3_Best.B7 = true := by kernel_rfl
set_option maxHeartbeats 8000000 in
set_option maxRecDepth 100000 in
theorem surtitleref3_Best.calls (k : Nat) (A0 : Option Addr) (c0 : Nat) (l0 : List (PSn.S24)) (a1 : Int) (r1 : Int) (r2 : Int) (r3 : Bool) (w : World) (hr0 : Kd.C PSn.k24 w A0 l0.length l0) (hc0 : l0.length ≤ c0) (h : surtitleref3_Best.f k l0 a1 = some (r1, r2, r3)) :
    Calls Tryd.prog 37 #[.slice A0 l0.length c0, .int .i64 a1] w fun e w' => e = .returned (.tuple #[.agg #[.int .i64 r1, .int .i64 r2], .bool r3]) ∧ Below w.heap.size w w' := by
  have hu24 := Tryd.underlying24
  have HR0 := Aside0.mk hr0
  have HC0 := Aside0.mk hc0
  clear hr0 hc0
  have HB := Aside0.mk (Below.refl w.heap.size w)
  have H : (if (l0.length : Int) = 0 then (some (0, 0, false)) else (if 0 < (l0.length : Int) then (surtitleref3_Best.l0 k l0 a1 1 ((PSn.rd_T24 l0 0).f0) ((PSn.rd_T24 l0 0).f1)) else (none))) = some (r1, r2, r3) := h
  clear h
  by_cases c3 : (l0.length : Int) = 0
  · rw [if_pos c3] at H
    have c3b0 : ((l0.length : Int) == 0) = true := beq_iff_eq.mpr c3
    have c3b1 : ((l0.length : Int) != 0) = false := bne_eq_false_iff_eq.mpr c3
    clear c3
    simp only [Option.some.injEq, Prod.mk.injEq] at H
    obtain ⟨rfl, rfl, rfl⟩ := H
    go_enter Tryd.func37, Tryd.ntmps37
    go_wp2_with (first | ((with_reducible refine gate_dst (N := 4) rfl ?_); refine box_event ?hg (N := 4) ?hd (cs := #[.int .i64 0, .int .i64 0]) (t := 24) ?hr ?_; (case hd => rfl); (case hg => rfl); (case hr => first | (go_simp; done) | (go_simp; rfl)); intro gb108 hg w4 hbox hb; have BK108 := Aside0.mk (hbox); have GW108 := ag hg HB; have GE108 := ag hg HB; replace HB := hs hb HB; clear hb hbox hg; obtain ⟨hcz5_0, hcz5_1, hfz5_0, hfz5_1⟩ := k2 BK108.out))
    refine bodyPost_ret (results_ct rfl _ _ gb108 24 #[.int .i64 0, .int .i64 0] (0, 0) _ rfl (by refine bk ?_; refine blk_put (cs := #[.int .i64 0, .int .i64 0]) ?_ 1 _ rfl; refine bk ?_; refine blk_put (cs := #[.int .i64 0, .int .i64 0]) ?_ 0 _ rfl; refine bk ?_; exact BK108.out) Tryd.underlying24 rfl (by kernel_rfl)) rfl ?_
    exact ⟨by first | rfl | (simp [errW_none, errW_some] <;> rfl) | (simp [*, errW_none, errW_some] <;> rfl), by repeat (first | (with_reducible first | exact HB.out | apply below_alloc | apply pw_below_drewN | apply below_drew1 | refine below_set ?_ GE108.out) | exact HB.out)⟩
  rw [if_neg c3] at H
  have c3b0 : ((l0.length : Int) == 0) = false := beq_eq_false_iff_ne.mpr c3
  have c3b1 : ((l0.length : Int) != 0) = true := bne_iff_ne.mpr c3
  have c3b2 : ¬ (l0 = []) := fun h_ => c3 (by rw [h_]; rfl)
  by_cases c6 : 0 < (l0.length : Int)
  · rw [if_pos c6] at H
    have c6b0 : decide (0 < (l0.length : Int)) = true := decide_eq_true c6
    have c6b1 : decide (0 < l0.length) = true := decide_eq_true (by omega)
    clear c6
    have H' := Aside0.mk H
    clear H
    go_enter Tryd.func37, Tryd.ntmps37
    go_wp2_with (first | ((with_reducible refine gate_dst (N := 4) rfl ?_); refine box_event ?hg (N := 4) ?hd (cs := #[.int .i64 0, .int .i64 0]) (t := 24) ?hr ?_; (case hd => rfl); (case hg => rfl); (case hr => first | (go_simp; done) | (go_simp; rfl)); intro gb108 hg w7 hbox hb; have BK108 := Aside0.mk (hbox); have GW108 := ag hg HB; have GE108 := ag hg HB; replace HB := hs hb HB; clear hb hbox hg; have p109 : 0 ≤ (0 : Int) := (by omega); have q109 : 0 < (l0.length : Int) := of_decide_eq_true (by first | (with_reducible assumption) | assumption); obtain ⟨ad109, e109, hx109_0, hx109_1⟩ := PSn.at_T24 HR0.out 0 p109 q109; cases e109; have qi109 : (0 < l0.length) = True := eq_true (by omega); (try rw [show ((0 : Int)).toNat = 0 from rfl] at hx109_0); (try rw [show 0 * 2 = 0 from rfl] at hx109_0); (try rw [Addr.add_zero'] at hx109_0); (try rw [show ((0 : Int)).toNat = 0 from rfl] at hx109_1); (try rw [show 0 * 2 = 0 from rfl] at hx109_1); (try rw [Addr.add_zero'] at hx109_1); replace hx109_0 := (HB.out.cell (World.block_lt_of_cell? w _ hx109_0)).trans hx109_0; replace hx109_1 := (HB.out.cell (World.block_lt_of_cell? w _ hx109_1)).trans hx109_1; replace p109 := eq_true p109; replace q109 := eq_true q109) | ((with_reducible refine gate_dst (N := 6) rfl ?_); refine box_event ?hg (N := 6) ?hd (cs := #[.int .i64 0, .int .i64 0]) (t := 24) ?hr ?_; (case hd => rfl); (case hg => rfl); (case hr => first | (go_simp; done) | (go_simp; rfl)); intro gb110 hg w8 hbox hb; have BK110 := Aside0.mk (hbox); have GW110 := ag hg HB; have GE110 := ag hg HB; have NB108_110 := na hg BK108; have NB110_108 := nb hg BK108; replace BK108 := ab hb BK108; replace HB := hs hb HB; clear hb hbox hg; have hnb9 := NB110_108.out; have hnc9 := NB108_110.out; obtain ⟨hcz10_0, hcz10_1, hfz10_0, hfz10_1⟩ := k2 BK110.out))
    go_loopg [7] k (fun kq v7 w' => ∃ (x7_1 : Int) (x111000_1 : Int) (x111001_1 : Int), v7 = .int .i64 x7_1 ∧ Aside0 (surtitleref3_Best.l0 kq l0 a1 x7_1 x111000_1 x111001_1 = some (r1, r2, r3)) ∧ Aside0 (kq ≤ k) ∧ Aside0 (w'.heap[gb108]? = some (.cells #[.int .i64 0, .int .i64 0] 24 (0, 0))) ∧ Aside0 (w'.heap[gb110]? = some (.cells #[.int .i64 x111000_1, .int .i64 x111001_1] 24 (0, 0))) ∧ Aside0 (Below w.heap.size w w'))
    case atStart => exact ⟨(1), ((PSn.rd_T24 l0 0).f0), ((PSn.rd_T24 l0 0).f1), (by first | rfl | (simp; done) | (simp [*]; done)), H', ⟨Nat.le_refl _⟩, ⟨by refine bk ?_; exact BK108.out⟩, ⟨by refine bk ?_; refine blk_put (cs := #[.int .i64 ((PSn.rd_T24 l0 0).f0), .int .i64 0]) ?_ 1 _ rfl; refine bk ?_; refine blk_put (cs := #[.int .i64 0, .int .i64 0]) ?_ 0 _ rfl; refine bk ?_; exact BK110.out⟩, ⟨by repeat (first | (with_reducible first | exact HB.out | apply below_alloc | apply pw_below_drewN | apply below_drew1 | refine below_set ?_ GE108.out | refine below_set ?_ GE110.out) | exact HB.out)⟩⟩
    case round =>
      clear H'
      try clear c3
      try clear c3b0
      try clear c3b1
      try clear c3b2
      try clear c6
      try clear c6b0
      try clear c6b1
      try clear hcz10_0
      try clear hcz10_1
      try clear hfz10_0
      try clear hfz10_1
      try clear hx109_0
      try clear hx109_1
      try clear p109
      try clear q109
      obtain ⟨x7_1, x111000_1, x111001_1, rfl, HA, HK1, BK108, BK110, HB⟩ := hrel
      obtain _ | k1 := gk
      · exact absurd HA.out (by simp [surtitleref3_Best.l0])
      have H := HA.out
      clear HA
      simp only [surtitleref3_Best.l0] at H
      by_cases c11 : x7_1 < (l0.length : Int)
      · rw [if_pos c11] at H
        have c11b0 : decide (x7_1 < (l0.length : Int)) = true := decide_eq_true c11
        clear c11
        by_cases c12 : 0 ≤ x7_1
        · rw [if_pos c12] at H
          have c12b0 : decide (0 ≤ x7_1) = true := decide_eq_true c12
          clear c12
          replace H := Option.bind_eq_some_iff.mp H
          obtain ⟨t112, A130, H⟩ := H
          replace H : (if t112 = a1 then (surtitleref3_Best.l0 k1 l0 a1 (wrap64 (x7_1 + 1)) ((PSn.rd_T24 l0 x7_1).f0) ((PSn.rd_T24 l0 x7_1).f1)) else (surtitleref3_Best.l0 k1 l0 a1 (wrap64 (x7_1 + 1)) x111000_1 x111001_1)) = some (r1, r2, r3) := H
          have A13 := Aside0.mk A130
          clear A130
          by_cases c14 : t112 = a1
          · rw [if_pos c14] at H
            have c14b0 : (t112 == a1) = true := beq_iff_eq.mpr c14
            have c14b1 : (t112 != a1) = false := bne_eq_false_iff_eq.mpr c14
            clear c14
            have H' := Aside0.mk H
            clear H
            try go_wp2
            have n0_ := Aside0.mk (blk_drew BK108.out)
            have n1_ := Aside0.mk (blk_drew BK110.out)
            have n2_ := Aside0.mk (below_drew1 HB.out)
            clear BK108
            clear BK110
            clear HB
            have BK108 := n0_
            have BK110 := n1_
            have HB := n2_
            clear n0_ n1_ n2_
            have p111 : 0 ≤ (x7_1 : Int) := of_decide_eq_true (by first | (with_reducible assumption) | assumption)
            have q111 : x7_1 < (l0.length : Int) := of_decide_eq_true (by first | (with_reducible assumption) | assumption)
            obtain ⟨ad111, e111, hx111_0, hx111_1⟩ := PSn.at_T24 HR0.out x7_1 p111 q111
            have hw111_1 := hx111_1
            have hw111_0 := hx111_0
            obtain rfl : ad109 = ad111 := (by injection e111)
            replace hx111_0 := (HB.out.cell (World.block_lt_of_cell? w _ hx111_0)).trans hx111_0
            replace hx111_1 := (HB.out.cell (World.block_lt_of_cell? w _ hx111_1)).trans hx111_1
            replace p111 := eq_true p111
            replace q111 := eq_true q111
            refine start_ (n := 8) (S := fun w' => w'.cell? ⟨gb110, 0, none⟩ = some (.int .i64 x111000_1) ∧ w'.cell? ⟨gb110, 1, none⟩ = some (.int .i64 x111001_1) ∧ w'.cell? (ad109.add ((x7_1).toNat * 2)) = some (.int .i64 ((PSn.rd_T24 l0 x7_1).f0)) ∧ w'.cell? ⟨(ad109.add ((x7_1).toNat * 2)).block, (ad109.add ((x7_1).toNat * 2)).off + 1, none⟩ = some (.int .i64 ((PSn.rd_T24 l0 x7_1).f1))) (ds := []) #[false, false, false, false, false, false, false, false] (by kernel_rfl) rfl rfl ⟨zc0 BK110.out, zc1 BK110.out, ((HB.out.cell (World.block_lt_of_cell? w _ hw111_0)).trans hw111_0), ((HB.out.cell (World.block_lt_of_cell? w _ hw111_1)).trans hw111_1)⟩ (fun hHeld => ?_); refine with_tabW surtitleref3_Best.tab7 surtitleref3_Best.bits7 (fun HT_ HW_ => ?_)
            generalize wr.drew = w15 at BK108 BK110 HB hx111_0 hx111_1 hHeld ⊢
            refine pure_ (i := 0) (N := some 21) (v := ?_) (a' := ?_) #[true, false, false, false, false, false, false, false] rfl rfl (any_of HT_.out (by kernel_rfl)) (fun _ _ _ h => h) (Or.inl ⟨by rfl, ?_⟩) ?_ ?_
            rotate_left
            · intro w'
              go_simp
              with_reducible rfl
            rotate_left
            · simp only [Act.put, List.setIfInBounds_toArray, List.set_cons_zero, List.set_cons_succ, i64_w, i32_w]
              rfl
            refine pure_ (i := 1) (N := some 22) (v := ?_) (a' := ?_) #[true, true, false, false, false, false, false, false] rfl rfl (any_of HT_.out (by kernel_rfl)) (fun _ _ _ h => h) (Or.inl ⟨by rfl, ?_⟩) ?_ ?_
            rotate_left
            · intro w'
              go_simp
              with_reducible rfl
            rotate_left
            · simp only [Act.put, List.setIfInBounds_toArray, List.set_cons_zero, List.set_cons_succ, i64_w, i32_w]
              rfl
            refine pure_ (i := 2) (N := some 23) (v := ?_) (a' := ?_) #[true, true, true, false, false, false, false, false] rfl rfl (any_of HT_.out (by kernel_rfl)) (fun _ _ _ h => h) (Or.inl ⟨by rfl, ?_⟩) ?_ ?_
            rotate_left
            · intro w'
              go_simp
              with_reducible rfl
            rotate_left
            · simp only [Act.put, List.setIfInBounds_toArray, List.set_cons_zero, List.set_cons_succ, i64_w, i32_w]
              rfl
            refine pure_ (i := 6) (N := some 27) (v := ?_) (a' := ?_) #[true, true, true, false, false, false, true, false] rfl rfl (any_of HT_.out (by kernel_rfl)) (fun _ _ _ h => h) (Or.inl ⟨by rfl, ?_⟩) ?_ ?_
            rotate_left
            · intro w'
              go_simp
              with_reducible rfl
            rotate_left
            · simp only [Act.put, List.setIfInBounds_toArray, List.set_cons_zero, List.set_cons_succ, i64_w, i32_w]
              rfl
            refine take_ (i := 3) (N := some 24) (v := ?_) (a' := ?_) #[true, true, true, true, false, false, true, false] rfl rfl (take_ofW HT_.out HW_.out (by kernel_rfl)) (fun _ _ _ h => h) (Or.inl ⟨by rfl, ?_⟩) hHeld ?_ ?_
            rotate_left
            · rintro w' ⟨s0, s1, s2, s3⟩
              go_simp
              with_reducible rfl
            rotate_left
            · simp only [Act.put, List.setIfInBounds_toArray, List.set_cons_zero, List.set_cons_succ, i64_w, i32_w]
              rfl
            refine take_ (i := 4) (N := some 25) (v := ?_) (a' := ?_) #[true, true, true, true, true, false, true, false] rfl rfl (take_ofW HT_.out HW_.out (by kernel_rfl)) (fun _ _ _ h => h) (Or.inl ⟨by rfl, ?_⟩) hHeld ?_ ?_
            rotate_left
            · rintro w' ⟨s0, s1, s2, s3⟩
              go_simp
              with_reducible rfl
            rotate_left
            · simp only [Act.put, List.setIfInBounds_toArray, List.set_cons_zero, List.set_cons_succ, i64_w, i32_w]
              rfl
            refine one_ (i := 5) (N := some 26) #[true, true, true, true, true, true, true, false] rfl rfl (one_of HT_.out (by kernel_rfl)) (by decide) (fun K hK => ?_)
            refine goes_ Tryd.func39 (by kernel_rfl) rfl #[.agg #[.int .i64 ((PSn.rd_T24 l0 x7_1).f0), .int .i64 ((PSn.rd_T24 l0 x7_1).f1)], .agg #[.int .i64 x111000_1, .int .i64 x111001_1]] (by rfl) rfl rfl (by (try simp only [List.map_toArray, List.map_cons, List.map_nil]); first | done | rfl | (simp only [List.length_drop, List.length_take]; rfl)) ?_
            with_reducible refine (surtitleref3_Cmp.calls ((PSn.rd_T24 l0 x7_1).f0) ((PSn.rd_T24 l0 x7_1).f1) x111000_1 x111001_1 t112 _ A13.out).mono ?_
            rintro e w16 ⟨rfl, hb⟩
            refine ⟨_, rfl, ?_⟩
            have n0_ := ab hb BK108
            have n1_ := ab hb BK110
            have n2_ := hs hb HB
            clear BK108
            clear BK110
            clear HB
            have BK108 := n0_
            have BK110 := n1_
            have HB := n2_
            clear n0_ n1_ n2_
            (try clear hb)
            (try clear hb2)
            (try clear hk)
            (try clear hi)
            refine hK.out _ _ ⟨zc0 BK110.out, zc1 BK110.out, ((HB.out.cell (World.block_lt_of_cell? w _ hw111_0)).trans hw111_0), ((HB.out.cell (World.block_lt_of_cell? w _ hw111_1)).trans hw111_1)⟩ (fun hHeld => ?_)
            clear hK K
            refine norm_ (a' := ?_) ?_ ?_
            rotate_left
            · show Act.put _ (some 26) _ = _
              simp only [Act.put, List.setIfInBounds_toArray, List.set_cons_zero, List.set_cons_succ, i64_w, i32_w]
              rfl
            refine pure_ (i := 7) (N := some 28) (v := ?_) (a' := ?_) #[true, true, true, true, true, true, true, true] rfl rfl (any_of HT_.out (by kernel_rfl)) (fun _ _ _ h => h) (Or.inl ⟨by rfl, ?_⟩) ?_ ?_
            rotate_left
            · intro w'
              go_simp
              with_reducible rfl
            rotate_left
            · simp only [Act.put, List.setIfInBounds_toArray, List.set_cons_zero, List.set_cons_succ, i64_w, i32_w]
              rfl
            refine done_ (done_of HT_.out (by kernel_rfl)) ?_
            have p113 : 0 ≤ (x7_1 : Int) := of_decide_eq_true (by first | (with_reducible assumption) | assumption)
            have q113 : x7_1 < (l0.length : Int) := of_decide_eq_true (by first | (with_reducible assumption) | assumption)
            obtain ⟨ad113, e113, hx113_0, hx113_1⟩ := PSn.at_T24 HR0.out x7_1 p113 q113
            obtain rfl : ad109 = ad113 := (by injection e113)
            replace hx113_0 := (HB.out.cell (World.block_lt_of_cell? w _ hx113_0)).trans hx113_0
            replace hx113_1 := (HB.out.cell (World.block_lt_of_cell? w _ hx113_1)).trans hx113_1
            replace p113 := eq_true p113
            replace q113 := eq_true q113
            have hnb17 := NB110_108.out
            have hnc17 := NB108_110.out
            obtain ⟨hcz18_0, hcz18_1, hfz18_0, hfz18_1⟩ := k2 BK110.out
            try go_wp2
            go_roundg k1
            case measure => have := HK1.out; omega
            case rel => exact ⟨(wrap64 (x7_1 + 1)), ((PSn.rd_T24 l0 x7_1).f0), ((PSn.rd_T24 l0 x7_1).f1), (by first | rfl | (simp; done) | (simp [*]; done)), H', ⟨by have := HK1.out; omega⟩, ⟨by refine bk ?_; exact BK108.out⟩, ⟨by refine bk ?_; refine blk_put (cs := #[.int .i64 ((PSn.rd_T24 l0 x7_1).f0), .int .i64 x111001_1]) ?_ 1 _ rfl; refine bk ?_; refine blk_put (cs := #[.int .i64 x111000_1, .int .i64 x111001_1]) ?_ 0 _ rfl; refine bk ?_; exact BK110.out⟩, ⟨by repeat (first | (with_reducible first | exact HB.out | apply below_alloc | apply pw_below_drewN | apply below_drew1 | refine below_set ?_ GE108.out | refine below_set ?_ GE110.out) | exact HB.out)⟩⟩
          rw [if_neg c14] at H
          have c14b0 : (t112 == a1) = false := beq_eq_false_iff_ne.mpr c14
          have c14b1 : (t112 != a1) = true := bne_iff_ne.mpr c14
          have H' := Aside0.mk H
          clear H
          try go_wp2
          have n0_ := Aside0.mk (blk_drew BK108.out)
          have n1_ := Aside0.mk (blk_drew BK110.out)
          have n2_ := Aside0.mk (below_drew1 HB.out)
          clear BK108
          clear BK110
          clear HB
          have BK108 := n0_
          have BK110 := n1_
          have HB := n2_
          clear n0_ n1_ n2_
          have p111 : 0 ≤ (x7_1 : Int) := of_decide_eq_true (by first | (with_reducible assumption) | assumption)
          have q111 : x7_1 < (l0.length : Int) := of_decide_eq_true (by first | (with_reducible assumption) | assumption)
          obtain ⟨ad111, e111, hx111_0, hx111_1⟩ := PSn.at_T24 HR0.out x7_1 p111 q111
          have hw111_1 := hx111_1
          have hw111_0 := hx111_0
          obtain rfl : ad109 = ad111 := (by injection e111)
          replace hx111_0 := (HB.out.cell (World.block_lt_of_cell? w _ hx111_0)).trans hx111_0
          replace hx111_1 := (HB.out.cell (World.block_lt_of_cell? w _ hx111_1)).trans hx111_1
          replace p111 := eq_true p111
          replace q111 := eq_true q111
          refine start_ (n := 8) (S := fun w' => w'.cell? ⟨gb110, 0, none⟩ = some (.int .i64 x111000_1) ∧ w'.cell? ⟨gb110, 1, none⟩ = some (.int .i64 x111001_1) ∧ w'.cell? (ad109.add ((x7_1).toNat * 2)) = some (.int .i64 ((PSn.rd_T24 l0 x7_1).f0)) ∧ w'.cell? ⟨(ad109.add ((x7_1).toNat * 2)).block, (ad109.add ((x7_1).toNat * 2)).off + 1, none⟩ = some (.int .i64 ((PSn.rd_T24 l0 x7_1).f1))) (ds := []) #[false, false, false, false, false, false, false, false] (by kernel_rfl) rfl rfl ⟨zc0 BK110.out, zc1 BK110.out, ((HB.out.cell (World.block_lt_of_cell? w _ hw111_0)).trans hw111_0), ((HB.out.cell (World.block_lt_of_cell? w _ hw111_1)).trans hw111_1)⟩ (fun hHeld => ?_); refine with_tabW surtitleref3_Best.tab7 surtitleref3_Best.bits7 (fun HT_ HW_ => ?_)
          generalize wr.drew = w19 at BK108 BK110 HB hx111_0 hx111_1 hHeld ⊢
          refine pure_ (i := 0) (N := some 21) (v := ?_) (a' := ?_) #[true, false, false, false, false, false, false, false] rfl rfl (any_of HT_.out (by kernel_rfl)) (fun _ _ _ h => h) (Or.inl ⟨by rfl, ?_⟩) ?_ ?_
          rotate_left
          · intro w'
            go_simp
            with_reducible rfl
          rotate_left
          · simp only [Act.put, List.setIfInBounds_toArray, List.set_cons_zero, List.set_cons_succ, i64_w, i32_w]
            rfl
          refine pure_ (i := 1) (N := some 22) (v := ?_) (a' := ?_) #[true, true, false, false, false, false, false, false] rfl rfl (any_of HT_.out (by kernel_rfl)) (fun _ _ _ h => h) (Or.inl ⟨by rfl, ?_⟩) ?_ ?_
          rotate_left
          · intro w'
            go_simp
            with_reducible rfl
          rotate_left
          · simp only [Act.put, List.setIfInBounds_toArray, List.set_cons_zero, List.set_cons_succ, i64_w, i32_w]
            rfl
          refine pure_ (i := 2) (N := some 23) (v := ?_) (a' := ?_) #[true, true, true, false, false, false, false, false] rfl rfl (any_of HT_.out (by kernel_rfl)) (fun _ _ _ h => h) (Or.inl ⟨by rfl, ?_⟩) ?_ ?_
          rotate_left
          · intro w'
            go_simp
            with_reducible rfl
          rotate_left
          · simp only [Act.put, List.setIfInBounds_toArray, List.set_cons_zero, List.set_cons_succ, i64_w, i32_w]
            rfl
          refine pure_ (i := 6) (N := some 27) (v := ?_) (a' := ?_) #[true, true, true, false, false, false, true, false] rfl rfl (any_of HT_.out (by kernel_rfl)) (fun _ _ _ h => h) (Or.inl ⟨by rfl, ?_⟩) ?_ ?_
          rotate_left
          · intro w'
            go_simp
            with_reducible rfl
          rotate_left
          · simp only [Act.put, List.setIfInBounds_toArray, List.set_cons_zero, List.set_cons_succ, i64_w, i32_w]
            rfl
          refine take_ (i := 3) (N := some 24) (v := ?_) (a' := ?_) #[true, true, true, true, false, false, true, false] rfl rfl (take_ofW HT_.out HW_.out (by kernel_rfl)) (fun _ _ _ h => h) (Or.inl ⟨by rfl, ?_⟩) hHeld ?_ ?_
          rotate_left
          · rintro w' ⟨s0, s1, s2, s3⟩
            go_simp
            with_reducible rfl
          rotate_left
          · simp only [Act.put, List.setIfInBounds_toArray, List.set_cons_zero, List.set_cons_succ, i64_w, i32_w]
            rfl
          refine take_ (i := 4) (N := some 25) (v := ?_) (a' := ?_) #[true, true, true, true, true, false, true, false] rfl rfl (take_ofW HT_.out HW_.out (by kernel_rfl)) (fun _ _ _ h => h) (Or.inl ⟨by rfl, ?_⟩) hHeld ?_ ?_
          rotate_left
          · rintro w' ⟨s0, s1, s2, s3⟩
            go_simp
            with_reducible rfl
          rotate_left
          · simp only [Act.put, List.setIfInBounds_toArray, List.set_cons_zero, List.set_cons_succ, i64_w, i32_w]
            rfl
          refine one_ (i := 5) (N := some 26) #[true, true, true, true, true, true, true, false] rfl rfl (one_of HT_.out (by kernel_rfl)) (by decide) (fun K hK => ?_)
          refine goes_ Tryd.func39 (by kernel_rfl) rfl #[.agg #[.int .i64 ((PSn.rd_T24 l0 x7_1).f0), .int .i64 ((PSn.rd_T24 l0 x7_1).f1)], .agg #[.int .i64 x111000_1, .int .i64 x111001_1]] (by rfl) rfl rfl (by (try simp only [List.map_toArray, List.map_cons, List.map_nil]); first | done | rfl | (simp only [List.length_drop, List.length_take]; rfl)) ?_
          with_reducible refine (surtitleref3_Cmp.calls ((PSn.rd_T24 l0 x7_1).f0) ((PSn.rd_T24 l0 x7_1).f1) x111000_1 x111001_1 t112 _ A13.out).mono ?_
          rintro e w20 ⟨rfl, hb⟩
          refine ⟨_, rfl, ?_⟩
          have n0_ := ab hb BK108
          have n1_ := ab hb BK110
          have n2_ := hs hb HB
          clear BK108
          clear BK110
          clear HB
          have BK108 := n0_
          have BK110 := n1_
          have HB := n2_
          clear n0_ n1_ n2_
          (try clear hb)
          (try clear hb2)
          (try clear hk)
          (try clear hi)
          refine hK.out _ _ ⟨zc0 BK110.out, zc1 BK110.out, ((HB.out.cell (World.block_lt_of_cell? w _ hw111_0)).trans hw111_0), ((HB.out.cell (World.block_lt_of_cell? w _ hw111_1)).trans hw111_1)⟩ (fun hHeld => ?_)
          clear hK K
          refine norm_ (a' := ?_) ?_ ?_
          rotate_left
          · show Act.put _ (some 26) _ = _
            simp only [Act.put, List.setIfInBounds_toArray, List.set_cons_zero, List.set_cons_succ, i64_w, i32_w]
            rfl
          refine pure_ (i := 7) (N := some 28) (v := ?_) (a' := ?_) #[true, true, true, true, true, true, true, true] rfl rfl (any_of HT_.out (by kernel_rfl)) (fun _ _ _ h => h) (Or.inl ⟨by rfl, ?_⟩) ?_ ?_
          rotate_left
          · intro w'
            go_simp
            with_reducible rfl
          rotate_left
          · simp only [Act.put, List.setIfInBounds_toArray, List.set_cons_zero, List.set_cons_succ, i64_w, i32_w]
            rfl
          refine done_ (done_of HT_.out (by kernel_rfl)) ?_
          try go_wp2
          go_roundg k1
          case measure => have := HK1.out; omega
          case rel => exact ⟨(wrap64 (x7_1 + 1)), (x111000_1), (x111001_1), (by first | rfl | (simp; done) | (simp [*]; done)), H', ⟨by have := HK1.out; omega⟩, ⟨by refine bk ?_; exact BK108.out⟩, ⟨by refine bk ?_; exact BK110.out⟩, ⟨by repeat (first | (with_reducible first | exact HB.out | apply below_alloc | apply pw_below_drewN | apply below_drew1 | refine below_set ?_ GE108.out | refine below_set ?_ GE110.out) | exact HB.out)⟩⟩
        rw [if_neg c12] at H
        exact absurd H (by simp)
      rw [if_neg c11] at H
      have c11b0 : decide (x7_1 < (l0.length : Int)) = false := decide_eq_false c11
      clear c11
      simp only [Option.some.injEq, Prod.mk.injEq] at H
      obtain ⟨rfl, rfl, rfl⟩ := H
      have hnb21 := NB110_108.out
      have hnc21 := NB108_110.out
      obtain ⟨hcz22_0, hcz22_1, hfz22_0, hfz22_1⟩ := k2 BK110.out
      obtain ⟨hcz23_0, hcz23_1, hfz23_0, hfz23_1⟩ := k2 BK108.out
      go_wp2
      refine bodyPost_ret (results_ct rfl _ _ gb108 24 #[.int .i64 x111000_1, .int .i64 x111001_1] (0, 0) _ rfl (by refine bk ?_; refine blk_put (cs := #[.int .i64 x111000_1, .int .i64 0]) ?_ 1 _ rfl; refine bk ?_; refine blk_put (cs := #[.int .i64 0, .int .i64 0]) ?_ 0 _ rfl; refine bk ?_; exact BK108.out) Tryd.underlying24 rfl (by kernel_rfl)) rfl ?_
      exact ⟨by first | rfl | (simp [errW_none, errW_some] <;> rfl) | (simp [*, errW_none, errW_some] <;> rfl), by repeat (first | (with_reducible first | exact HB.out | apply below_alloc | apply pw_below_drewN | apply below_drew1 | refine below_set ?_ GE108.out | refine below_set ?_ GE110.out) | exact HB.out)⟩
  rw [if_neg c6] at H
  exact absurd H (by simp)

end Go.Proofs.YtofndakpenpkbaaDoor.PB
