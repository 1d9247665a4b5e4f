/- Chapter 6: the program's iterator over two rising lists. Chapter 6: points, behind its iterator. Chapter 6: points, its iterator. Chapter 6: points, its lists. Chapter 6: Then told. -/
import Derived.RangeFuncNested
import Derived.RangeFuncBound
import Derived.RangeFuncLeaves
import Derived.Shelf.Abstract
import Derived.WalkKit
import Derived.OwnWalkIn
import Derived.TacticsInMore
import Derived.LoopNIn
import Derived.LoopIn
import Derived.Deep.RegionHeld3
import Derived.Test.YthlpaglldhgmfaaMB
import Derived.Maps.AppendAt
import Derived.Deep.AppendLies
namespace Go.Proofs.Ythlpaglldhgmfaa.PA
open Go Go.RowKit Go.Shelf Go.Proofs.YthlpaglldhgmfaaW.PrintWords Go.Proofs.YthlpaglldhgmfaaW.PrintLast Go.Proofs.YthlpaglldhgmfaaW.PrintMore
attribute [local go_sem] Oper.semAt_some
set_option linter.unusedSimpArgs false
set_option linter.unusedVariables false
/-- what a round keeps: all below n, all boxes but one -/
def KpM (n B : Nat) (W W' : World) : Prop := Below n W W' ∧ ∀ k t u, k ≠ B → t ≠ 31 → Boxed W k t u → Boxed W' k t u
theorem KpM.trans {n B : Nat} {X Y Z : World} (h : KpM n B X Y) (k : KpM n B Y Z) : KpM n B X Z := ⟨h.1.trans k.1, fun i t u h1 h2 h3 => k.2 i t u h1 h2 (h.2 i t u h1 h2 h3)⟩
theorem Boxed.below {W W' : World} {B : Nat} {t : TypeId} {v : Value} (h : Boxed W B t v) (hb : Below W.heap.size W W') : Boxed W' B t v := Hand.kb hb h
theorem grown_of_below {W W' : World} (h : Below W.heap.size W W') : W.grownBy W' none := ⟨h.os, h.tape, h.output, h.size, fun k hk _ => h.block k hk⟩
theorem ent_cmp : Ent 18 := enters_of Try.func18 (by kernel_rfl) rfl
theorem mrg_nil (ys_ : List Rt) : mrgF [] ys_ = ys_ := by rw [mrgF]
theorem mrg_nil2 (xs_ : List Rt) : mrgF xs_ [] = xs_ := by cases xs_ <;> rw [mrgF]
set_option maxHeartbeats 4000000 in
set_option maxRecDepth 100000 in
theorem merged_any (A B : Option Addr) (na ca nb cb : Nat) (w : World) :
    Calls Try.prog 102 #[.slice A na ca, .slice B nb cb, .func (.func 18) #[] #[]] w fun e w' => e = .returned (.func (.func 116) #[] #[.pointer (some ⟨w.heap.size, 0, none⟩), .pointer (some ⟨w.heap.size + 1, 0, none⟩), .pointer (some ⟨w.heap.size + 2, 0, none⟩)]) ∧ w' = ((w.alloc (.cells #[.slice A na ca] 23)).alloc (.cells #[.slice B nb cb] 23)).alloc (.cells #[.func (.func 18) #[] #[]] 38) := by
  go_enter Try.func102, Try.ntmps102
  go_wp2
  go_ret
  exact ⟨rfl, rfl⟩
set_option maxHeartbeats 4000000 in
set_option maxRecDepth 100000 in
theorem mrg_in (l : Nat) (w0 W : World) (A B : Option Addr) (xs_ ys_ : List Rt) (na ca nb cb a b c Bx : Nat) (J Jx : List Rt → World → Prop) (hna : na = xs_.length) (hnb : nb = ys_.length) (hA : RtS w0 A xs_) (hB : RtS w0 B ys_) (hAr : ∀ x ∈ xs_, rRight x = true) (hBr : ∀ x ∈ ys_, rRight x = true) (hN : na + nb ≤ 400) (hbW : Below w0.heap.size w0 W) (ga : Boxed W a 23 (.slice A na ca)) (gb : Boxed W b 23 (.slice B nb cb)) (gc : Boxed W c 38 (.func (.func 18) #[] #[])) (ne : a ≠ Bx ∧ b ≠ Bx ∧ c ≠ Bx) (hJ : ∀ s W1 W2, J s W1 → Below W1.heap.size W1 W2 → J s W2) (hY : ∀ pre x W1, J pre W1 → pre.length < na + nb → YieldAt Fence.wide 1 Try.prog l #[rv x] W1 fun e W' => (e = .returned (.bool true) ∧ J (pre ++ [x]) W' ∧ KpM w0.heap.size Bx W1 W') ∨ (e = .returned (.bool false) ∧ Jx (pre ++ [x]) W')) (h0 : J [] W) :
    Calls Try.prog 116 #[.func (.yield l) #[] #[], .pointer (some ⟨a, 0, none⟩), .pointer (some ⟨b, 0, none⟩), .pointer (some ⟨c, 0, none⟩)] W fun e W' => (∃ v, e = .returned v) ∧ ((∃ xs, xs = mrgF xs_ ys_ ∧ J xs W') ∨ ∃ pre, Jx pre W') := by
  have HA := Lib.hid hA
  have HB := Lib.hid hB
  have HAR := Lib.hid hAr
  have HBR := Lib.hid hBr
  have HJ := Lib.hid hJ
  have HY := Lib.hid hY
  have HNA := Lib.hid hna
  have HNB := Lib.hid hnb
  have NE := Lib.hid ne
  clear hA hB hAr hBr hJ hY hna hnb ne
  go_enter Try.func116, Try.ntmps116
  go_wp2_with fail
  go_loopw [5, 6] (fun p q wr => ∃ (i k : Nat) (pre : List Rt), i ≤ na ∧ k ≤ nb ∧ p = .int .i64 (i : Int) ∧ q = .int .i64 (k : Int) ∧ mrgF xs_ ys_ = pre ++ mrgF (xs_.drop i) (ys_.drop k) ∧ pre.length ≤ i + k ∧ J pre wr ∧ Below w0.heap.size w0 wr ∧ Boxed wr a 23 (.slice A na ca) ∧ Boxed wr b 23 (.slice B nb cb) ∧ Boxed wr c 38 (.func (.func 18) #[] #[])) (fun p q _ => (na - (intOf p).toNat) + (nb - (intOf q).toNat))
  case atStart => exact ⟨0, 0, [], Nat.zero_le _, Nat.zero_le _, rfl, rfl, by simp, Nat.le_refl _, h0, hbW, ga, gb, gc⟩
  case round =>
    obtain ⟨i, k, pre, hi, hk, rfl, rfl, hm, hpl, hJs, hbr, ba, bb, bc⟩ := hrel
    clear h0 hbW ga gb gc
    have HM := Lib.hid hm
    have HJs := Lib.hid hJs
    have HBR0 := Lib.hid hbr
    have HBA := Lib.hid ba
    have HBB := Lib.hid bb
    have HBC := Lib.hid bc
    have ca0 := ba.cell
    have cb0 := bb.cell
    have cc0 := bc.cell
    have fa0 := ba.frozen
    have fb0 := bb.frozen
    have fc0 := bc.frozen
    have la := ba.lt
    have lb := bb.lt
    have lc := bc.lt
    clear hm hJs hbr ba bb bc
    by_cases hik : i = na ∧ k = nb
    · obtain ⟨rfl, rfl⟩ := hik
      have p1 : ((i : Int) < (i : Int)) = False := eq_false (by omega)
      have p2 : ((k : Int) < (k : Int)) = False := eq_false (by omega)
      go_wp2
      go_end0
      refine ⟨⟨_, rfl⟩, .inl ⟨_, rfl, ?_⟩⟩
      have e := HM.out
      rw [List.drop_eq_nil_of_le (by rw [← HNA.out]; omega), List.drop_eq_nil_of_le (by rw [← HNB.out]; omega), mrg_nil, List.append_nil] at e
      rw [e]; exact HJs.out
    · have hlt : pre.length < na + nb := by omega
      have p5 : (0 : Int) ≤ (i : Int) := by omega
      have q5 : (0 : Int) ≤ (k : Int) := by omega
      have wi : IntKind.i64.wrap (i : Int) = (i : Int) := by rw [IntKind.wrap_i64]; omega
      have wk : IntKind.i64.wrap (k : Int) = (k : Int) := by rw [IntKind.wrap_i64]; omega
      have wi1 : IntKind.i64.wrap ((i : Int) + 1) = ((i + 1 : Nat) : Int) := by rw [IntKind.wrap_i64]; omega
      have wk1 : IntKind.i64.wrap ((k : Int) + 1) = ((k + 1 : Nat) : Int) := by rw [IntKind.wrap_i64]; omega
      refine wp_seq_k (fun K1 hK1 => ?_)
      have HK1 := Lib.hid hK1
      clear hK1
      have K1KEY : ∀ {z7 z8 z9 z10 z11 z12 z13 z14 z15 z16 z17 z18 z19 z20 z21 z22 z23 z24 z25 z26 z27 z28 z29 z30 z31 z32 z33 z34 z35 z36 z37 z38 z39 z40 z41 z42 z43 z44 z45 z46 z47 z48 z49 z50 z51 z52 z53 z54 z55 z56 z57 z58 z59 z60 z61 z62 z63 z64 z65 z66 z67 z68 z69 z70 z71 z72 z73 z74 z75 z76 z77 z78 z79 z80 z81 z82 z83 : Value}, K1 ⟨#[.func (.yield l) #[] #[], .pointer (some ⟨a, 0, none⟩), .pointer (some ⟨b, 0, none⟩), .pointer (some ⟨c, 0, none⟩), undef, .int .i64 (i : Int), .int .i64 (k : Int), z7, z8, z9, z10, z11, z12, z13, z14, z15, z16, z17, z18, z19, z20, z21, z22, z23, z24, z25, z26, z27, z28, z29, z30, z31, z32, z33, z34, z35, z36, z37, z38, z39, z40, z41, z42, z43, z44, z45, z46, z47, z48, z49, z50, z51, z52, z53, z54, z55, z56, z57, z58, z59, z60, z61, z62, z63, z64, z65, z66, z67, z68, z69, z70, z71, z72, z73, z74, z75, z76, z77, z78, z79, z80, z81, z82, z83], []⟩ wr := by
        intros
        refine HK1.out _ _ ?_
        refine wp_block ?_
        refine wp_seq_k (fun K2 hK2 => ?_)
        have HK2 := Lib.hid hK2
        clear hK2
        go_wp2
        refine HK2.out _ _ ?_
        refine wp_seq_k (fun K3 hK3 => ?_)
        have HK3 := Lib.hid hK3
        clear hK3
        have KEY : ∀ (i' k' gx : Nat) (x1 x2 : Int) (V : World) {z8 z9 z10 z11 z12 z13 z14 z15 z16 z17 z18 z19 z20 z21 z22 z23 z24 z25 z26 z27 z28 z29 z30 z31 z32 z33 z34 z35 z36 z37 z38 z39 z40 z41 z42 z43 z44 z45 z46 z47 z48 z49 z50 z51 z52 z53 z54 z55 z56 z57 z58 z59 z60 z61 z62 z63 z64 z65 z66 z67 z68 z69 z70 z71 z72 z73 z74 z75 z76 z77 z78 z79 z80 z81 z82 z83 : Value} (hi' : i' ≤ na) (hk' : k' ≤ nb) (hsum : i + k < i' + k') (hx : mrgF xs_ ys_ = pre ++ [(x1, x2)] ++ mrgF (xs_.drop i') (ys_.drop k')) (hBV : Below wr.heap.size wr V) (gX : V.heap[gx]? = some (.cells #[.int .i64 x1, .int .i64 x2] 31 (0, 0))), K3 ⟨#[.func (.yield l) #[] #[], .pointer (some ⟨a, 0, none⟩), .pointer (some ⟨b, 0, none⟩), .pointer (some ⟨c, 0, none⟩), undef, .int .i64 (i' : Int), .int .i64 (k' : Int), .pointer (some ⟨gx, 0, none⟩), z8, z9, z10, z11, z12, z13, z14, z15, z16, z17, z18, z19, z20, z21, z22, z23, z24, z25, z26, z27, z28, z29, z30, z31, z32, z33, z34, z35, z36, z37, z38, z39, z40, z41, z42, z43, z44, z45, z46, z47, z48, z49, z50, z51, z52, z53, z54, z55, z56, z57, z58, z59, z60, z61, z62, z63, z64, z65, z66, z67, z68, z69, z70, z71, z72, z73, z74, z75, z76, z77, z78, z79, z80, z81, z82, z83], []⟩ V := by
          intro i' k' gx x1 x2 V
          intros
          rename_i hi' hk' hsum hx hBV gX
          refine HK3.out _ _ ?_
          have HX := Lib.hid hx
          have HBV := Lib.hid hBV
          clear hx hBV
          obtain ⟨fn, tmps, assign, body, hy, hR⟩ := HY.out pre (x1, x2) _ (HJ.out _ _ _ HJs.out HBV.out) hlt
          dsimp only [rv] at hy
          obtain ⟨c0, f0, c1, f1⟩ := Hand.hc2 gX
          refine (wpIn_wide (n := 2)).1 ?_
          gi_wp2
          refine hR.mono ?_
          rintro e_ W3 (⟨rfl, hJ3, hk3⟩ | ⟨rfl, hJx3⟩)
          · gi_wp2
            go_roundw
            case rel => exact ⟨i', k', pre ++ [(x1, x2)], hi', hk', rfl, rfl, HX.out, by rw [List.length_append]; simp only [List.length_cons, List.length_nil]; omega, hJ3, HBR0.out.trans ((HBV.out.mono HBR0.out.size).trans hk3.1), hk3.2 _ _ _ NE.out.1 (by decide) (Boxed.below HBA.out HBV.out), hk3.2 _ _ _ NE.out.2.1 (by decide) (Boxed.below HBB.out HBV.out), hk3.2 _ _ _ NE.out.2.2 (by decide) (Boxed.below HBC.out HBV.out)⟩
            case measure => simp [intOf]; omega
          · gi_wp2
            refine bodyPost_ret (results_none rfl _ _ _) rfl ?_
            exact ⟨⟨_, rfl⟩, .inr ⟨_, hJx3⟩⟩
        obtain ⟨V, hV⟩ : ∃ V_, V_ = wr.alloc (.cells #[.int .i64 0, .int .i64 0] 31) := ⟨_, rfl⟩
        rw [← hV]
        have hBV : Below wr.heap.size wr V := by rw [hV]; exact (Below.refl _ _).alloc (Nat.le_refl _) _
        have gX : V.heap[wr.heap.size]? = some (.cells #[.int .i64 0, .int .i64 0] 31 (0, 0)) := by rw [hV]; exact Hand.q3 _ _ _ rfl
        clear hV
        by_cases hkn : k = nb
        · subst hkn
          have HLT := Lib.hid (show i < na by omega)
          have p1 : ((i : Int) < (na : Int)) = True := eq_true (by omega)
          have p6 : (i < na) = True := eq_true (by omega)
          have q2 : ((k : Int) == (k : Int)) = true := by simp
          obtain ⟨a_ex, rfl, h_ex⟩ : ∃ a0, A = some a0 ∧ RtA wr a0 xs_ := by rcases HA.out.below HBR0.out with h | h; exact absurd (show na = 0 by rw [HNA.out, h]; rfl) (by omega); exact h
          have l_ex : i < xs_.length := by rw [← HNA.out]; omega
          obtain ⟨⟨ex1, ex2⟩, e_ex⟩ : ∃ x, xs_[i]'l_ex = x := ⟨_, rfl⟩
          have d_ex : xs_.drop i = (ex1, ex2) :: xs_.drop (i + 1) := by rw [List.drop_eq_getElem_cons l_ex, e_ex]
          have CT_ex := Lib.hid (fun (u : World) (hu : Below wr.heap.size wr u) => (by have := (h_ex.below hu) i l_ex; rw [e_ex] at this; exact this : u.cell? (a_ex.add (i * 2)) = some (.int .i64 ex1) ∧ u.cell? ⟨(a_ex.add (i * 2)).block, (a_ex.add (i * 2)).off + 1, none⟩ = some (.int .i64 ex2)))
          have b_a := Boxed.below HBA.out hBV
          have b_b := Boxed.below HBB.out hBV
          have b_c := Boxed.below HBC.out hBV
          have ca0 := b_a.cell
          have cb0 := b_b.cell
          have cc0 := b_c.cell
          have fa0 := b_a.frozen
          have fb0 := b_b.frozen
          have fc0 := b_c.frozen
          go_wp2_with fail
          go_quiet (fail)
          clear ca0 cb0 cc0 fa0 fb0 fc0 b_a b_b b_c
          obtain ⟨U, hU⟩ : ∃ V_, V_ = V.drewN nq := ⟨_, rfl⟩
          rw [← hU]
          have hBU : Below wr.heap.size wr U := by rw [hU]; apply pw_below_drewN; exact hBV
          have gU : U.heap[wr.heap.size]? = some (.cells #[.int .i64 0, .int .i64 0] 31 (0, 0)) := by rw [hU]; exact gX
          clear hU hBV gX
          have b_a := Boxed.below HBA.out hBU
          have b_b := Boxed.below HBB.out hBU
          have b_c := Boxed.below HBC.out hBU
          have ca0 := b_a.cell
          have cb0 := b_b.cell
          have cc0 := b_c.cell
          have fa0 := b_a.frozen
          have fb0 := b_b.frozen
          have fc0 := b_c.frozen
          obtain ⟨s0_, fs0_, s1_, fs1_⟩ := Hand.hc2 gU
          have uz := (Hand.hz gU).1
          obtain ⟨k0, k1⟩ := CT_ex.out _ hBU
          clear b_a b_b b_c
          go_wp2_with fail
          exact KEY (i + 1) (k) _ ex1 ex2 _ (by have := HLT.out; omega) (by have := HLT.out; omega) (by omega) (by rw [HM.out, d_ex, List.drop_eq_nil_of_le (show ys_.length ≤ k by rw [← HNB.out]; omega), mrg_nil2, mrg_nil2]; simp) (by repeat (with_reducible first | exact hBU | refine Below.setCell ?_ (by dsimp only; omega) _)) (by simp (disch := omega) only [Hand.q1, gU]; rfl)
        · by_cases hin : i = na
          · subst hin
            have HLT := Lib.hid (show k < nb by omega)
            have p1 : ((i : Int) < (i : Int)) = False := eq_false (by omega)
            have p7 : ((k : Int) < (nb : Int)) = True := eq_true (by omega)
            have p8 : (k < nb) = True := eq_true (by omega)
            have q2 : ((k : Int) == (nb : Int)) = false := by simp; omega
            have q3 : ((i : Int) == (i : Int)) = true := by simp
            obtain ⟨a_ey, rfl, h_ey⟩ : ∃ a0, B = some a0 ∧ RtA wr a0 ys_ := by rcases HB.out.below HBR0.out with h | h; exact absurd (show nb = 0 by rw [HNB.out, h]; rfl) (by omega); exact h
            have l_ey : k < ys_.length := by rw [← HNB.out]; omega
            obtain ⟨⟨ey1, ey2⟩, e_ey⟩ : ∃ x, ys_[k]'l_ey = x := ⟨_, rfl⟩
            have d_ey : ys_.drop k = (ey1, ey2) :: ys_.drop (k + 1) := by rw [List.drop_eq_getElem_cons l_ey, e_ey]
            have CT_ey := Lib.hid (fun (u : World) (hu : Below wr.heap.size wr u) => (by have := (h_ey.below hu) k l_ey; rw [e_ey] at this; exact this : u.cell? (a_ey.add (k * 2)) = some (.int .i64 ey1) ∧ u.cell? ⟨(a_ey.add (k * 2)).block, (a_ey.add (k * 2)).off + 1, none⟩ = some (.int .i64 ey2)))
            have b_a := Boxed.below HBA.out hBV
            have b_b := Boxed.below HBB.out hBV
            have b_c := Boxed.below HBC.out hBV
            have ca0 := b_a.cell
            have cb0 := b_b.cell
            have cc0 := b_c.cell
            have fa0 := b_a.frozen
            have fb0 := b_b.frozen
            have fc0 := b_c.frozen
            go_wp2_with fail
            go_quiet (fail)
            clear ca0 cb0 cc0 fa0 fb0 fc0 b_a b_b b_c
            obtain ⟨V2, hU⟩ : ∃ V_, V_ = V.drewN nq := ⟨_, rfl⟩
            rw [← hU]
            have hBV2 : Below wr.heap.size wr V2 := by rw [hU]; apply pw_below_drewN; exact hBV
            have gX2 : V2.heap[wr.heap.size]? = some (.cells #[.int .i64 0, .int .i64 0] 31 (0, 0)) := by rw [hU]; exact gX
            clear hU hBV gX
            have b_a := Boxed.below HBA.out hBV2
            have b_b := Boxed.below HBB.out hBV2
            have b_c := Boxed.below HBC.out hBV2
            have ca0 := b_a.cell
            have cb0 := b_b.cell
            have cc0 := b_c.cell
            have fa0 := b_a.frozen
            have fb0 := b_b.frozen
            have fc0 := b_c.frozen
            go_wp2_with fail
            go_quiet (fail)
            clear ca0 cb0 cc0 fa0 fb0 fc0 b_a b_b b_c
            obtain ⟨U, hU⟩ : ∃ V_, V_ = V2.drewN nq := ⟨_, rfl⟩
            rw [← hU]
            have hBU : Below wr.heap.size wr U := by rw [hU]; apply pw_below_drewN; exact hBV2
            have gU : U.heap[wr.heap.size]? = some (.cells #[.int .i64 0, .int .i64 0] 31 (0, 0)) := by rw [hU]; exact gX2
            clear hU hBV2 gX2
            have b_a := Boxed.below HBA.out hBU
            have b_b := Boxed.below HBB.out hBU
            have b_c := Boxed.below HBC.out hBU
            have ca0 := b_a.cell
            have cb0 := b_b.cell
            have cc0 := b_c.cell
            have fa0 := b_a.frozen
            have fb0 := b_b.frozen
            have fc0 := b_c.frozen
            obtain ⟨s0_, fs0_, s1_, fs1_⟩ := Hand.hc2 gU
            have uz := (Hand.hz gU).1
            obtain ⟨k0, k1⟩ := CT_ey.out _ hBU
            clear b_a b_b b_c
            go_wp2_with fail
            exact KEY (i) (k + 1) _ ey1 ey2 _ (by have := HLT.out; omega) (by have := HLT.out; omega) (by omega) (by rw [HM.out, d_ey, List.drop_eq_nil_of_le (show xs_.length ≤ i by rw [← HNA.out]; omega), mrg_nil, mrg_nil]; simp) (by repeat (with_reducible first | exact hBU | refine Below.setCell ?_ (by dsimp only; omega) _)) (by simp (disch := omega) only [Hand.q1, gU]; rfl)
          · have HLT := Lib.hid (show i < na ∧ k < nb by omega)
            have p1 : ((i : Int) < (na : Int)) = True := eq_true (by omega)
            have p6 : (i < na) = True := eq_true (by omega)
            have p7 : ((k : Int) < (nb : Int)) = True := eq_true (by omega)
            have p8 : (k < nb) = True := eq_true (by omega)
            have q2 : ((k : Int) == (nb : Int)) = false := by simp; omega
            have q3 : ((i : Int) == (na : Int)) = false := by simp; omega
            obtain ⟨a_ex, rfl, h_ex⟩ : ∃ a0, A = some a0 ∧ RtA wr a0 xs_ := by rcases HA.out.below HBR0.out with h | h; exact absurd (show na = 0 by rw [HNA.out, h]; rfl) (by omega); exact h
            have l_ex : i < xs_.length := by rw [← HNA.out]; omega
            obtain ⟨⟨ex1, ex2⟩, e_ex⟩ : ∃ x, xs_[i]'l_ex = x := ⟨_, rfl⟩
            have d_ex : xs_.drop i = (ex1, ex2) :: xs_.drop (i + 1) := by rw [List.drop_eq_getElem_cons l_ex, e_ex]
            have CT_ex := Lib.hid (fun (u : World) (hu : Below wr.heap.size wr u) => (by have := (h_ex.below hu) i l_ex; rw [e_ex] at this; exact this : u.cell? (a_ex.add (i * 2)) = some (.int .i64 ex1) ∧ u.cell? ⟨(a_ex.add (i * 2)).block, (a_ex.add (i * 2)).off + 1, none⟩ = some (.int .i64 ex2)))
            obtain ⟨a_ey, rfl, h_ey⟩ : ∃ a0, B = some a0 ∧ RtA wr a0 ys_ := by rcases HB.out.below HBR0.out with h | h; exact absurd (show nb = 0 by rw [HNB.out, h]; rfl) (by omega); exact h
            have l_ey : k < ys_.length := by rw [← HNB.out]; omega
            obtain ⟨⟨ey1, ey2⟩, e_ey⟩ : ∃ x, ys_[k]'l_ey = x := ⟨_, rfl⟩
            have d_ey : ys_.drop k = (ey1, ey2) :: ys_.drop (k + 1) := by rw [List.drop_eq_getElem_cons l_ey, e_ey]
            have CT_ey := Lib.hid (fun (u : World) (hu : Below wr.heap.size wr u) => (by have := (h_ey.below hu) k l_ey; rw [e_ey] at this; exact this : u.cell? (a_ey.add (k * 2)) = some (.int .i64 ey1) ∧ u.cell? ⟨(a_ey.add (k * 2)).block, (a_ey.add (k * 2)).off + 1, none⟩ = some (.int .i64 ey2)))
            have rx : rRight (ex1, ex2) = true := by rw [← e_ex]; exact HAR.out _ (List.getElem_mem l_ex)
            have ry : rRight (ey1, ey2) = true := by rw [← e_ey]; exact HBR.out _ (List.getElem_mem l_ey)
            have M1 := Lib.hid (fun u => cmp_k (ex1, ex2) (ey1, ey2) u (right_R64 rx) (right_R64 ry) rx ry)
            have M2 := Lib.hid (fun u => cmp_k (ey1, ey2) (ex1, ex2) u (right_R64 ry) (right_R64 rx) ry rx)
            have HMM := Lib.hid (HM.out.trans (by rw [d_ex, d_ey, mrgF]))
            obtain ⟨c1, hc1⟩ : ∃ c, rCmp (ex1, ex2) (ey1, ey2) = c := ⟨_, rfl⟩
            obtain ⟨c2, hc2⟩ : ∃ c, rCmp (ey1, ey2) (ex1, ex2) = c := ⟨_, rfl⟩
            rw [hc1] at M1 HMM
            rw [hc2] at M2 HMM
            dsimp only [rv] at M1 M2
            clear hc1 hc2 rx ry
            have b_a := Boxed.below HBA.out hBV
            have b_b := Boxed.below HBB.out hBV
            have b_c := Boxed.below HBC.out hBV
            have ca0 := b_a.cell
            have cb0 := b_b.cell
            have cc0 := b_c.cell
            have fa0 := b_a.frozen
            have fb0 := b_b.frozen
            have fc0 := b_c.frozen
            have HEN : Ent 18 := ent_cmp
            go_wp2_with fail
            have HC1 := Lib.hid (fun (w_ : World) (h : Below V.heap.size V w_) => (by have h2 := Hand.stepB h hBV (Nat.le_refl _); obtain ⟨x1_, x2_⟩ := CT_ex.out _ h2; obtain ⟨y1_, y2_⟩ := CT_ey.out _ h2; exact ⟨h, (Boxed.below HBA.out h2).cell, (Boxed.below HBB.out h2).cell, (Boxed.below HBC.out h2).cell, x1_, y1_, x2_, y2_⟩ : Below V.heap.size V w_ ∧ w_.cell? ⟨a, 0, none⟩ = some (.slice (some a_ex) na ca) ∧ w_.cell? ⟨b, 0, none⟩ = some (.slice (some a_ey) nb cb) ∧ w_.cell? ⟨c, 0, none⟩ = some (.func (.func 18) #[] #[]) ∧ w_.cell? (a_ex.add (i * 2)) = some (.int .i64 ex1) ∧ w_.cell? (a_ey.add (k * 2)) = some (.int .i64 ey1) ∧ w_.cell? ⟨(a_ex.add (i * 2)).block, (a_ex.add (i * 2)).off + 1, none⟩ = some (.int .i64 ex2) ∧ w_.cell? ⟨(a_ey.add (k * 2)).block, (a_ey.add (k * 2)).off + 1, none⟩ = some (.int .i64 ey2)))
            have BR1 : Below V.heap.size V V := Below.refl _ _
            go_region_held3 (fun w_ => Below V.heap.size V w_ ∧ w_.cell? ⟨a, 0, none⟩ = some (.slice (some a_ex) na ca) ∧ w_.cell? ⟨b, 0, none⟩ = some (.slice (some a_ey) nb cb) ∧ w_.cell? ⟨c, 0, none⟩ = some (.func (.func 18) #[] #[]) ∧ w_.cell? (a_ex.add (i * 2)) = some (.int .i64 ex1) ∧ w_.cell? (a_ey.add (k * 2)) = some (.int .i64 ey1) ∧ w_.cell? ⟨(a_ex.add (i * 2)).block, (a_ex.add (i * 2)).off + 1, none⟩ = some (.int .i64 ex2) ∧ w_.cell? ⟨(a_ey.add (k * 2)).block, (a_ey.add (k * 2)).off + 1, none⟩ = some (.int .i64 ey2)) (first | (refine HC1.out _ ?_; repeat (with_reducible first | assumption | apply Below.drew))) (first | (go_at_fn 18; ((with_reducible refine (M1.out _).mono ?_); rintro e w1_ ⟨rfl, hb1_⟩; have BB1 : Below V.heap.size V w1_ := Hand.stepB hb1_ (by repeat (with_reducible first | assumption | apply Below.drew)) (Nat.le_refl _))))
            clear ca0 cb0 cc0 fa0 fb0 fc0 b_a b_b b_c
            have hBU : Below wr.heap.size wr w1_ := Hand.stepB BB1 hBV (Nat.le_refl _)
            have gU := Hand.kb BB1 gX
            clear BB1 BR1 hBV gX
            by_cases h1 : c1 < 0
            · have j1 : decide (c1 < 0) = true := by simpa using h1
              have b_a := Boxed.below HBA.out hBU
              have b_b := Boxed.below HBB.out hBU
              have b_c := Boxed.below HBC.out hBU
              have ca0 := b_a.cell
              have cb0 := b_b.cell
              have cc0 := b_c.cell
              have fa0 := b_a.frozen
              have fb0 := b_b.frozen
              have fc0 := b_c.frozen
              obtain ⟨s0_, fs0_, s1_, fs1_⟩ := Hand.hc2 gU
              have uz := (Hand.hz gU).1
              obtain ⟨k0, k1⟩ := CT_ex.out _ hBU
              clear b_a b_b b_c
              go_wp2_with fail
              exact KEY (i + 1) (k) _ ex1 ex2 _ (by have := HLT.out; omega) (by have := HLT.out; omega) (by omega) (by rw [HMM.out, if_pos (show c1 < 0 by omega), d_ey]; simp) (by repeat (with_reducible first | exact hBU | refine Below.setCell ?_ (by dsimp only; omega) _)) (by simp (disch := omega) only [Hand.q1, gU]; rfl)
            · have j1 : decide (c1 < 0) = false := by simpa using h1
              have b_a := Boxed.below HBA.out hBU
              have b_b := Boxed.below HBB.out hBU
              have b_c := Boxed.below HBC.out hBU
              have ca0 := b_a.cell
              have cb0 := b_b.cell
              have cc0 := b_c.cell
              have fa0 := b_a.frozen
              have fb0 := b_b.frozen
              have fc0 := b_c.frozen
              go_wp2_with fail
              have HC2 := Lib.hid (fun (w_ : World) (h : Below w1_.heap.size w1_ w_) => (by have h2 := Hand.stepB h hBU (Nat.le_refl _); obtain ⟨x1_, x2_⟩ := CT_ex.out _ h2; obtain ⟨y1_, y2_⟩ := CT_ey.out _ h2; exact ⟨h, (Boxed.below HBA.out h2).cell, (Boxed.below HBB.out h2).cell, (Boxed.below HBC.out h2).cell, x1_, y1_, x2_, y2_⟩ : Below w1_.heap.size w1_ w_ ∧ w_.cell? ⟨a, 0, none⟩ = some (.slice (some a_ex) na ca) ∧ w_.cell? ⟨b, 0, none⟩ = some (.slice (some a_ey) nb cb) ∧ w_.cell? ⟨c, 0, none⟩ = some (.func (.func 18) #[] #[]) ∧ w_.cell? (a_ex.add (i * 2)) = some (.int .i64 ex1) ∧ w_.cell? (a_ey.add (k * 2)) = some (.int .i64 ey1) ∧ w_.cell? ⟨(a_ex.add (i * 2)).block, (a_ex.add (i * 2)).off + 1, none⟩ = some (.int .i64 ex2) ∧ w_.cell? ⟨(a_ey.add (k * 2)).block, (a_ey.add (k * 2)).off + 1, none⟩ = some (.int .i64 ey2)))
              have BR2 : Below w1_.heap.size w1_ w1_ := Below.refl _ _
              go_region_held3 (fun w_ => Below w1_.heap.size w1_ w_ ∧ w_.cell? ⟨a, 0, none⟩ = some (.slice (some a_ex) na ca) ∧ w_.cell? ⟨b, 0, none⟩ = some (.slice (some a_ey) nb cb) ∧ w_.cell? ⟨c, 0, none⟩ = some (.func (.func 18) #[] #[]) ∧ w_.cell? (a_ex.add (i * 2)) = some (.int .i64 ex1) ∧ w_.cell? (a_ey.add (k * 2)) = some (.int .i64 ey1) ∧ w_.cell? ⟨(a_ex.add (i * 2)).block, (a_ex.add (i * 2)).off + 1, none⟩ = some (.int .i64 ex2) ∧ w_.cell? ⟨(a_ey.add (k * 2)).block, (a_ey.add (k * 2)).off + 1, none⟩ = some (.int .i64 ey2)) (first | (refine HC2.out _ ?_; repeat (with_reducible first | assumption | apply Below.drew))) (first | (go_at_fn 18; ((with_reducible refine (M2.out _).mono ?_); rintro e w2_ ⟨rfl, hb2_⟩; have BB2 : Below w1_.heap.size w1_ w2_ := Hand.stepB hb2_ (by repeat (with_reducible first | assumption | apply Below.drew)) (Nat.le_refl _))))
              clear ca0 cb0 cc0 fa0 fb0 fc0 b_a b_b b_c
              have hBU2 : Below wr.heap.size wr w2_ := Hand.stepB BB2 hBU (Nat.le_refl _)
              have gU2 := Hand.kb BB2 gU
              clear BB2 BR2 hBU gU
              have hBU := hBU2
              have gU := gU2
              clear hBU2 gU2
              by_cases h2 : c2 < 0
              · have j2 : decide (c2 < 0) = true := by simpa using h2
                have b_a := Boxed.below HBA.out hBU
                have b_b := Boxed.below HBB.out hBU
                have b_c := Boxed.below HBC.out hBU
                have ca0 := b_a.cell
                have cb0 := b_b.cell
                have cc0 := b_c.cell
                have fa0 := b_a.frozen
                have fb0 := b_b.frozen
                have fc0 := b_c.frozen
                obtain ⟨s0_, fs0_, s1_, fs1_⟩ := Hand.hc2 gU
                have uz := (Hand.hz gU).1
                obtain ⟨k0, k1⟩ := CT_ey.out _ hBU
                clear b_a b_b b_c
                go_wp2_with fail
                exact KEY (i) (k + 1) _ ey1 ey2 _ (by have := HLT.out; omega) (by have := HLT.out; omega) (by omega) (by rw [HMM.out, if_neg (show ¬ c1 < 0 by omega), if_pos (show c2 < 0 by omega), d_ex]; simp) (by repeat (with_reducible first | exact hBU | refine Below.setCell ?_ (by dsimp only; omega) _)) (by simp (disch := omega) only [Hand.q1, gU]; rfl)
              · have j2 : decide (c2 < 0) = false := by simpa using h2
                have b_a := Boxed.below HBA.out hBU
                have b_b := Boxed.below HBB.out hBU
                have b_c := Boxed.below HBC.out hBU
                have ca0 := b_a.cell
                have cb0 := b_b.cell
                have cc0 := b_c.cell
                have fa0 := b_a.frozen
                have fb0 := b_b.frozen
                have fc0 := b_c.frozen
                obtain ⟨s0_, fs0_, s1_, fs1_⟩ := Hand.hc2 gU
                have uz := (Hand.hz gU).1
                obtain ⟨k0, k1⟩ := CT_ex.out _ hBU
                clear b_a b_b b_c
                go_wp2_with fail
                exact KEY (i + 1) (k + 1) _ ex1 ex2 _ (by have := HLT.out; omega) (by have := HLT.out; omega) (by omega) (by rw [HMM.out, if_neg (show ¬ c1 < 0 by omega), if_neg (show ¬ c2 < 0 by omega)]; simp) (by repeat (with_reducible first | exact hBU | refine Below.setCell ?_ (by dsimp only; omega) _)) (by simp (disch := omega) only [Hand.q1, gU]; rfl)
      by_cases hin : i < na
      · have p1 : ((i : Int) < (na : Int)) = True := eq_true (by omega)
        go_wp2
        exact K1KEY
      · have p1 : ((i : Int) < (na : Int)) = False := eq_false (by omega)
        have p2 : ((k : Int) < (nb : Int)) = True := eq_true (by omega)
        go_wp2
        exact K1KEY
theorem mrg_stops (B : Nat) (w0 W : World) (A B_ : Option Addr) (xs_ ys_ : List Rt) (na ca nb cb a b c : Nat) (hna : na = xs_.length) (hnb : nb = ys_.length) (hA : RtS w0 A xs_) (hB : RtS w0 B_ ys_) (hAr : ∀ x ∈ xs_, rRight x = true) (hBr : ∀ x ∈ ys_, rRight x = true) (hN : na + nb ≤ 400) (hbW : Below w0.heap.size w0 W) (ga : Boxed W a 23 (.slice A na ca)) (gb : Boxed W b 23 (.slice B_ nb cb)) (gc : Boxed W c 38 (.func (.func 18) #[] #[])) (ne : a ≠ B ∧ b ≠ B ∧ c ≠ B) :
    SeqStopsK Fence.wide 2 Try.prog 116 #[.pointer (some ⟨a, 0, none⟩), .pointer (some ⟨b, 0, none⟩), .pointer (some ⟨c, 0, none⟩)] (fun x : Rt => #[rv x]) (KpM w0.heap.size B) (fun xs => xs = mrgF xs_ ys_) (fun _ => True) (na + nb) W := by
  intro l J Jx W1 hW hJ hJx hY h0
  refine (callsIn_wide (n := 2)).2 ?_
  refine (mrg_in l w0 W1 A B_ xs_ ys_ na ca nb cb a b c B J Jx hna hnb hA hB hAr hBr hN (hbW.trans (hW.mono hbW.size)) (Boxed.below ga hW) (Boxed.below gb hW) (Boxed.below gc hW) ne (fun s X Y hs hb => hJ s X Y none hs (grown_of_below hb) (fun r e => by cases e)) hY h0).mono ?_
  rintro e W2 ⟨hv, h | ⟨pre, h⟩⟩
  · exact ⟨hv, .inl h⟩
  · exact ⟨hv, .inr ⟨pre, trivial, h⟩⟩
end Go.Proofs.Ythlpaglldhgmfaa.PA
namespace Go.Proofs.Ythlpaglldhgmfaa.PA
open Go Go.RowKit Go.Proofs.YthlpaglldhgmfaaW.PrintWords Go.Proofs.YthlpaglldhgmfaaW.PrintLast Go.Proofs.YthlpaglldhgmfaaW.PrintMore
attribute [local go_sem high] eqA31 eqA35
set_option linter.unusedSimpArgs false
set_option linter.unusedVariables false
open Go.Shelf
attribute [local go_sem] Oper.semAt_some
noncomputable def ptsT1 : Code := sndC (Try.f67.body.getD .skip)
noncomputable def ptsT2 : Code := sndC ptsT1
noncomputable def ptsT3 : Code := sndC ptsT2
noncomputable def ptsT4 : Code := sndC ptsT3
noncomputable def ptsT5 : Code := sndC ptsT4
noncomputable def ptsT6 : Code := sndC ptsT5
noncomputable def ptsT7 : Code := sndC ptsT6
noncomputable def ptsT8 : Code := sndC ptsT7
noncomputable def ptsT9 : Code := sndC ptsT8
noncomputable def ptsT10 : Code := sndC ptsT9
theorem ptsE1 : ptsT1 = .seq (fstC ptsT1) ptsT2 := by kernel_rfl
theorem ptsE2 : ptsT2 = .seq (fstC ptsT2) ptsT3 := by kernel_rfl
theorem ptsE3 : ptsT3 = .seq (fstC ptsT3) ptsT4 := by kernel_rfl
theorem ptsE4 : ptsT4 = .seq (fstC ptsT4) ptsT5 := by kernel_rfl
theorem ptsE5 : ptsT5 = .seq (fstC ptsT5) ptsT6 := by kernel_rfl
theorem ptsE6 : ptsT6 = .seq (fstC ptsT6) ptsT7 := by kernel_rfl
theorem ptsE7 : ptsT7 = .seq (fstC ptsT7) ptsT8 := by kernel_rfl
theorem ptsE8 : ptsT8 = .seq (fstC ptsT8) ptsT9 := by kernel_rfl
theorem ptsE9 : ptsT9 = .seq (fstC ptsT9) ptsT10 := by kernel_rfl
theorem ptsE0 : Try.f67.body.getD .skip = .seq (fstC (Try.f67.body.getD .skip)) ptsT1 := by kernel_rfl
/-- what points gives -/
def PtsQ (w : World) (r : List Rt × Int) (e : Ending) (w' : World) : Prop := ∃ v, e = .returned (.tuple #[v, .int .i64 r.2]) ∧ (r.2 = 0 → ∃ A c, v = .slice A r.1.length c ∧ RtS w' A r.1) ∧ Below w.heap.size w w'
theorem retM0 {F : Fence} {n : Nat} {P : Program} {fn : Func} {R : Ending → World → Prop} {tmps : Array Value} {w : World} {v : Value} (h : (results fn tmps).run P w = .ok v w) (hR : R (.returned v) w) : bodyPostM F n P fn R .ret ⟨tmps, []⟩ w := ⟨v, h, hR⟩
theorem retM1 {F : Fence} {n : Nat} {P : Program} {fn : Func} {R : Ending → World → Prop} {tmps : Array Value} {w : World} {v : Value} {D : Nat} (hK : w.heap[D]? = some (.deferred (some []))) (h : ∀ w, (results fn tmps).run P w = .ok v w) (hR : R (.returned v) (w.putObj D (.deferred none))) : bodyPostM F n P fn R .ret ⟨tmps, [{ target := .collected D, args := #[] }]⟩ w := ⟨by simp, .inl ⟨_, _, rfl, run_takeDeferred hK, ⟨v, h _, hR⟩⟩⟩
theorem RtA.put {W : World} {ad : Addr} {l : List Rt} {D : Nat} (h : RtA W ad l) (hK : W.heap[D]? = some (.deferred (some []))) (o : Obj) : RtA (W.putObj D o) ad l := fun j hj =>
  ⟨cell_kept (h j hj).1 (grownBy_putObj' W D o) (fun r e => by cases e; exact ⟨_, hK, rfl⟩), cell_kept (h j hj).2 (grownBy_putObj' W D o) (fun r e => by cases e; exact ⟨_, hK, rfl⟩)⟩
theorem below_put {w W : World} {D : Nat} (h : Below w.heap.size w W) (hK : W.heap[D]? = some (.deferred (some []))) (hD : w.heap.size ≤ D) (o : Obj) : Below w.heap.size w (W.putObj D o) :=
  h.trans (belowK_b (w := w) (Nat.le_refl _) W D _ o hD hK rfl rfl)
theorem rta2 {w : World} {g : Nat} {a b c d : Int} (h : w.heap[g]? = some (.cells #[.int .i64 a, .int .i64 b, .int .i64 c, .int .i64 d] 31 (0, 0))) : RtA w ⟨g, 0, none⟩ [(a, b), (c, d)] := by
  obtain ⟨c0, _, c1, _, c2, _, c3, _⟩ := Hand.hc4 h
  intro j hj
  rw [add0]
  match j, hj with
  | 0, _ => exact ⟨c0, c1⟩
  | 1, _ => exact ⟨c2, c3⟩
theorem rta_flat {w : World} {ad : Addr} {l : List Rt} (h : RtA w ad l) : ∀ j u, (flatT l)[j]? = some u → w.cell? (ad.add j) = some u := by
  intro j u hu
  have hl : j < l.length * 2 := by rw [← flatT_len]; exact (List.getElem?_eq_some_iff.1 hu).1
  have hq : j / 2 < l.length := by omega
  obtain ⟨a, b⟩ := flatT_at l (j / 2) hq
  obtain ⟨a', b'⟩ := h (j / 2) hq
  have ad1 : ∀ m, (⟨(ad.add m).block, (ad.add m).off + 1, none⟩ : Addr) = ad.add (m + 1) := by
    intro m
    unfold Addr.add
    by_cases hm : m = 0
    · subst hm; simp
    · rw [if_neg hm, if_neg (by omega)]; simp [Nat.add_assoc]
  rw [ad1] at b'
  have hj : j = j / 2 * 2 + j % 2 := by omega
  rcases (by omega : j % 2 = 0 ∨ j % 2 = 1) with h0 | h0 <;> rw [h0] at hj
  · rw [hj] at hu ⊢; rw [Nat.add_zero] at hu ⊢; rw [a] at hu; cases hu; exact a'
  · rw [hj] at hu ⊢; rw [b] at hu; cases hu; exact b'
set_option maxHeartbeats 4000000 in
set_option maxRecDepth 100000 in
theorem pts_10 (w W : World) (l : List Rt) (h t : Rt) (e : Int) {z0 z1 z2 z3 z4 z5 z6 z7 z8 z9 z10 z11 z12 z13 z15 z19 z20 z21 z22 z23 z24 z25 z26 z27 z28 z29 z30 z31 z32 z33 z34 z35 z36 z37 z38 z39 z40 z41 z42 z43 z44 z45 z46 z47 z48 z49 z50 z51 z52 z53 z54 z55 z56 z57 z58 z59 z60 z61 z62 z63 z64 z65 z66 z67 z68 z69 z70 z71 z72 z73 z74 z75 z76 z77 z78 z79 z80 z81 z82 z83 z84 z85 z86 z87 z88 z89 : Value} {bx D gs gh gt g c : Nat} (hb : W.heap[bx]? = some (.cells #[.slice (some ⟨g, 0, none⟩) l.length c] 23 (0, 0))) (hl : RtA W ⟨g, 0, none⟩ l) (h0 : 0 < l.length) (h1 : l.length ≤ 400) (hs : W.heap[gs]? = some (stp e)) (hh : W.heap[gh]? = some (.cells #[.int .i64 h.1, .int .i64 h.2] 31 (0, 0))) (ht : W.heap[gt]? = some (.cells #[.int .i64 t.1, .int .i64 t.2] 31 (0, 0))) (hD : W.heap[D]? = some (.deferred (some []))) (hD0 : w.heap.size ≤ D) (hB : Below w.heap.size w W) :
    ptsT10.wp Try.prog (bodyPostM Fence.wide 3 Try.prog Try.f67 (PtsQ w (h :: (l ++ [t]), e))) ⟨#[z0, z1, z2, z3, z4, z5, z6, z7, z8, z9, z10, z11, z12, z13, .pointer (some ⟨bx, 0, none⟩), z15, .pointer (some ⟨gs, 0, none⟩), .pointer (some ⟨gh, 0, none⟩), .pointer (some ⟨gt, 0, none⟩), z19, z20, z21, z22, z23, z24, z25, z26, z27, z28, z29, z30, z31, z32, z33, z34, z35, z36, z37, z38, z39, z40, z41, z42, z43, z44, z45, z46, z47, z48, z49, z50, z51, z52, z53, z54, z55, z56, z57, z58, z59, z60, z61, z62, z63, z64, z65, z66, z67, z68, z69, z70, z71, z72, z73, z74, z75, z76, z77, z78, z79, z80, z81, z82, z83, z84, z85, z86, z87, z88, z89], [{ target := .collected D, args := #[] }]⟩ W := by
  obtain ⟨b0, fb0⟩ := Hand.hc1 hb
  obtain ⟨s0, fs0⟩ := Hand.hc1 hs
  obtain ⟨h0_, fh0, h1_, fh1⟩ := Hand.hc2 hh
  obtain ⟨t0_, ft0, t1_, ft1⟩ := Hand.hc2 ht
  have bz := (Hand.hz hb).1
  have sz := (Hand.hz hs).1
  have hz := (Hand.hz hh).1
  have tz := (Hand.hz ht).1
  obtain ⟨n, hn⟩ : ∃ n, l.length = n := ⟨_, rfl⟩
  rw [hn] at b0 h0 h1
  have CC := Lib.hid (fun (u : World) (gq : Nat) (b1 b2 : Nat) (hq : u.heap[gq]? = some (.cells #[.slice (some ⟨b1, 0, none⟩) 1 1, .slice (some ⟨g, 0, none⟩) n c, .slice (some ⟨b2, 0, none⟩) 1 1] 23 (0, 0))) (q1 : u.heap[b1]? = some (.cells #[.int .i64 h.1, .int .i64 h.2] 31 (0, 0))) (q2 : u.heap[b2]? = some (.cells #[.int .i64 t.1, .int .i64 t.2] 31 (0, 0))) (q3 : RtA u ⟨g, 0, none⟩ l) => concatT gq ⟨b1, 0, none⟩ ⟨g, 0, none⟩ ⟨b2, 0, none⟩ 1 n 1 1 c 1 3 (flatT [h]) (flatT l) (flatT [t]) u hq (by decide) h0 (by decide) (by decide) (by omega) (by decide) (by rw [flatT_len]; rfl) (by rw [flatT_len, hn]) (by rw [flatT_len]; rfl) (World.news_of_block q1) (rta_flat q3) (World.news_of_block q2) (flatT_one _) (flatT_one _) (flatT_one _))
  have HL := Lib.hid hl
  have HD := Lib.hid hD
  have HB := Lib.hid hB
  have HN := Lib.hid hn
  have HS := Lib.hid hs
  clear hb hl hs hh ht hD hB hn
  conv => arg 2; whnf
  have HC := Lib.hid (fun (w_ : World) (h_ : Below W.heap.size W w_) => (⟨h_, (h_.cell (by dsimp only; omega)).trans h0_, (h_.cell (by dsimp only; omega)).trans h1_, (h_.cell (by dsimp only; omega)).trans t0_, (h_.cell (by dsimp only; omega)).trans t1_, (h_.cell (by dsimp only; omega)).trans b0, (h_.cell (by dsimp only; omega)).trans s0⟩ : Below W.heap.size W w_ ∧ w_.cell? ⟨gh, 0, none⟩ = some (.int .i64 h.1) ∧ w_.cell? ⟨gh, 1, none⟩ = some (.int .i64 h.2) ∧ w_.cell? ⟨gt, 0, none⟩ = some (.int .i64 t.1) ∧ w_.cell? ⟨gt, 1, none⟩ = some (.int .i64 t.2) ∧ w_.cell? ⟨bx, 0, none⟩ = some (.slice (some ⟨g, 0, none⟩) n c) ∧ w_.cell? ⟨gs, 0, none⟩ = some (.int .i64 e)))
  have BR : Below W.heap.size W W := Below.refl _ _
  clear h0_ h1_ t0_ t1_ b0 s0 fb0 fs0 fh0 fh1 ft0 ft1
  go_wp2_with fail
  go_region_held3 (fun w_ => Below W.heap.size W w_ ∧ w_.cell? ⟨gh, 0, none⟩ = some (.int .i64 h.1) ∧ w_.cell? ⟨gh, 1, none⟩ = some (.int .i64 h.2) ∧ w_.cell? ⟨gt, 0, none⟩ = some (.int .i64 t.1) ∧ w_.cell? ⟨gt, 1, none⟩ = some (.int .i64 t.2) ∧ w_.cell? ⟨bx, 0, none⟩ = some (.slice (some ⟨g, 0, none⟩) n c) ∧ w_.cell? ⟨gs, 0, none⟩ = some (.int .i64 e)) (first | (refine HC.out _ ?_; repeat (with_reducible first | assumption | apply Below.drew | refine Below.alloc ?_ (by first | omega | (simp only [World.size_alloc, World.size_drew]; omega)) _))) (first | (go_at_call 103; ((with_reducible refine (CC.out _ _ _ _ (by first | exact Hand.q3 _ _ _ (by simp) | (rw [Hand.q5]; exact Hand.q3 _ _ _ (by simp))) (by simp (disch := (first | omega | (simp only [World.size_alloc, World.size_drew]; first | done | omega))) only [Hand.q5, Hand.q4, Hand.q3]) (by simp (disch := (first | omega | (simp only [World.size_alloc, World.size_drew]; first | done | omega))) only [Hand.q5, Hand.q4, Hand.q3]) (HL.out.below (by repeat (with_reducible first | assumption | apply Below.drew | refine Below.alloc ?_ (by first | omega | (simp only [World.size_alloc, World.size_drew]; omega)) _)))).mono ?_); rintro e_ w4 ⟨gx, cx, rfl, hox, hb4⟩; have BB : Below W.heap.size W w4 := Hand.stepB hb4 (by repeat (with_reducible first | assumption | apply Below.drew | refine Below.alloc ?_ (by first | omega | (simp only [World.size_alloc, World.size_drew]; omega)) _)) (Nat.le_refl _))))
  all_goals (have hD4 := Hand.kb BB HD.out)
  all_goals (have hl4 := own_rta (l := h :: (l ++ [t])) (by rw [show h :: (l ++ [t]) = [h] ++ l ++ [t] by simp, flatT_app, flatT_app]; exact hox))
  all_goals (go_wp2; (try simp only [Exit.inBlock, Exit.then]))
  all_goals (refine retM1 hD4 (fun _ => results_tmp2 rfl _ _ _) ?_)
  all_goals (exact ⟨_, rfl, fun _ => ⟨some ⟨gx, 0, none⟩, cx, (by rw [show (h :: (l ++ [t])).length = 1 + n + 1 by simp only [List.length_cons, List.length_append, List.length_nil, HN.out]; omega]; rfl), .inr ⟨_, rfl, hl4.put hD4 _⟩⟩, below_put (HB.out.trans (Below.mono BB HB.out.size)) hD4 hD0 _⟩)
set_option maxHeartbeats 4000000 in
set_option maxRecDepth 100000 in
theorem pts_9 (w V : World) (l : List Rt) (h : Rt) (eh : Int) (t1 t2 : Int) {z0 z1 z2 z3 z4 z5 z6 z7 z8 z9 z10 z11 z12 z13 z15 z18 z19 z20 z21 z22 z23 z24 z25 z26 z27 z28 z29 z30 z31 z32 z33 z34 z35 z36 z37 z38 z39 z40 z41 z42 z43 z44 z45 z46 z47 z48 z49 z50 z51 z52 z53 z54 z55 z56 z57 z58 z59 z60 z61 z62 z63 z64 z65 z66 z67 z68 z69 z70 z71 z72 z73 z74 z75 z76 z77 z78 z79 z80 z81 z82 z83 z84 z85 z86 z87 z88 z89 : Value} {bx D gs g c j : Nat} {gh : Nat} (hb : V.heap[bx]? = some (.cells #[.slice (some ⟨g, 0, none⟩) (j + 1) c] 23 (0, 0))) (hl : RtA V ⟨g, 0, none⟩ l) (hj : j + 1 = l.length) (h1 : j + 1 ≤ 400) (ht : ∃ q, l[j]'q = (t1, t2)) (hh : V.heap[gh]? = some (.cells #[.int .i64 h.1, .int .i64 h.2] 31 (0, 0))) (n4 : gh ≠ gs) (hR : ∀ x ∈ l, R64 x) (hs : V.heap[gs]? = some (stp eh)) (hD : V.heap[D]? = some (.deferred (some []))) (hD0 : w.heap.size ≤ D) (hB : Below w.heap.size w V) (hgs : w.heap.size ≤ gs) (n1 : bx ≠ gs) (n2 : g ≠ gs) (n3 : D ≠ gs) :
    ptsT9.wp Try.prog (bodyPostM Fence.wide 3 Try.prog Try.f67 (PtsQ w (h :: (l ++ [(doS rAdd eh (t1, t2) (1, 1)).1]), (doS rAdd eh (t1, t2) (1, 1)).2))) ⟨#[z0, z1, z2, z3, z4, z5, z6, z7, z8, z9, z10, z11, z12, z13, .pointer (some ⟨bx, 0, none⟩), z15, .pointer (some ⟨gs, 0, none⟩), .pointer (some ⟨gh, 0, none⟩), z18, z19, z20, z21, z22, z23, z24, z25, z26, z27, z28, z29, z30, z31, z32, z33, z34, z35, z36, z37, z38, z39, z40, z41, z42, z43, z44, z45, z46, z47, z48, z49, z50, z51, z52, z53, z54, z55, z56, z57, z58, z59, z60, z61, z62, z63, z64, z65, z66, z67, z68, z69, z70, z71, z72, z73, z74, z75, z76, z77, z78, z79, z80, z81, z82, z83, z84, z85, z86, z87, z88, z89], [{ target := .collected D, args := #[] }]⟩ V := by
  have rt : R64 (t1, t2) := by obtain ⟨q, e⟩ := ht; rw [← e]; exact hR _ (List.getElem_mem q)
  obtain ⟨⟨⟨y1, y2⟩, ey⟩, hY⟩ : ∃ X, doS rAdd eh (t1, t2) (1, 1) = X := ⟨_, rfl⟩
  rw [hY]
  have ry : R64 (y1, y2) := by have := do_R add_R eh (t1, t2) (1, 1); rw [hY] at this; exact this
  have M0 := Lib.hid (fun u => whole_any 1 u)
  have M1 := Lib.hid (fun (u : World) (q : u.heap[gs]? = some (stp eh)) => (by have := do_any gs 44 rAdd eh (t1, t2) (1, 1) u q ent_add (fun _ => f_add rt (R64_w 1 (by decide) (by decide))); rw [hY] at this; exact this : Calls Try.prog 42 #[.pointer (some ⟨gs, 0, none⟩), fnv 44, .agg #[.int .i64 t1, .int .i64 t2], .agg #[.int .i64 1, .int .i64 1]] u fun e_ w' => e_ = .returned (.agg #[.int .i64 y1, .int .i64 y2]) ∧ w'.heap[gs]? = some (stp ey) ∧ Fx gs u w'))
  obtain ⟨b0, fb0⟩ := Hand.hc1 hb
  have bz := (Hand.hz hb).1
  have gsz := (Hand.hz hs).1
  obtain ⟨k0, k1⟩ : V.cell? ⟨g, j * 2, none⟩ = some (.int .i64 t1) ∧ V.cell? ⟨g, j * 2 + 1, none⟩ = some (.int .i64 t2) := by obtain ⟨q, e⟩ := ht; have := hl j q; rw [e, add0] at this; exact this
  have gz := World.block_lt_of_cell? V _ k0
  dsimp only at gz
  have HC := Lib.hid (fun (w_ : World) (hF : Fx gs V w_) => (⟨hF, (hF.cell _ bz (by dsimp only; omega)).trans b0, (hF.cell _ gz (by dsimp only; omega)).trans k0, (hF.cell _ gz (by dsimp only; omega)).trans k1⟩ : Fx gs V w_ ∧ w_.cell? ⟨bx, 0, none⟩ = some (.slice (some ⟨g, 0, none⟩) (j + 1) c) ∧ w_.cell? ⟨g, j * 2, none⟩ = some (.int .i64 t1) ∧ w_.cell? ⟨g, j * 2 + 1, none⟩ = some (.int .i64 t2)))
  have HB := Lib.hid hB
  have HL := Lib.hid hl
  have HBX := Lib.hid hb
  have HD := Lib.hid hD
  have HR := Lib.hid hR
  have HJ := Lib.hid hj
  have gS := hs
  have HS := Lib.hid hs
  have BR : Fx gs V V := Fx.refl _ _
  have HRY := Lib.hid ry
  have HH := Lib.hid hh
  clear hY hB hl hb hD hR hj hs ry rt ht b0 fb0 k0 k1 hh
  have w1_ : IntKind.i64.wrap ((j : Int) + 1 - 1) = (j : Int) := by rw [IntKind.wrap_i64]; omega
  have w2_ : IntKind.i64.wrap (j : Int) = (j : Int) := by rw [IntKind.wrap_i64]; omega
  have p5 : (0 : Int) ≤ (j : Int) := by omega
  have p6 : ((j : Int) < (j : Int) + 1) = True := eq_true (by omega)
  have p7 : (j < j + 1) = True := eq_true (by omega)
  have p8 : ((0 : Int) < (j : Int) + 1) = True := eq_true (by omega)
  have p9 : (0 < j + 1) = True := eq_true (by omega)
  rw [ptsE9]
  refine wp_seq_k (fun K9 hK9 => ?_)
  have HK9 := Lib.hid hK9
  clear hK9
  conv => arg 2; whnf
  go_wp2_with fail
  go_region_held3 (fun w_ => Fx gs V w_ ∧ w_.cell? ⟨bx, 0, none⟩ = some (.slice (some ⟨g, 0, none⟩) (j + 1) c) ∧ w_.cell? ⟨g, j * 2, none⟩ = some (.int .i64 t1) ∧ w_.cell? ⟨g, j * 2 + 1, none⟩ = some (.int .i64 t2)) (first | (refine HC.out _ ?_; repeat (with_reducible first | assumption | apply Fx.drew | apply Fx.alloc | refine Fx.setNew ?_ (by first | omega | (simp only [World.size_alloc, World.size_drew]; omega)) _ _))) (first | (go_at_call 41; ((with_reducible refine (M0.out _).mono ?_); rintro e w4 ⟨rfl, hb_w4⟩; have BB : Fx gs V w4 := Fx.trans (by repeat (with_reducible first | assumption | apply Fx.drew | apply Fx.alloc | refine Fx.setNew ?_ (by first | omega | (simp only [World.size_alloc, World.size_drew]; omega)) _ _)) (Fx.of_below hb_w4); have zB_w4 := BB.size; have hx_w4 : w4.heap[gs]? = some (stp eh) := Hand.kb hb_w4 (by first | exact gS | assumption | (simp (disch := (first | omega | (simp only [World.size_alloc, World.size_drew, World.size_setCell]; first | done | omega))) only [Hand.q5, Hand.q4]; assumption)); obtain ⟨cs_, fs_⟩ := Hand.hc1 hx_w4; obtain ⟨sz0, sz1, sz2, sy0, sy1⟩ := Hand.hz hx_w4; (try (have nx := Hand.kb (i := V.heap.size) (x := .cells #[.int .i64 0, .int .i64 0] 31 (0, 0)) hb_w4 (by first | assumption | (exact Hand.q3 _ _ _ rfl) | (simp (disch := (first | omega | (simp only [World.size_alloc, World.size_drew, World.size_setCell]; first | done | omega))) only [Hand.q5, Hand.q4, Hand.q3]; done) | (simp (disch := (first | omega | (simp only [World.size_alloc, World.size_drew, World.size_setCell]; first | done | omega))) only [Hand.q5, Hand.q4]; assumption)) ; obtain ⟨nc0, nf0, nc1, nf1⟩ := Hand.hc2 nx; obtain ⟨nz0, nz1, nz2, ny0, ny1⟩ := Hand.hz nx; have ne1 : (V.heap.size = gs) = False := eq_false (by omega); have ne2 : (gs = V.heap.size) = False := eq_false (by omega))))) | (go_at_call 42; ((with_reducible refine (M1.out _ (by first | exact gS | assumption | (simp (disch := (first | omega | (simp only [World.size_alloc, World.size_drew, World.size_setCell]; first | done | omega))) only [Hand.q5, Hand.q4]; assumption))).mono ?_); rintro e w5 ⟨rfl, hx_w5, hF_w5⟩; have BB : Fx gs V w5 := Fx.trans (by repeat (with_reducible first | assumption | apply Fx.drew | apply Fx.alloc | refine Fx.setNew ?_ (by first | omega | (simp only [World.size_alloc, World.size_drew]; omega)) _ _)) hF_w5; have zB_w5 := BB.size; obtain ⟨cs_, fs_⟩ := Hand.hc1 hx_w5; obtain ⟨sz0, sz1, sz2, sy0, sy1⟩ := Hand.hz hx_w5; (try (have nx := hF_w5.kb (k := V.heap.size) (o := .cells #[.int .i64 0, .int .i64 0] 31 (0, 0)) (by first | assumption | (exact Hand.q3 _ _ _ rfl) | (simp (disch := (first | omega | (simp only [World.size_alloc, World.size_drew, World.size_setCell]; first | done | omega))) only [Hand.q5, Hand.q4, Hand.q3]; done) | (simp (disch := (first | omega | (simp only [World.size_alloc, World.size_drew, World.size_setCell]; first | done | omega))) only [Hand.q5, Hand.q4]; assumption)) (by omega); obtain ⟨nc0, nf0, nc1, nf1⟩ := Hand.hc2 nx; obtain ⟨nz0, nz1, nz2, ny0, ny1⟩ := Hand.hz nx; have ne1 : (V.heap.size = gs) = False := eq_false (by omega); have ne2 : (gs = V.heap.size) = False := eq_false (by omega))); (try (have nx := hF_w5.kb (k := w4.heap.size) (o := .cells #[.int .i64 0, .int .i64 0] 31 (0, 0)) (by first | assumption | (exact Hand.q3 _ _ _ rfl) | (simp (disch := (first | omega | (simp only [World.size_alloc, World.size_drew, World.size_setCell]; first | done | omega))) only [Hand.q5, Hand.q4, Hand.q3]; done) | (simp (disch := (first | omega | (simp only [World.size_alloc, World.size_drew, World.size_setCell]; first | done | omega))) only [Hand.q5, Hand.q4]; assumption)) (by omega); obtain ⟨nc0, nf0, nc1, nf1⟩ := Hand.hc2 nx; obtain ⟨nz0, nz1, nz2, ny0, ny1⟩ := Hand.hz nx; have ne1 : (w4.heap.size = gs) = False := eq_false (by omega); have ne2 : (gs = w4.heap.size) = False := eq_false (by omega))))))
  · have zvk : V.heap.size ≤ w5.heap.size := by omega
    have zg5 := (Hand.hz hx_w5).1
    obtain ⟨Vn, hVn⟩ : ∃ V_, V_ = w5.alloc (.cells #[.int .i64 y1, .int .i64 y2] 31) := ⟨_, rfl⟩
    rw [← hVn]
    have vX : Vn.heap[w5.heap.size]? = some (.cells #[.int .i64 y1, .int .i64 y2] 31 (0, 0)) := by rw [hVn]; exact Hand.q3 _ _ _ rfl
    have vS : Vn.heap[gs]? = some (stp ey) := by rw [hVn]; simp (disch := (first | omega | (simp only [World.size_alloc, World.size_drew, World.size_setCell]; first | done | omega))) only [Hand.q2, Hand.q4, hx_w5]
    have vF : Fx gs V Vn := by rw [hVn]; repeat (with_reducible first | exact BB | refine Fx.setNew ?_ zvk _ _ | apply Fx.alloc)
    refine HK9.out _ _ ?_
    have e := HJ.out
    exact pts_10 w Vn l h (y1, y2) ey (by rw [← e]; exact vF.kb HBX.out n1) (HL.out.f2 (F2.of_fx gs vF) (by dsimp only; omega) (by dsimp only; omega)) (by omega) (by omega) vS (vF.kb HH.out n4) vX (vF.kb HD.out n3) hD0 (vF.below HB.out hgs HB.out.size)
  · have zvk : V.heap.size ≤ w4.heap.size := by omega
    have zg5 := (Hand.hz hx_w5).1
    obtain ⟨Vn, hVn⟩ : ∃ V_, V_ = (w5.setCell ⟨w4.heap.size, 0, none⟩ (.int .i64 y1)).setCell ⟨w4.heap.size, 1, none⟩ (.int .i64 y2) := ⟨_, rfl⟩
    rw [← hVn]
    have vX : Vn.heap[w4.heap.size]? = some (.cells #[.int .i64 y1, .int .i64 y2] 31 (0, 0)) := by rw [hVn]; simp (disch := (first | omega | (simp only [World.size_alloc, World.size_drew, World.size_setCell]; first | done | omega))) only [Hand.q1, nx]; rfl
    have vS : Vn.heap[gs]? = some (stp ey) := by rw [hVn]; simp (disch := (first | omega | (simp only [World.size_alloc, World.size_drew, World.size_setCell]; first | done | omega))) only [Hand.q2, Hand.q4, hx_w5]
    have vF : Fx gs V Vn := by rw [hVn]; repeat (with_reducible first | exact BB | refine Fx.setNew ?_ zvk _ _ | apply Fx.alloc)
    refine HK9.out _ _ ?_
    have e := HJ.out
    exact pts_10 w Vn l h (y1, y2) ey (by rw [← e]; exact vF.kb HBX.out n1) (HL.out.f2 (F2.of_fx gs vF) (by dsimp only; omega) (by dsimp only; omega)) (by omega) (by omega) vS (vF.kb HH.out n4) vX (vF.kb HD.out n3) hD0 (vF.below HB.out hgs HB.out.size)
  · have zvk : V.heap.size ≤ V.heap.size := by omega
    have zg5 := (Hand.hz hx_w5).1
    obtain ⟨Vn, hVn⟩ : ∃ V_, V_ = (w5.setCell ⟨V.heap.size, 0, none⟩ (.int .i64 y1)).setCell ⟨V.heap.size, 1, none⟩ (.int .i64 y2) := ⟨_, rfl⟩
    rw [← hVn]
    have vX : Vn.heap[V.heap.size]? = some (.cells #[.int .i64 y1, .int .i64 y2] 31 (0, 0)) := by rw [hVn]; simp (disch := (first | omega | (simp only [World.size_alloc, World.size_drew, World.size_setCell]; first | done | omega))) only [Hand.q1, nx]; rfl
    have vS : Vn.heap[gs]? = some (stp ey) := by rw [hVn]; simp (disch := (first | omega | (simp only [World.size_alloc, World.size_drew, World.size_setCell]; first | done | omega))) only [Hand.q2, Hand.q4, hx_w5]
    have vF : Fx gs V Vn := by rw [hVn]; repeat (with_reducible first | exact BB | refine Fx.setNew ?_ zvk _ _ | apply Fx.alloc)
    refine HK9.out _ _ ?_
    have e := HJ.out
    exact pts_10 w Vn l h (y1, y2) ey (by rw [← e]; exact vF.kb HBX.out n1) (HL.out.f2 (F2.of_fx gs vF) (by dsimp only; omega) (by dsimp only; omega)) (by omega) (by omega) vS (vF.kb HH.out n4) vX (vF.kb HD.out n3) hD0 (vF.below HB.out hgs HB.out.size)
set_option maxHeartbeats 4000000 in
set_option maxRecDepth 100000 in
theorem pts_8 (w V : World) (l : List Rt) (t : Rt) (t1 t2 : Int) {z0 z1 z2 z3 z4 z5 z6 z7 z8 z9 z10 z11 z12 z13 z15 z17 z18 z19 z20 z21 z22 z23 z24 z25 z26 z27 z28 z29 z30 z31 z32 z33 z34 z35 z36 z37 z38 z39 z40 z41 z42 z43 z44 z45 z46 z47 z48 z49 z50 z51 z52 z53 z54 z55 z56 z57 z58 z59 z60 z61 z62 z63 z64 z65 z66 z67 z68 z69 z70 z71 z72 z73 z74 z75 z76 z77 z78 z79 z80 z81 z82 z83 z84 z85 z86 z87 z88 z89 : Value} {bx D gs g c j : Nat} (hb : V.heap[bx]? = some (.cells #[.slice (some ⟨g, 0, none⟩) (j + 1) c] 23 (0, 0))) (hl : RtA V ⟨g, 0, none⟩ l) (hj : j + 1 = l.length) (h1 : j + 1 ≤ 400) (ht : ∃ q, l[0]'q = (t1, t2)) (htl : ∃ q, l[j]'q = t) (hR : ∀ x ∈ l, R64 x) (hs : V.heap[gs]? = some (stp 0)) (hD : V.heap[D]? = some (.deferred (some []))) (hD0 : w.heap.size ≤ D) (hB : Below w.heap.size w V) (hgs : w.heap.size ≤ gs) (n1 : bx ≠ gs) (n2 : g ≠ gs) (n3 : D ≠ gs) :
    ptsT8.wp Try.prog (bodyPostM Fence.wide 3 Try.prog Try.f67 (PtsQ w ((doS rSub 0 (t1, t2) (1, 1)).1 :: (l ++ [(doS rAdd (doS rSub 0 (t1, t2) (1, 1)).2 t (1, 1)).1]), (doS rAdd (doS rSub 0 (t1, t2) (1, 1)).2 t (1, 1)).2))) ⟨#[z0, z1, z2, z3, z4, z5, z6, z7, z8, z9, z10, z11, z12, z13, .pointer (some ⟨bx, 0, none⟩), z15, .pointer (some ⟨gs, 0, none⟩), z17, z18, z19, z20, z21, z22, z23, z24, z25, z26, z27, z28, z29, z30, z31, z32, z33, z34, z35, z36, z37, z38, z39, z40, z41, z42, z43, z44, z45, z46, z47, z48, z49, z50, z51, z52, z53, z54, z55, z56, z57, z58, z59, z60, z61, z62, z63, z64, z65, z66, z67, z68, z69, z70, z71, z72, z73, z74, z75, z76, z77, z78, z79, z80, z81, z82, z83, z84, z85, z86, z87, z88, z89], [{ target := .collected D, args := #[] }]⟩ V := by
  have rt : R64 (t1, t2) := by obtain ⟨q, e⟩ := ht; rw [← e]; exact hR _ (List.getElem_mem q)
  obtain ⟨⟨⟨y1, y2⟩, ey⟩, hY⟩ : ∃ X, doS rSub 0 (t1, t2) (1, 1) = X := ⟨_, rfl⟩
  rw [hY]
  have ry : R64 (y1, y2) := by have := do_R sub_R 0 (t1, t2) (1, 1); rw [hY] at this; exact this
  have M0 := Lib.hid (fun u => whole_any 1 u)
  have M1 := Lib.hid (fun (u : World) (q : u.heap[gs]? = some (stp 0)) => (by have := do_any gs 43 rSub 0 (t1, t2) (1, 1) u q ent_sub (fun _ => f_sub rt (R64_w 1 (by decide) (by decide))); rw [hY] at this; exact this : Calls Try.prog 42 #[.pointer (some ⟨gs, 0, none⟩), fnv 43, .agg #[.int .i64 t1, .int .i64 t2], .agg #[.int .i64 1, .int .i64 1]] u fun e_ w' => e_ = .returned (.agg #[.int .i64 y1, .int .i64 y2]) ∧ w'.heap[gs]? = some (stp ey) ∧ Fx gs u w'))
  obtain ⟨b0, fb0⟩ := Hand.hc1 hb
  have bz := (Hand.hz hb).1
  have gsz := (Hand.hz hs).1
  obtain ⟨k0, k1⟩ : V.cell? ⟨g, 0 * 2, none⟩ = some (.int .i64 t1) ∧ V.cell? ⟨g, 0 * 2 + 1, none⟩ = some (.int .i64 t2) := by obtain ⟨q, e⟩ := ht; have := hl 0 q; rw [e, add0] at this; exact this
  rw [Nat.zero_mul] at k0 k1
  rw [Nat.zero_add] at k1
  have gz := World.block_lt_of_cell? V _ k0
  dsimp only at gz
  have HC := Lib.hid (fun (w_ : World) (hF : Fx gs V w_) => (⟨hF, (hF.cell _ bz (by dsimp only; omega)).trans b0, (hF.cell _ gz (by dsimp only; omega)).trans k0, (hF.cell _ gz (by dsimp only; omega)).trans k1⟩ : Fx gs V w_ ∧ w_.cell? ⟨bx, 0, none⟩ = some (.slice (some ⟨g, 0, none⟩) (j + 1) c) ∧ w_.cell? ⟨g, 0, none⟩ = some (.int .i64 t1) ∧ w_.cell? ⟨g, 1, none⟩ = some (.int .i64 t2)))
  have HB := Lib.hid hB
  have HL := Lib.hid hl
  have HBX := Lib.hid hb
  have HD := Lib.hid hD
  have HR := Lib.hid hR
  have HJ := Lib.hid hj
  have gS := hs
  have HS := Lib.hid hs
  have BR : Fx gs V V := Fx.refl _ _
  have HRY := Lib.hid ry
  have HTL := Lib.hid htl
  clear hY hB hl hb hD hR hj hs ry rt ht b0 fb0 k0 k1 htl
  have w1_ : IntKind.i64.wrap ((j : Int) + 1 - 1) = (j : Int) := by rw [IntKind.wrap_i64]; omega
  have w2_ : IntKind.i64.wrap (j : Int) = (j : Int) := by rw [IntKind.wrap_i64]; omega
  have p5 : (0 : Int) ≤ (j : Int) := by omega
  have p6 : ((j : Int) < (j : Int) + 1) = True := eq_true (by omega)
  have p7 : (j < j + 1) = True := eq_true (by omega)
  have p8 : ((0 : Int) < (j : Int) + 1) = True := eq_true (by omega)
  have p9 : (0 < j + 1) = True := eq_true (by omega)
  rw [ptsE8]
  refine wp_seq_k (fun K8 hK8 => ?_)
  have HK8 := Lib.hid hK8
  clear hK8
  conv => arg 2; whnf
  go_wp2_with fail
  go_region_held3 (fun w_ => Fx gs V w_ ∧ w_.cell? ⟨bx, 0, none⟩ = some (.slice (some ⟨g, 0, none⟩) (j + 1) c) ∧ w_.cell? ⟨g, 0, none⟩ = some (.int .i64 t1) ∧ w_.cell? ⟨g, 1, none⟩ = some (.int .i64 t2)) (first | (refine HC.out _ ?_; repeat (with_reducible first | assumption | apply Fx.drew | apply Fx.alloc | refine Fx.setNew ?_ (by first | omega | (simp only [World.size_alloc, World.size_drew]; omega)) _ _))) (first | (go_at_call 41; ((with_reducible refine (M0.out _).mono ?_); rintro e w4 ⟨rfl, hb_w4⟩; have BB : Fx gs V w4 := Fx.trans (by repeat (with_reducible first | assumption | apply Fx.drew | apply Fx.alloc | refine Fx.setNew ?_ (by first | omega | (simp only [World.size_alloc, World.size_drew]; omega)) _ _)) (Fx.of_below hb_w4); have zB_w4 := BB.size; have hx_w4 : w4.heap[gs]? = some (stp 0) := Hand.kb hb_w4 (by first | exact gS | assumption | (simp (disch := (first | omega | (simp only [World.size_alloc, World.size_drew, World.size_setCell]; first | done | omega))) only [Hand.q5, Hand.q4]; assumption)); obtain ⟨cs_, fs_⟩ := Hand.hc1 hx_w4; obtain ⟨sz0, sz1, sz2, sy0, sy1⟩ := Hand.hz hx_w4; (try (have nx := Hand.kb (i := V.heap.size) (x := .cells #[.int .i64 0, .int .i64 0] 31 (0, 0)) hb_w4 (by first | assumption | (exact Hand.q3 _ _ _ rfl) | (simp (disch := (first | omega | (simp only [World.size_alloc, World.size_drew, World.size_setCell]; first | done | omega))) only [Hand.q5, Hand.q4, Hand.q3]; done) | (simp (disch := (first | omega | (simp only [World.size_alloc, World.size_drew, World.size_setCell]; first | done | omega))) only [Hand.q5, Hand.q4]; assumption)) ; obtain ⟨nc0, nf0, nc1, nf1⟩ := Hand.hc2 nx; obtain ⟨nz0, nz1, nz2, ny0, ny1⟩ := Hand.hz nx; have ne1 : (V.heap.size = gs) = False := eq_false (by omega); have ne2 : (gs = V.heap.size) = False := eq_false (by omega))))) | (go_at_call 42; ((with_reducible refine (M1.out _ (by first | exact gS | assumption | (simp (disch := (first | omega | (simp only [World.size_alloc, World.size_drew, World.size_setCell]; first | done | omega))) only [Hand.q5, Hand.q4]; assumption))).mono ?_); rintro e w5 ⟨rfl, hx_w5, hF_w5⟩; have BB : Fx gs V w5 := Fx.trans (by repeat (with_reducible first | assumption | apply Fx.drew | apply Fx.alloc | refine Fx.setNew ?_ (by first | omega | (simp only [World.size_alloc, World.size_drew]; omega)) _ _)) hF_w5; have zB_w5 := BB.size; obtain ⟨cs_, fs_⟩ := Hand.hc1 hx_w5; obtain ⟨sz0, sz1, sz2, sy0, sy1⟩ := Hand.hz hx_w5; (try (have nx := hF_w5.kb (k := V.heap.size) (o := .cells #[.int .i64 0, .int .i64 0] 31 (0, 0)) (by first | assumption | (exact Hand.q3 _ _ _ rfl) | (simp (disch := (first | omega | (simp only [World.size_alloc, World.size_drew, World.size_setCell]; first | done | omega))) only [Hand.q5, Hand.q4, Hand.q3]; done) | (simp (disch := (first | omega | (simp only [World.size_alloc, World.size_drew, World.size_setCell]; first | done | omega))) only [Hand.q5, Hand.q4]; assumption)) (by omega); obtain ⟨nc0, nf0, nc1, nf1⟩ := Hand.hc2 nx; obtain ⟨nz0, nz1, nz2, ny0, ny1⟩ := Hand.hz nx; have ne1 : (V.heap.size = gs) = False := eq_false (by omega); have ne2 : (gs = V.heap.size) = False := eq_false (by omega))); (try (have nx := hF_w5.kb (k := w4.heap.size) (o := .cells #[.int .i64 0, .int .i64 0] 31 (0, 0)) (by first | assumption | (exact Hand.q3 _ _ _ rfl) | (simp (disch := (first | omega | (simp only [World.size_alloc, World.size_drew, World.size_setCell]; first | done | omega))) only [Hand.q5, Hand.q4, Hand.q3]; done) | (simp (disch := (first | omega | (simp only [World.size_alloc, World.size_drew, World.size_setCell]; first | done | omega))) only [Hand.q5, Hand.q4]; assumption)) (by omega); obtain ⟨nc0, nf0, nc1, nf1⟩ := Hand.hc2 nx; obtain ⟨nz0, nz1, nz2, ny0, ny1⟩ := Hand.hz nx; have ne1 : (w4.heap.size = gs) = False := eq_false (by omega); have ne2 : (gs = w4.heap.size) = False := eq_false (by omega))))))
  · have zvk : V.heap.size ≤ w5.heap.size := by omega
    have zg5 := (Hand.hz hx_w5).1
    obtain ⟨Vn, hVn⟩ : ∃ V_, V_ = w5.alloc (.cells #[.int .i64 y1, .int .i64 y2] 31) := ⟨_, rfl⟩
    rw [← hVn]
    have vX : Vn.heap[w5.heap.size]? = some (.cells #[.int .i64 y1, .int .i64 y2] 31 (0, 0)) := by rw [hVn]; exact Hand.q3 _ _ _ rfl
    have vS : Vn.heap[gs]? = some (stp ey) := by rw [hVn]; simp (disch := (first | omega | (simp only [World.size_alloc, World.size_drew, World.size_setCell]; first | done | omega))) only [Hand.q2, Hand.q4, hx_w5]
    have vF : Fx gs V Vn := by rw [hVn]; repeat (with_reducible first | exact BB | refine Fx.setNew ?_ zvk _ _ | apply Fx.alloc)
    refine HK8.out _ _ ?_
    exact pts_9 w Vn l (y1, y2) ey t.1 t.2 (vF.kb HBX.out n1) (HL.out.f2 (F2.of_fx gs vF) (by dsimp only; omega) (by dsimp only; omega)) HJ.out h1 HTL.out vX (by omega) HR.out vS (vF.kb HD.out n3) hD0 (vF.below HB.out hgs HB.out.size) hgs n1 n2 n3
  · have zvk : V.heap.size ≤ w4.heap.size := by omega
    have zg5 := (Hand.hz hx_w5).1
    obtain ⟨Vn, hVn⟩ : ∃ V_, V_ = (w5.setCell ⟨w4.heap.size, 0, none⟩ (.int .i64 y1)).setCell ⟨w4.heap.size, 1, none⟩ (.int .i64 y2) := ⟨_, rfl⟩
    rw [← hVn]
    have vX : Vn.heap[w4.heap.size]? = some (.cells #[.int .i64 y1, .int .i64 y2] 31 (0, 0)) := by rw [hVn]; simp (disch := (first | omega | (simp only [World.size_alloc, World.size_drew, World.size_setCell]; first | done | omega))) only [Hand.q1, nx]; rfl
    have vS : Vn.heap[gs]? = some (stp ey) := by rw [hVn]; simp (disch := (first | omega | (simp only [World.size_alloc, World.size_drew, World.size_setCell]; first | done | omega))) only [Hand.q2, Hand.q4, hx_w5]
    have vF : Fx gs V Vn := by rw [hVn]; repeat (with_reducible first | exact BB | refine Fx.setNew ?_ zvk _ _ | apply Fx.alloc)
    refine HK8.out _ _ ?_
    exact pts_9 w Vn l (y1, y2) ey t.1 t.2 (vF.kb HBX.out n1) (HL.out.f2 (F2.of_fx gs vF) (by dsimp only; omega) (by dsimp only; omega)) HJ.out h1 HTL.out vX (by omega) HR.out vS (vF.kb HD.out n3) hD0 (vF.below HB.out hgs HB.out.size) hgs n1 n2 n3
  · have zvk : V.heap.size ≤ V.heap.size := by omega
    have zg5 := (Hand.hz hx_w5).1
    obtain ⟨Vn, hVn⟩ : ∃ V_, V_ = (w5.setCell ⟨V.heap.size, 0, none⟩ (.int .i64 y1)).setCell ⟨V.heap.size, 1, none⟩ (.int .i64 y2) := ⟨_, rfl⟩
    rw [← hVn]
    have vX : Vn.heap[V.heap.size]? = some (.cells #[.int .i64 y1, .int .i64 y2] 31 (0, 0)) := by rw [hVn]; simp (disch := (first | omega | (simp only [World.size_alloc, World.size_drew, World.size_setCell]; first | done | omega))) only [Hand.q1, nx]; rfl
    have vS : Vn.heap[gs]? = some (stp ey) := by rw [hVn]; simp (disch := (first | omega | (simp only [World.size_alloc, World.size_drew, World.size_setCell]; first | done | omega))) only [Hand.q2, Hand.q4, hx_w5]
    have vF : Fx gs V Vn := by rw [hVn]; repeat (with_reducible first | exact BB | refine Fx.setNew ?_ zvk _ _ | apply Fx.alloc)
    refine HK8.out _ _ ?_
    exact pts_9 w Vn l (y1, y2) ey t.1 t.2 (vF.kb HBX.out n1) (HL.out.f2 (F2.of_fx gs vF) (by dsimp only; omega) (by dsimp only; omega)) HJ.out h1 HTL.out vX (by omega) HR.out vS (vF.kb HD.out n3) hD0 (vF.below HB.out hgs HB.out.size) hgs n1 n2 n3
set_option maxHeartbeats 4000000 in
set_option maxRecDepth 100000 in
theorem pts_7 (w V : World) (t0 : Rt) (l : List Rt) {z0 z1 z2 z3 z4 z5 z6 z7 z8 z9 z10 z11 z12 z13 z15 z16 z17 z18 z19 z20 z21 z22 z23 z24 z25 z26 z27 z28 z29 z30 z31 z32 z33 z34 z35 z36 z37 z38 z39 z40 z41 z42 z43 z44 z45 z46 z47 z48 z49 z50 z51 z52 z53 z54 z55 z56 z57 z58 z59 z60 z61 z62 z63 z64 z65 z66 z67 z68 z69 z70 z71 z72 z73 z74 z75 z76 z77 z78 z79 z80 z81 z82 z83 z84 z85 z86 z87 z88 z89 : Value} {bx D g c : Nat} (hb : V.heap[bx]? = some (.cells #[.slice (some ⟨g, 0, none⟩) (t0 :: l).length c] 23 (0, 0))) (hl : RtA V ⟨g, 0, none⟩ (t0 :: l)) (h1 : (t0 :: l).length ≤ 400) (hR : ∀ x ∈ t0 :: l, R64 x) (hD : V.heap[D]? = some (.deferred (some []))) (hD0 : w.heap.size ≤ D) (hB : Below w.heap.size w V) :
    ptsT7.wp Try.prog (bodyPostM Fence.wide 3 Try.prog Try.f67 (PtsQ w ((doS rSub 0 (t0.1, t0.2) (1, 1)).1 :: ((t0 :: l) ++ [(doS rAdd (doS rSub 0 (t0.1, t0.2) (1, 1)).2 ((t0 :: l).getLast (by simp)) (1, 1)).1]), (doS rAdd (doS rSub 0 (t0.1, t0.2) (1, 1)).2 ((t0 :: l).getLast (by simp)) (1, 1)).2))) ⟨#[z0, z1, z2, z3, z4, z5, z6, z7, z8, z9, z10, z11, z12, z13, .pointer (some ⟨bx, 0, none⟩), z15, z16, z17, z18, z19, z20, z21, z22, z23, z24, z25, z26, z27, z28, z29, z30, z31, z32, z33, z34, z35, z36, z37, z38, z39, z40, z41, z42, z43, z44, z45, z46, z47, z48, z49, z50, z51, z52, z53, z54, z55, z56, z57, z58, z59, z60, z61, z62, z63, z64, z65, z66, z67, z68, z69, z70, z71, z72, z73, z74, z75, z76, z77, z78, z79, z80, z81, z82, z83, z84, z85, z86, z87, z88, z89], [{ target := .collected D, args := #[] }]⟩ V := by
  have hj : l.length + 1 = (t0 :: l).length := rfl
  have hlast : (t0 :: l)[l.length]'(by simp) = (t0 :: l).getLast (by simp) := by rw [List.getLast_eq_getElem]; rfl
  have gz : g < V.heap.size := by have := World.block_lt_of_cell? V _ (hl 0 (by simp)).1; rw [add0] at this; exact this
  have bz := (Hand.hz hb).1
  have dz := (Array.getElem?_eq_some_iff.1 hD).1
  have hb2 : Below V.heap.size V (V.alloc (.cells #[.int .i64 0] 72)) := (Below.refl _ _).alloc (Nat.le_refl _) _
  have HL := Lib.hid hl
  have HB := Lib.hid hB
  have HD := Lib.hid hD
  have HBX := Lib.hid hb
  have HR := Lib.hid hR
  have H1 := Lib.hid h1
  have HLAST := Lib.hid hlast
  clear hl hB hD hb hR h1 hlast
  rw [ptsE7]
  refine wp_seq_k (fun K7 hK7 => ?_)
  have HK7 := Lib.hid hK7
  clear hK7
  conv => arg 2; whnf
  go_wp2
  refine HK7.out _ _ ?_
  exact pts_8 w _ (t0 :: l) ((t0 :: l).getLast (by simp)) t0.1 t0.2 (j := l.length) (Hand.kb hb2 HBX.out) (HL.out.below hb2) hj (by exact H1.out) ⟨by simp, rfl⟩ ⟨by simp, HLAST.out⟩ HR.out (Hand.q3 _ _ _ rfl) (Hand.kb hb2 HD.out) hD0 (HB.out.trans (Below.mono hb2 HB.out.size)) HB.out.size (by omega) (by omega) (by omega)
set_option maxHeartbeats 4000000 in
set_option maxRecDepth 100000 in
theorem pts_6 (w V : World) (l : List Rt) {z0 z1 z2 z3 z4 z5 z6 z7 z8 z9 z10 z11 z12 z13 z15 z16 z17 z18 z19 z20 z21 z22 z23 z24 z25 z26 z27 z28 z29 z30 z31 z32 z33 z34 z35 z36 z37 z38 z39 z40 z41 z42 z43 z44 z45 z46 z47 z48 z49 z50 z51 z52 z53 z54 z55 z56 z57 z58 z59 z60 z61 z62 z63 z64 z65 z66 z67 z68 z69 z70 z71 z72 z73 z74 z75 z76 z77 z78 z79 z80 z81 z82 z83 z84 z85 z86 z87 z88 z89 : Value} {bx D n0 : Nat} {v : Value} (hb : V.heap[bx]? = some (.cells #[v] 23 (0, 0))) (hl : V.ownsRow n0 31 2 v l.length (flatT l)) (h1 : l.length ≤ 400) (hR : ∀ x ∈ l, R64 x) (hD : V.heap[D]? = some (.deferred (some []))) (hD0 : w.heap.size ≤ D) (hB : Below w.heap.size w V) :
    ptsT6.wp Try.prog (bodyPostM Fence.wide 3 Try.prog Try.f67 (PtsQ w (edgeS l))) ⟨#[z0, z1, z2, z3, z4, z5, z6, z7, z8, z9, z10, z11, z12, z13, .pointer (some ⟨bx, 0, none⟩), z15, z16, z17, z18, z19, z20, z21, z22, z23, z24, z25, z26, z27, z28, z29, z30, z31, z32, z33, z34, z35, z36, z37, z38, z39, z40, z41, z42, z43, z44, z45, z46, z47, z48, z49, z50, z51, z52, z53, z54, z55, z56, z57, z58, z59, z60, z61, z62, z63, z64, z65, z66, z67, z68, z69, z70, z71, z72, z73, z74, z75, z76, z77, z78, z79, z80, z81, z82, z83, z84, z85, z86, z87, z88, z89], [{ target := .collected D, args := #[] }]⟩ V := by
  have M0 := Lib.hid (fun u => whole_any 0 u)
  have M1 := Lib.hid (fun u => whole_any 1 u)
  dsimp only [rv] at M0 M1
  have bz := (Hand.hz hb).1
  cases l with
  | nil =>
    obtain ⟨A0, c0, rfl⟩ : ∃ A c, v = .slice A 0 c := by rcases hl.2 with ⟨rfl, _⟩ | ⟨g, cap, cur, rfl, _⟩; exact ⟨_, _, rfl⟩; exact ⟨_, _, rfl⟩
    have HB := Lib.hid hB
    have HD := Lib.hid hD
    clear hl hR
    obtain ⟨b0, fb0⟩ := Hand.hc1 hb
    rw [ptsE6]
    refine wp_seq_k (fun K6 hK6 => ?_)
    have HK6 := Lib.hid hK6
    clear hK6
    conv => arg 2; whnf
    clear hb hB hD
    go_wp2_with fail
    with_reducible refine (M0.out _).mono ?_
    rintro e_ w1 ⟨rfl, hb1⟩
    go_wp2_with fail
    with_reducible refine (M1.out _).mono ?_
    rintro e_ w2 ⟨rfl, hb2⟩
    have hB2 : Below V.heap.size V w2 := Hand.stepB hb2 hb1 (Nat.le_refl _)
    have hB3 : Below V.heap.size V (w2.alloc (.cells #[.int .i64 0, .int .i64 1, .int .i64 1, .int .i64 1] 31)) := hB2.alloc hB2.size _
    have hD3 := Hand.kb hB3 HD.out
    go_wp2
    refine retM1 hD3 (fun _ => results_tmp2 rfl _ _ _) ?_
    exact ⟨_, rfl, fun _ => ⟨some ⟨w2.heap.size, 0, none⟩, 2, rfl, .inr ⟨_, rfl, (rta2 (Hand.q3 _ _ _ rfl)).put hD3 _⟩⟩, below_put (HB.out.trans (Below.mono hB3 HB.out.size)) hD3 hD0 _⟩
  | cons t0 l =>
    obtain ⟨g, c, rfl⟩ : ∃ g c, v = .slice (some ⟨g, 0, none⟩) (List.length (t0 :: l)) c := by rcases hl.2 with ⟨_, h⟩ | ⟨g, cap, cur, h, _⟩; simp at h; exact ⟨_, _, h⟩
    have HL := Lib.hid (own_rta hl)
    obtain ⟨n, hn⟩ : ∃ n, List.length (t0 :: l) = n := ⟨_, rfl⟩
    have hn0 : ((n : Int) == 0) = false := by rw [← hn]; simp; omega
    have HBX := Lib.hid hb
    have HB := Lib.hid hB
    have HD := Lib.hid hD
    have HR := Lib.hid hR
    have H1 := Lib.hid h1
    have HN := Lib.hid hn
    rw [hn] at hb
    clear hl hR hB hD h1 hn
    obtain ⟨b0, fb0⟩ := Hand.hc1 hb
    rw [ptsE6]
    refine wp_seq_k (fun K6 hK6 => ?_)
    have HK6 := Lib.hid hK6
    clear hK6
    conv => arg 2; whnf
    clear hb
    go_wp2
    refine HK6.out _ _ ?_
    exact pts_7 w V t0 l HBX.out HL.out H1.out HR.out HD.out hD0 HB.out
end Go.Proofs.Ythlpaglldhgmfaa.PA
namespace Go.Proofs.Ythlpaglldhgmfaa.PA
open Go Go.RowKit Go.Proofs.YthlpaglldhgmfaaW.PrintWords Go.Proofs.YthlpaglldhgmfaaW.PrintLast Go.Proofs.YthlpaglldhgmfaaW.PrintMore
attribute [local go_sem high] eqA31 eqA35
set_option linter.unusedSimpArgs false
set_option linter.unusedVariables false
open Go.Shelf
attribute [local go_sem] Oper.semAt_some
theorem mrgF_len : ∀ (n : Nat) (a b : List Rt), a.length + b.length ≤ n → (mrgF a b).length ≤ a.length + b.length := by
  intro n
  induction n with
  | zero => intro a b hl; cases a <;> cases b <;> simp_all [mrgF]
  | succ n ih =>
    intro a b hl
    cases a with
    | nil => simp [mrgF]
    | cons y a =>
      cases b with
      | nil => simp [mrgF]
      | cons z b =>
        rw [mrgF]
        simp only [List.length_cons] at hl
        split
        · have := ih a (z :: b) (by simp only [List.length_cons]; omega); simp only [List.length_cons] at this ⊢; omega
        · split
          · have := ih (y :: a) b (by simp only [List.length_cons]; omega); simp only [List.length_cons] at this ⊢; omega
          · have := ih a b (by omega); simp only [List.length_cons] at this ⊢; omega
theorem infoR : (Try.prog.info? 31).map (fun i => (i.zero, i.size, i.bytes)) = some (some (.agg #[.int .i64 0, .int .i64 0]), 2, 16) := by kernel_rfl
set_option maxHeartbeats 4000000 in
set_option maxRecDepth 100000 in
theorem pts_4 (w W : World) (xs_ ys_ : List Rt) {z0 z1 z2 z3 z4 z5 z8 z9 z10 z11 z12 z13 z14 z15 z16 z17 z18 z19 z20 z21 z22 z23 z24 z25 z26 z27 z28 z29 z30 z31 z32 z33 z34 z35 z36 z37 z38 z39 z40 z41 z42 z43 z44 z45 z46 z47 z48 z49 z50 z51 z52 z53 z54 z55 z56 z57 z58 z59 z60 z61 z62 z63 z64 z65 z66 z67 z68 z69 z70 z71 z72 z73 z74 z75 z76 z77 z78 z79 z80 z81 z82 z83 z84 z85 z86 z87 z88 z89 : Value} {Aa Ab : Option Addr} {na nb ca cb : Nat} (hna : na = xs_.length) (hnb : nb = ys_.length) (hA : RtS W Aa xs_) (hB_ : RtS W Ab ys_) (hAr : ∀ x ∈ xs_, rRight x = true) (hBr : ∀ x ∈ ys_, rRight x = true) (hN : na + nb ≤ 400) (hB : Below w.heap.size w W) :
    ptsT4.wp Try.prog (bodyPostM Fence.wide 3 Try.prog Try.f67 (PtsQ w (edgeS (mrgF xs_ ys_)))) ⟨#[z0, z1, z2, z3, z4, z5, .slice Aa na ca, .slice Ab nb cb, z8, z9, z10, z11, z12, z13, z14, z15, z16, z17, z18, z19, z20, z21, z22, z23, z24, z25, z26, z27, z28, z29, z30, z31, z32, z33, z34, z35, z36, z37, z38, z39, z40, z41, z42, z43, z44, z45, z46, z47, z48, z49, z50, z51, z52, z53, z54, z55, z56, z57, z58, z59, z60, z61, z62, z63, z64, z65, z66, z67, z68, z69, z70, z71, z72, z73, z74, z75, z76, z77, z78, z79, z80, z81, z82, z83, z84, z85, z86, z87, z88, z89], []⟩ W := by
  have HA := Lib.hid hA
  have HB_ := Lib.hid hB_
  have HAR := Lib.hid hAr
  have HBR := Lib.hid hBr
  have HNA := Lib.hid hna
  have HNB := Lib.hid hnb
  have HB := Lib.hid hB
  clear hA hB_ hAr hBr hna hnb hB
  obtain ⟨i0, hi, hz0, hz1, hz2⟩ := info_parts infoR
  rw [ptsE4]
  refine wp_seq_k (fun K4 hK4 => ?_)
  have HK4 := Lib.hid hK4
  clear hK4
  conv => arg 2; whnf
  go_wp2
  refine HK4.out _ _ ?_
  rw [ptsE5]
  refine wp_seq_k (fun K5 hK5 => ?_)
  have HK5 := Lib.hid hK5
  clear hK5
  conv => arg 2; whnf
  go_wp2_with fail
  with_reducible refine (merged_any _ _ _ _ _ _ _).mono ?_
  rintro e_ w1 ⟨rfl, rfl⟩
  go_wp2_with fail
  have bO := Boxed.new W 23 (.slice none 0 0)
  refine (wpIn_wide (n := 3)).1 ?_
  refine wpIn_rangeFunc_ownH rfl (by decide) (gf := 116) (lb := #[.pointer (some ⟨W.heap.size + 1, 0, none⟩), .pointer (some ⟨W.heap.size + 1 + 1, 0, none⟩), .pointer (some ⟨W.heap.size + 1 + 2, 0, none⟩)]) rfl trivial (enters_of Try.func116 (by kernel_rfl) rfl) (mrg_stops W.heap.size W ((((W.alloc (.cells #[.slice none 0 0] 23)).alloc (.cells #[.slice Aa na ca] 23)).alloc (.cells #[.slice Ab nb cb] 23)).alloc (.cells #[.func (.func 18) #[] #[]] 38)) Aa Ab xs_ ys_ na ca nb cb _ _ _ HNA.out HNB.out HA.out HB_.out HAR.out HBR.out hN ?g1 ?g2 ?g3 ?g4 ?g5) (fun h k => h.trans k) ?kb (Below.refl _ _) (fun _ => rfl) (fun pre W' => (∃ v, Boxed W' W.heap.size 23 v ∧ W'.ownsRow W.heap.size 31 2 v pre.length (flatT pre) ∧ True) ∧ Below W.heap.size W W') (fun _ _ _ => False) ?hI (fun _ _ _ _ _ hs _ _ => hs) ?h0 (fun (x : Rt) a' W' => ∃ g_, W'.heap[g_]? = some (.cells #[.int .i64 x.1, .int .i64 x.2] 31 (0, 0)) ∧ a' = { tmps := #[z0, z1, z2, z3, z4, z5, .slice Aa na ca, .slice Ab nb cb, z8, z9, z10, z11, z12, z13, .pointer (some ⟨W.heap.size, 0, none⟩), .pointer (some ⟨g_, 0, none⟩), z16, z17, z18, z19, z20, z21, z22, z23, z24, z25, z26, z27, z28, z29, z30, z31, z32, z33, z34, z35, z36, z37, z38, z39, z40, z41, z42, z43, z44, z45, z46, z47, z48, z49, z50, z51, z52, z53, .slice Aa na ca, .slice Ab nb cb, .func (.func 116) #[] #[.pointer (some ⟨W.heap.size + 1, 0, none⟩), .pointer (some ⟨W.heap.size + 1 + 1, 0, none⟩), .pointer (some ⟨W.heap.size + 1 + 2, 0, none⟩)], rv x, z58, z59, z60, z61, z62, z63, z64, z65, z66, z67, z68, z69, z70, z71, z72, z73, z74, z75, z76, z77, z78, z79, z80, z81, z82, z83, z84, z85, z86, z87, z88, z89], defers := [] }) ?hAx ?assign ?body ?done ?stop
  case g1 => exact (by repeat (with_reducible first | exact Below.refl _ _ | refine Below.alloc ?_ (by first | exact Nat.le_refl _ | (simp only [World.size_alloc]; omega)) _))
  case g2 => show (World.alloc _ _).heap[_]? = _; simp (disch := (first | omega | (simp only [World.size_alloc]; first | done | omega))) only [Hand.q4, Hand.q3]
  case g3 => show (World.alloc _ _).heap[_]? = _; simp (disch := (first | omega | (simp only [World.size_alloc]; first | done | omega))) only [Hand.q4, Hand.q3]
  case g4 => show (World.alloc _ _).heap[_]? = _; simp (disch := (first | omega | (simp only [World.size_alloc]; first | done | omega))) only [Hand.q4, Hand.q3]
  case g5 => exact ⟨by omega, by omega, by omega⟩
  case kb => exact fun W' l o o' hl ho hc hw => ⟨belowK_b (w := ((((W.alloc (.cells #[.slice none 0 0] 23)).alloc (.cells #[.slice Aa na ca] 23)).alloc (.cells #[.slice Ab nb cb] 23)).alloc (.cells #[.func (.func 18) #[] #[]] 38))) (by simp only [World.size_alloc]; omega) W' l o o' hl ho hc hw, fun k t u hk ht hbx => hbx.kept (grownBy_putObj' W' l o') (fun e => by cases e; have hbx2 : W'.heap[_]? = _ := hbx; rw [hbx2] at ho; cases ho; cases hc)⟩
  case hI => exact OwnFrom.and (Own.from (holdsRow_own W.heap.size W.heap.size 23 31 2 (fun pre => pre.length) (fun pre => flatT pre) (fun _ _ => True)) _) (ownFrom_below (Nat.le_refl _) (by simp only [World.size_alloc]; omega))
  case h0 => exact ⟨⟨_, ((bO.alloc _).alloc _).alloc _, World.ownsRow_nil _ _ _ _, trivial⟩, (by repeat (with_reducible first | exact Below.refl _ _ | refine Below.alloc ?_ (by first | exact Nat.le_refl _ | (simp only [World.size_alloc]; omega)) _))⟩
  case hAx => exact fun x a' => (by rintro _ X Y row ⟨g_, hg, ha⟩ hgr hrow; refine ⟨g_, (hgr.block g_ (Hand.hz hg).1 (fun e => ?_)).trans hg, ha⟩; obtain ⟨_, o, ho, hc⟩ := hrow g_ e.symm; rw [hg] at ho; cases ho; cases hc)
  case assign =>
    rintro l pre x W' K ⟨⟨v, hv, hrow, _⟩, hB'⟩ hK
    dsimp only [rv]
    gi_wp2
    exact hK _ _ ((KeepsOthers.alloc _ _).from _) ⟨(Below.refl _ _).alloc hB'.size _, fun k t u _ _ h => h.alloc _⟩ ⟨⟨v, hv.alloc _, hrow.alloc _, trivial⟩, hB'.alloc hB'.size _⟩ ⟨_, Hand.q3 _ _ _ rfl, rfl⟩
  case body =>
    rintro l pre x a' W' hl ⟨r, hr⟩ ⟨⟨v, hv, hrow, _⟩, hB'⟩ ⟨g_, hg, rfl⟩ hlt
    obtain ⟨c0, f0, c1, f1⟩ := Hand.hc2 hg
    have gz := (Hand.hz hg).1
    have hc := hv.cell
    have hbsz := hB'.size
    gi_wp2_with (gi_at_builtin; refine wpListIn_append_own _ rfl _ _ 23 rfl W.heap.size 31 i0 (.agg #[.int .i64 0, .int .i64 0]) 2 16 Try.underlying23 hi hz0 hz1 hz2 rfl (by decide) _ _ _ rfl (hrow.alloc _) ⟨W'.heap.size, 0, none⟩ 1 1 [.int .i64 x.1, .int .i64 x.2] rfl rfl (World.news_of_block (Hand.q3 _ _ _ rfl)) (by intro u hu; simp at hu; rcases hu with rfl | rfl <;> rfl) (by unfold maxLen; omega) (by omega) (by simp only [World.size_alloc]; omega) ?_; intro v' w1 hown' hgrow _; obtain ⟨g', cap', rfl⟩ := ownsRow_succ hown'; obtain ⟨hv1, hv2, hr2, hk2, hb2⟩ := hv.appended (by decide) hrow hB'.size (Nat.le_refl _) hown' hgrow; have hc1 := hv1.cell; have hf1 := hv1.frozen)
    exact ⟨hk2.from _, ⟨hb2, fun k t u hk ht hbx => Boxed.other ((hbx.alloc _).kept hgrow (Boxed.not_row hbx ht hrow)) hk _⟩, ⟨_, hv2, by rw [flatT_snoc, List.length_append]; exact hr2, trivial⟩, hB'.trans hb2⟩
  case done =>
    rintro D ys W' hD rfl ⟨⟨v, hv, hrow, _⟩, hB'⟩ hK
    have hsz := HB.out.size
    (try simp only [Exit.inBlock, Exit.then])
    refine HK5.out _ _ ?_
    refine pts_6 w W' _ hv hrow ?_ ?_ hK (by simp only [World.size_alloc] at hD; omega) (HB.out.trans (Below.mono hB' hsz))
    · have := mrgF_len _ xs_ ys_ (Nat.le_refl _); have := HNA.out; have := HNB.out; omega
    · intro x hx
      rcases (mrgF_mem _ xs_ ys_ (Nat.le_refl _) HAR.out HBR.out x).1 hx with h | h
      · exact right_R64 (HAR.out x h)
      · exact right_R64 (HBR.out x h)
  case stop =>
    rintro D c pre W' _ _ h _
    exact h.elim
end Go.Proofs.Ythlpaglldhgmfaa.PA
namespace Go.Proofs.Ythlpaglldhgmfaa.PA
open Go Go.RowKit Go.Proofs.YthlpaglldhgmfaaW.PrintWords Go.Proofs.YthlpaglldhgmfaaW.PrintLast Go.Proofs.YthlpaglldhgmfaaW.PrintMore
attribute [local go_sem high] eqA31 eqA35
set_option linter.unusedSimpArgs false
set_option linter.unusedVariables false
set_option maxHeartbeats 4000000 in
set_option maxRecDepth 100000 in
theorem pts_3 (w W : World) (m n : MapV) {z2 z3 z4 z5 z8 z9 z10 z11 z12 z13 z14 z15 z16 z17 z18 z19 z20 z21 z22 z23 z24 z25 z26 z27 z28 z29 z30 z31 z32 z33 z34 z35 z36 z37 z38 z39 z40 z41 z42 z43 z44 z45 z46 z47 z48 z49 z50 z51 z52 z53 z54 z55 z56 z57 z58 z59 z60 z61 z62 z63 z64 z65 z66 z67 z68 z69 z70 z71 z72 z73 z74 z75 z76 z77 z78 z79 z80 z81 z82 z83 z84 z85 z86 z87 z88 z89 : Value} {p q : Nat} {ak as_ bk bs : Addr} {ck cs dk ds : Nat} (hm : MapA W p ak as_ ck cs m) (hn : MapA W q bk bs dk ds n) (hM : Mk m) (hN : Mk n) (hb : m.knots.length = m.bends + 2) (hb2 : n.knots.length = n.bends + 2) (hB : Below w.heap.size w W) {Aa : Option Addr} {na ca : Nat} (hna : na = ((turnsK m).map (·.1)).length) (hA : RtS W Aa ((turnsK m).map (·.1))) :
    ptsT3.wp Try.prog (bodyPostM Fence.wide 3 Try.prog Try.f67 (PtsQ w (ptsS m n))) ⟨#[.pointer (some ⟨p, 0, none⟩), .pointer (some ⟨q, 0, none⟩), z2, z3, z4, z5, .slice Aa na ca, .slice none 0 0, z8, z9, z10, z11, z12, z13, z14, z15, z16, z17, z18, z19, z20, z21, z22, z23, z24, z25, z26, z27, z28, z29, z30, z31, z32, z33, z34, z35, z36, z37, z38, z39, z40, z41, z42, z43, z44, z45, z46, z47, z48, z49, z50, z51, z52, z53, z54, z55, z56, z57, z58, z59, z60, z61, z62, z63, z64, z65, z66, z67, z68, z69, z70, z71, z72, z73, z74, z75, z76, z77, z78, z79, z80, z81, z82, z83, z84, z85, z86, z87, z88, z89], []⟩ W := by
  have H_hm := Lib.hid hm
  have H_hn := Lib.hid hn
  have H_hM := Lib.hid hM
  have H_hN := Lib.hid hN
  have H_hb := Lib.hid hb
  have H_hb2 := Lib.hid hb2
  have H_hB := Lib.hid hB
  have H_hA := Lib.hid hA
  have H_hna := Lib.hid hna
  have MT := Lib.hid (fun (u : World) (h : MapA u q bk bs dk ds n) => turns_any q bk bs dk ds n u h H_hb2.out H_hN.out.q.ok.k1 h.cp.1 h.cp.2)
  clear hm hn hM hN hb hb2 hB hA hna
  rw [ptsE3]
  refine wp_seq_k (fun K3 hK3 => ?_)
  have HK3 := Lib.hid hK3
  clear hK3
  conv => arg 2; whnf
  go_wp2_with fail
  with_reducible refine (MT.out _ H_hn.out).mono ?_
  rintro e_ w1 ⟨At, ct, rfl, hks, hb1⟩
  have HB1 := Lib.hid hb1
  have htl : (turnsK n).length ≤ 64 := by rw [turnsK_len]; have := H_hN.out.q.ok.k1; omega
  obtain ⟨nt, hnt⟩ : ∃ x, (turnsK n).length = x := ⟨_, rfl⟩
  have HNT := Lib.hid hnt
  rw [hnt] at htl ⊢
  have HKS := Lib.hid hks
  clear hks hb1 hnt
  go_wp2_with fail
  go_loopw [7, 35] (fun v i wr => ∃ (j : Nat) (xs : List Rt), j ≤ nt ∧ i = .int .i64 (j : Int) ∧ wr.ownsRow W.heap.size 31 2 v j (flatT xs) ∧ xs.length = j ∧ undF m ((turnsK n).map (·.1)) [] = undF m (((turnsK n).map (·.1)).drop j) xs ∧ Below W.heap.size W wr) (fun _ i _ => nt - (intOf i).toNat)
  case atStart => exact ⟨0, [], Nat.zero_le _, rfl, World.ownsRow_nil _ _ _ _, rfl, rfl, HB1.out⟩
  case round =>
    obtain ⟨j, xs, hj, rfl, hown, hxl, hund, hB⟩ := hrel
    have HOWN := Lib.hid hown
    clear hown
    by_cases hjn : j < nt
    · have p1 : ((j : Int) < (nt : Int)) = True := eq_true (by omega)
      have p6 : (j < nt) = True := eq_true (by omega)
      have p5 : (0 : Int) ≤ (j : Int) := by omega
      have w2 : IntKind.i64.wrap (j : Int) = (j : Int) := by rw [IntKind.wrap_i64]; omega
      have hjl : j < (turnsK n).length := by rw [HNT.out]; omega
      obtain ⟨a0, rfl, hka⟩ : ∃ a0, At = some a0 ∧ KnA W a0 (turnsK n) := by rcases HKS.out with h | h; rw [h] at hjl; simp at hjl; exact h
      have hkr := H_hN.out.q.kr _ (List.mem_of_mem_tail (List.dropLast_subset _ (List.getElem_mem hjl)))
      obtain ⟨⟨⟨k1, k2⟩, k3, k4⟩, hk⟩ : ∃ k, (turnsK n)[j] = k := ⟨_, rfl⟩
      obtain ⟨c0, c1, c2, c3⟩ := (hka.below hB) j hjl
      rw [hk] at c0 c1 c2 c3
      dsimp only at c0 c1 c2 c3
      have hsz := hB.size
      obtain ⟨⟨⟨x1, x2⟩, er⟩, hX⟩ : ∃ X, m.undo (k1, k2) = X := ⟨_, rfl⟩
      have ht12 : R64 (k1, k2) := by have := right_R64 hkr.1; rw [hk] at this; exact this
      have MU := Lib.hid (fun (u : World) (h : MapA u p ak as_ ck cs m) => (by have := undo_any p ak as_ ck cs m (k1, k2) u h H_hM.out.q.ok ht12; rw [hX] at this; exact this : Calls Try.prog 31 #[.pointer (some ⟨p, 0, none⟩), .agg #[.int .i64 k1, .int .i64 k2]] u fun e w' => e = .returned (.tuple #[.agg #[.int .i64 x1, .int .i64 x2], .int .i64 er]) ∧ Below u.heap.size u w'))
      have HDR := Lib.hid (show ((turnsK n).map (·.1)).drop j = (k1, k2) :: ((turnsK n).map (·.1)).drop (j + 1) by rw [List.drop_eq_getElem_cons (by simpa using hjl), List.getElem_map, hk])
      have HX := Lib.hid hX
      have HXL := Lib.hid hxl
      have HUN := Lib.hid hund
      have hbn : Below W.heap.size W (wr.alloc (.cells #[.int .i64 k1, .int .i64 k2, .int .i64 k3, .int .i64 k4] 35)) := (by repeat (with_reducible first | exact hB | refine Below.alloc ?_ (by first | exact Nat.le_refl _ | omega | (simp only [World.size_alloc]; omega)) _))
      clear hk hkr ht12 hX hxl hund
      go_wp2_with fail
      with_reducible refine (MU.out _ (H_hm.out.below hbn)).mono ?_
      rintro e_ w2 ⟨rfl, hb2⟩
      have hB2 := Hand.stepB hb2 hbn (Nat.le_refl _)
      have HB2 := Lib.hid hB2
      have hsz2 := hB2.size
      have hO2 : Below wr.heap.size wr w2 := Hand.stepB hb2 (by repeat (with_reducible first | exact Below.refl _ _ | refine Below.alloc ?_ (by first | exact Nat.le_refl _ | omega | (simp only [World.size_alloc]; omega)) _)) (Nat.le_refl _)
      have OW2 := Lib.hid (own_below HOWN.out hO2)
      clear hb2 hB2 hbn hO2 c0 c1 c2 c3 hB
      by_cases he : er = 0
      · have j1 : (er != 0) = false := by simpa using he
        go_wp2_with (at_builtin; refine wpList_append_lies _ rfl _ _ 23 rfl W.heap.size 31 _ (.agg #[.int .i64 0, .int .i64 0]) 2 16 Try.underlying23 rfl rfl rfl rfl rfl (by decide) _ j _ rfl (own_below OW2.out (by repeat (with_reducible first | exact Below.refl _ _ | refine Below.alloc ?_ (by first | exact Nat.le_refl _ | omega | (simp only [World.size_alloc]; omega)) _))) ⟨w2.heap.size + 1, 0, none⟩ 1 1 [.int .i64 x1, .int .i64 x2] rfl rfl (World.news_of_block (Hand.q3 _ _ _ (by first | rfl | simp))) (by intro u hu; simp at hu; rcases hu with rfl | rfl <;> rfl) (by decide) (by unfold maxLen; omega) (by omega) (by simp only [World.size_alloc]; omega) _ rfl ?_)
        intro g2 cap2 w3 hown2 hgrow hat hlt
        have hB3 : Below W.heap.size W w3 := (show Below W.heap.size W _ from (by repeat (with_reducible first | exact HB2.out | refine Below.alloc ?_ (by first | exact Nat.le_refl _ | omega | (simp only [World.size_alloc]; omega)) _))).grown hgrow (by simp only [World.size_alloc]; omega) (fun k hk => (OW2.out.lt k hk).1)
        go_wp2
        go_roundw
        case rel => exact ⟨j + 1, xs ++ [(x1, x2)], by omega, by rw [Int.natCast_add]; rfl, by rw [flatT_snoc]; exact hown2, by rw [List.length_append, HXL.out]; rfl, by rw [HUN.out, HDR.out, undF, if_neg (by rw [HX.out]; simp [he]), HX.out], hB3⟩
        case measure => simp [intOf]; omega
      · have j1 : (er != 0) = true := by simpa using he
        go_wp2
        (try simp only [Exit.inBlock, Exit.then])
        refine retM0 (results_tmp2 rfl _ _ _) ?_
        have e0 : undF m ((turnsK n).map (·.1)) [] = ([], er) := by rw [HUN.out, HDR.out, undF, HX.out]; exact if_pos he
        have e : ptsS m n = ([], er) := by unfold ptsS; rw [e0]; exact if_pos he
        rw [e]
        exact ⟨_, rfl, fun h => absurd h he, (H_hB.out.trans (Below.mono (HB2.out.alloc HB2.out.size _) H_hB.out.size))⟩
    · have p1 : ((j : Int) < (nt : Int)) = False := eq_false (by omega)
      have hjn2 : j = nt := by omega
      subst hjn2
      have hdn : ((turnsK n).map (·.1)).drop j = [] := List.drop_eq_nil_of_le (by rw [List.length_map, HNT.out]; exact Nat.le_refl _)
      rw [hdn, undF] at hund
      obtain ⟨ys, y1, y2, y3⟩ := undF_ok H_hM.out _ _ _ hund
      rw [List.nil_append] at y1
      subst y1
      have hps : ptsS m n = edgeS (mrgF ((turnsK m).map (·.1)) xs) := by unfold ptsS; rw [hund, if_neg (by simp)]
      have hof := HOWN.out
      rw [← hxl] at hof
      obtain ⟨Ab, cb, rfl, hnb, hrs, _⟩ := own_rts hof
      have HRS := Lib.hid hrs
      have HBB := Lib.hid hB
      have HNB := Lib.hid hnb
      have HPS := Lib.hid hps
      have HXL := Lib.hid hxl
      have HY2 := Lib.hid y2
      have hra : ∀ x ∈ (turnsK m).map (·.1), rRight x = true := by intro x hx; obtain ⟨k, hk, rfl⟩ := List.mem_map.1 hx; exact (H_hM.out.q.kr k (List.mem_of_mem_tail (List.dropLast_subset _ hk))).1
      have HRA := Lib.hid hra
      have hml : (turnsK m).length ≤ 64 := by rw [turnsK_len]; have := H_hM.out.q.ok.k1; omega
      clear hof hrs hB hnb hps hund hdn y2 y3 hra
      go_wp2
      refine HK3.out _ _ ?_
      rw [HPS.out]
      exact pts_4 w wr _ xs H_hna.out (by have := HXL.out; omega) (H_hA.out.below HBB.out) HRS.out HRA.out HY2.out (by have := H_hna.out; rw [List.length_map] at this; have := HXL.out; omega) (H_hB.out.trans (Below.mono HBB.out H_hB.out.size))
set_option maxHeartbeats 4000000 in
set_option maxRecDepth 100000 in
theorem pts_2 (w W : World) (m n : MapV) {z2 z3 z4 z5 z8 z9 z10 z11 z12 z13 z14 z15 z16 z17 z18 z19 z20 z21 z22 z23 z24 z25 z26 z27 z28 z29 z30 z31 z32 z33 z34 z35 z36 z37 z38 z39 z40 z41 z42 z43 z44 z45 z46 z47 z48 z49 z50 z51 z52 z53 z54 z55 z56 z57 z58 z59 z60 z61 z62 z63 z64 z65 z66 z67 z68 z69 z70 z71 z72 z73 z74 z75 z76 z77 z78 z79 z80 z81 z82 z83 z84 z85 z86 z87 z88 z89 : Value} {p q : Nat} {ak as_ bk bs : Addr} {ck cs dk ds : Nat} (hm : MapA W p ak as_ ck cs m) (hn : MapA W q bk bs dk ds n) (hM : Mk m) (hN : Mk n) (hb : m.knots.length = m.bends + 2) (hb2 : n.knots.length = n.bends + 2) (hB : Below w.heap.size w W) :
    ptsT2.wp Try.prog (bodyPostM Fence.wide 3 Try.prog Try.f67 (PtsQ w (ptsS m n))) ⟨#[.pointer (some ⟨p, 0, none⟩), .pointer (some ⟨q, 0, none⟩), z2, z3, z4, z5, .slice none 0 0, .slice none 0 0, z8, z9, z10, z11, z12, z13, z14, z15, z16, z17, z18, z19, z20, z21, z22, z23, z24, z25, z26, z27, z28, z29, z30, z31, z32, z33, z34, z35, z36, z37, z38, z39, z40, z41, z42, z43, z44, z45, z46, z47, z48, z49, z50, z51, z52, z53, z54, z55, z56, z57, z58, z59, z60, z61, z62, z63, z64, z65, z66, z67, z68, z69, z70, z71, z72, z73, z74, z75, z76, z77, z78, z79, z80, z81, z82, z83, z84, z85, z86, z87, z88, z89], []⟩ W := by
  have H_hm := Lib.hid hm
  have H_hn := Lib.hid hn
  have H_hM := Lib.hid hM
  have H_hN := Lib.hid hN
  have H_hb := Lib.hid hb
  have H_hb2 := Lib.hid hb2
  have H_hB := Lib.hid hB
  have MT := Lib.hid (fun (u : World) (h : MapA u p ak as_ ck cs m) => turns_any p ak as_ ck cs m u h H_hb.out H_hM.out.q.ok.k1 h.cp.1 h.cp.2)
  clear hm hn hM hN hb hb2 hB
  rw [ptsE2]
  refine wp_seq_k (fun K2 hK2 => ?_)
  have HK2 := Lib.hid hK2
  clear hK2
  conv => arg 2; whnf
  go_wp2_with fail
  with_reducible refine (MT.out _ H_hm.out).mono ?_
  rintro e_ w1 ⟨At, ct, rfl, hks, hb1⟩
  have HB1 := Lib.hid hb1
  have htl : (turnsK m).length ≤ 64 := by rw [turnsK_len]; have := H_hM.out.q.ok.k1; omega
  obtain ⟨nt, hnt⟩ : ∃ x, (turnsK m).length = x := ⟨_, rfl⟩
  have HNT := Lib.hid hnt
  rw [hnt] at htl ⊢
  have HKS := Lib.hid hks
  clear hks hb1 hnt
  go_wp2_with fail
  go_loopw [6, 22] (fun v i wr => ∃ j : Nat, j ≤ nt ∧ i = .int .i64 (j : Int) ∧ wr.ownsRow W.heap.size 31 2 v j (flatT (((turnsK m).map (·.1)).take j)) ∧ Below W.heap.size W wr) (fun _ i _ => nt - (intOf i).toNat)
  case atStart => exact ⟨0, Nat.zero_le _, rfl, World.ownsRow_nil _ _ _ _, HB1.out⟩
  case round =>
    obtain ⟨j, hj, rfl, hown, hB⟩ := hrel
    have HOWN := Lib.hid hown
    clear hown
    by_cases hjn : j < nt
    · have p1 : ((j : Int) < (nt : Int)) = True := eq_true (by omega)
      have p6 : (j < nt) = True := eq_true (by omega)
      have p5 : (0 : Int) ≤ (j : Int) := by omega
      have w2 : IntKind.i64.wrap (j : Int) = (j : Int) := by rw [IntKind.wrap_i64]; omega
      have hjl : j < (turnsK m).length := by rw [HNT.out]; omega
      obtain ⟨a0, rfl, hka⟩ : ∃ a0, At = some a0 ∧ KnA W a0 (turnsK m) := by rcases HKS.out with h | h; rw [h] at hjl; simp at hjl; exact h
      have hkr := H_hM.out.q.kr _ (List.mem_of_mem_tail (List.dropLast_subset _ (List.getElem_mem hjl)))
      obtain ⟨⟨⟨k1, k2⟩, k3, k4⟩, hk⟩ : ∃ k, (turnsK m)[j] = k := ⟨_, rfl⟩
      obtain ⟨c0, c1, c2, c3⟩ := (hka.below hB) j hjl
      rw [hk] at c0 c1 c2 c3
      dsimp only at c0 c1 c2 c3
      have hsz := hB.size
      have HT := Lib.hid (show ((turnsK m).map (·.1)).take (j + 1) = ((turnsK m).map (·.1)).take j ++ [(k1, k2)] by rw [List.take_succ_eq_append_getElem (by simpa using hjl), List.getElem_map, hk])
      clear hk hkr
      go_wp2_with (at_builtin; refine wpList_append_lies _ rfl _ _ 23 rfl W.heap.size 31 _ (.agg #[.int .i64 0, .int .i64 0]) 2 16 Try.underlying23 rfl rfl rfl rfl rfl (by decide) _ j _ rfl (own_below HOWN.out (by repeat (with_reducible first | exact Below.refl _ _ | refine Below.alloc ?_ (by first | exact Nat.le_refl _ | omega | (simp only [World.size_alloc]; omega)) _))) ⟨wr.heap.size + 1, 0, none⟩ 1 1 [.int .i64 k1, .int .i64 k2] rfl rfl (World.news_of_block (Hand.q3 _ _ _ (by first | rfl | simp))) (by intro u hu; simp at hu; rcases hu with rfl | rfl <;> rfl) (by decide) (by unfold maxLen; omega) (by omega) (by simp only [World.size_alloc]; omega) _ rfl ?_)
      intro g2 cap2 w2 hown2 hgrow hat hlt
      have hB2 : Below W.heap.size W w2 := (show Below W.heap.size W _ from (by repeat (with_reducible first | exact hB | refine Below.alloc ?_ (by first | exact Nat.le_refl _ | omega | (simp only [World.size_alloc]; omega)) _))).grown hgrow (by simp only [World.size_alloc]; omega) (fun k hk => (HOWN.out.lt k hk).1)
      go_wp2
      go_roundw
      case rel => exact ⟨j + 1, by omega, by rw [Int.natCast_add]; rfl, by rw [HT.out, flatT_snoc]; exact hown2, hB2⟩
      case measure => simp [intOf]; omega
    · have p1 : ((j : Int) < (nt : Int)) = False := eq_false (by omega)
      have hjn2 : j = nt := by omega
      subst hjn2
      have hof := HOWN.out
      rw [List.take_of_length_le (by rw [List.length_map, HNT.out]; exact Nat.le_refl _)] at hof
      obtain ⟨Aa, ca, rfl, hna, hrs, _⟩ := own_rts hof
      have HRS := Lib.hid hrs
      have HBB := Lib.hid hB
      rw [← hna]
      have HNA := Lib.hid hna
      clear hof hrs hB hna
      go_wp2
      refine HK2.out _ _ ?_
      exact pts_3 w wr m n (H_hm.out.below HBB.out) (H_hn.out.below HBB.out) H_hM.out H_hN.out H_hb.out H_hb2.out (H_hB.out.trans (Below.mono HBB.out H_hB.out.size)) HNA.out HRS.out
set_option maxHeartbeats 4000000 in
set_option maxRecDepth 100000 in
theorem points_any (m n : MapV) (w : World) {p q : Nat} {ak as_ bk bs : Addr} {ck cs dk ds : Nat} (hm : MapA w p ak as_ ck cs m) (hn : MapA w q bk bs dk ds n) (hM : Mk m) (hN : Mk n) (hb : m.knots.length = m.bends + 2) (hb2 : n.knots.length = n.bends + 2) :
    Calls Try.prog 67 #[.pointer (some ⟨p, 0, none⟩), .pointer (some ⟨q, 0, none⟩)] w (PtsQ w (ptsS m n)) := by
  have H_hm := Lib.hid hm
  have H_hn := Lib.hid hn
  have H_hM := Lib.hid hM
  have H_hN := Lib.hid hN
  have H_hb := Lib.hid hb
  have H_hb2 := Lib.hid hb2
  clear hm hn hM hN hb hb2
  refine (callsIn_wide (n := 3)).1 ?_
  refine callsIn_of_wp_marks Try.func67 rfl trivial ?_ rfl
  simp only [Try.ntmps67, List.size_toArray, List.length_cons, List.length_nil, Nat.reduceAdd, Nat.reduceSub, Array.replicate_succ, Array.replicate_zero, List.push_toArray, List.append_toArray, List.nil_append, List.cons_append]
  refine wpIn_wide.2 ?_
  refine wp_seq_k (fun K0 hK0 => ?_)
  have HK0 := Lib.hid hK0
  clear hK0
  go_wp2
  refine HK0.out _ _ ?_
  show ptsT1.wp _ _ _ _
  rw [ptsE1]
  refine wp_seq_k (fun K1 hK1 => ?_)
  have HK1 := Lib.hid hK1
  clear hK1
  conv => arg 2; whnf
  go_wp2
  refine HK1.out _ _ ?_
  exact pts_2 w w m n H_hm.out H_hn.out H_hM.out H_hN.out H_hb.out H_hb2.out (Below.refl _ _)
end Go.Proofs.Ythlpaglldhgmfaa.PA
namespace Go.Proofs.Ythlpaglldhgmfaa.PA
open Go Go.RowKit Go.Proofs.YthlpaglldhgmfaaW.PrintWords Go.Proofs.YthlpaglldhgmfaaW.PrintLast Go.Proofs.YthlpaglldhgmfaaW.PrintMore
attribute [local go_sem high] eqA31 eqA35
set_option linter.unusedSimpArgs false
set_option linter.unusedVariables false
noncomputable def thnT1 : Code := sndC (Try.f30.body.getD .skip)
noncomputable def thnT2 : Code := sndC thnT1
noncomputable def thnT3 : Code := sndC thnT2
noncomputable def thnT4 : Code := sndC thnT3
noncomputable def thnT5 : Code := sndC thnT4
theorem thnE1 : thnT1 = .seq (fstC thnT1) thnT2 := by kernel_rfl
theorem thnE2 : thnT2 = .seq (fstC thnT2) thnT3 := by kernel_rfl
theorem thnE3 : thnT3 = .seq (fstC thnT3) thnT4 := by kernel_rfl
theorem thnE4 : thnT4 = .seq (fstC thnT4) thnT5 := by kernel_rfl
theorem thnE0 : Try.f30.body.getD .skip = .seq (fstC (Try.f30.body.getD .skip)) thnT1 := by kernel_rfl
theorem bends_of {l : List Kn} {m : MapV} (h : newK l = (some m, 0)) : m.knots.length = m.bends + 2 := by
  obtain ⟨k0, ks, p0, ss, _, _, _, _, h4, h5, _⟩ := newK_inv h
  rw [h4]; exact (own_q h5).2
theorem undF_len {m : MapV} : ∀ (l acc xs : List Rt), undF m l acc = (xs, 0) → xs.length = acc.length + l.length := by
  intro l
  induction l with
  | nil => intro acc xs e; simp only [undF, Prod.mk.injEq, and_true] at e; rw [← e]; rfl
  | cons t l ih =>
    intro acc xs e
    simp only [undF] at e
    split at e
    · rename_i hne; simp only [Prod.mk.injEq] at e; exact absurd e.2 hne
    · rw [ih _ _ e]; simp; omega
theorem edge_right {l P : List Rt} (h : edgeS l = (P, 0)) (hl : ∀ t ∈ l, rRight t = true) : (∀ t ∈ P, rRight t = true) ∧ P.length ≤ l.length + 2 := by
  cases l with
  | nil =>
    simp only [edgeS, Prod.mk.injEq, and_true] at h
    subst h
    exact ⟨fun t ht => (by rcases List.mem_cons.1 ht with rfl | ht; exact right_0; rcases List.mem_cons.1 ht with rfl | ht; exact right_1; cases ht), by simp⟩
  | cons t l =>
    simp only [edgeS, Prod.mk.injEq] at h
    obtain ⟨rfl, h2⟩ := h
    obtain ⟨h3, h4⟩ := doS_e h2
    obtain ⟨_, _, r1, _⟩ := rSub_ok (pr0 h3)
    obtain ⟨_, _, r2, _⟩ := rAdd_ok (pr0 h4)
    rw [h3, doS_0]
    refine ⟨fun x hx => ?_, by simp⟩
    rcases List.mem_cons.1 hx with rfl | hx
    · exact r1
    · rcases List.mem_append.1 hx with hx | hx
      · exact hl x hx
      · rw [List.mem_singleton.1 hx]; exact r2
theorem pts_ok {m n : MapV} (h : Mk m) (hn : Mk n) (hp : (ptsS m n).2 = 0) : (∀ t ∈ (ptsS m n).1, rRight t = true) ∧ (ptsS m n).1.length ≤ 200 := by
  unfold ptsS at hp ⊢
  split at hp
  · rename_i hz; exact absurd hp hz
  · rename_i hz
    rw [if_neg hz]
    have hz : (undF m ((turnsK n).map (·.1)) []).2 = 0 := Decidable.not_not.1 hz
    obtain ⟨ys, f1, f2, _⟩ := undF_ok h _ [] (undF m ((turnsK n).map (·.1)) []).1 (Prod.ext rfl hz)
    have hl := undF_len _ _ _ (show undF m ((turnsK n).map (·.1)) [] = ((undF m ((turnsK n).map (·.1)) []).1, 0) from Prod.ext rfl hz)
    rw [List.nil_append] at f1
    rw [f1] at hp hl ⊢
    have hra : ∀ x ∈ (turnsK m).map (·.1), rRight x = true := by
      intro x hx
      obtain ⟨k, hk, rfl⟩ := List.mem_map.1 hx
      exact (h.q.kr k (List.mem_of_mem_tail (List.dropLast_subset _ hk))).1
    obtain ⟨e1, e2⟩ := edge_right (P := (edgeS (mrgF ((turnsK m).map (·.1)) ys)).1) (Prod.ext rfl hp) (fun t ht => by rcases (mrgF_mem _ _ _ (Nat.le_refl _) hra f2 t).1 ht with h | h; exact hra t h; exact f2 t h)
    have a1 := mrgF_len _ ((turnsK m).map (·.1)) ys (Nat.le_refl _)
    have a2 := h.q.ok.k1
    have a3 := hn.q.ok.k1
    rw [List.length_map, turnsK_len] at hl a1
    rw [List.length_nil] at hl
    exact ⟨e1, by omega⟩
theorem own_kns {w : World} {base n : Nat} {e : TypeId} {v : Value} {l : List Kn} (h : w.ownsRow base e 4 v n (flatK l)) (hn : l.length = n) : ∃ A c, v = .slice A l.length c ∧ KnS w A l := by
  rcases h.2 with ⟨rfl, h0⟩ | ⟨g, cap, cur, rfl, _⟩
  · exact ⟨none, 0, by rw [hn, h0], .inl (List.length_eq_zero_iff.1 (hn.trans h0))⟩
  · exact ⟨some ⟨g, 0, none⟩, cap, by rw [hn], .inr ⟨_, rfl, own_kna h⟩⟩
set_option maxHeartbeats 4000000 in
set_option maxRecDepth 100000 in
theorem thn_4 (w W : World) (m n : MapV) (P : List Rt) {z2 z3 z4 z5 z7 z9 z10 z11 z12 z13 z14 z15 z16 z17 z18 z19 z20 z21 z22 z23 z24 z25 z26 z27 z28 z29 z30 z31 z32 z33 z34 z35 z36 z37 z38 z39 z40 z41 z42 z43 z44 z45 z46 z47 z48 z49 z50 z51 z52 z53 z54 z55 z56 : Value} {p q : Nat} {ak as_ bk bs : Addr} {ck cs dk ds : Nat} {A0 : Option Addr} {nP c0 : Nat} (hm : MapA W p ak as_ ck cs m) (hn : MapA W q bk bs dk ds n) (hM : Mk m) (hN : Mk n) (hP : RtS W A0 P) (hnP : nP = P.length) (hl : nP ≤ 200) (hPr : ∀ t ∈ P, rRight t = true) (hT : ptsS m n = (P, 0)) (hB : Below w.heap.size w W) :
    thnT4.wp Try.prog (bodyPost Try.prog Try.f30 (NewQ w (thenS m n))) ⟨#[.pointer (some ⟨p, 0, none⟩), .pointer (some ⟨q, 0, none⟩), z2, z3, z4, z5, .slice A0 nP c0, z7, .slice none 0 0, z9, z10, z11, z12, z13, z14, z15, z16, z17, z18, z19, z20, z21, z22, z23, z24, z25, z26, z27, z28, z29, z30, z31, z32, z33, z34, z35, z36, z37, z38, z39, z40, z41, z42, z43, z44, z45, z46, z47, z48, z49, z50, z51, z52, z53, z54, z55, z56], []⟩ W := by
  have H_hm := Lib.hid hm
  have H_hn := Lib.hid hn
  have H_hM := Lib.hid hM
  have H_hN := Lib.hid hN
  have H_hP := Lib.hid hP
  have H_hnP := Lib.hid hnP
  have H_hPr := Lib.hid hPr
  have H_hT := Lib.hid hT
  have H_hB := Lib.hid hB
  clear hm hn hM hN hP hnP hPr hT hB
  rw [thnE4]
  refine wp_seq_k (fun K4 hK4 => ?_)
  have HK4 := Lib.hid hK4
  clear hK4
  conv => arg 2; whnf
  go_wp2_with fail
  go_loopw [8, 24] (fun v i wr => ∃ (j : Nat) (K : List Kn), j ≤ nP ∧ i = .int .i64 (j : Int) ∧ wr.ownsRow W.heap.size 35 4 v j (flatK K) ∧ K.length = j ∧ KnR K ∧ thrF m n P [] = thrF m n (P.drop j) K ∧ Below W.heap.size W wr) (fun _ i _ => nP - (intOf i).toNat)
  case atStart => exact ⟨0, [], Nat.zero_le _, rfl, World.ownsRow_nil _ _ _ _, rfl, (fun k hk => (by cases hk)), rfl, Below.refl _ _⟩
  case round =>
    obtain ⟨j, K, hj, rfl, hown, hKl, hKR, hth, hB⟩ := hrel
    have HOWN := Lib.hid hown
    have HKL := Lib.hid hKl
    have HKR := Lib.hid hKR
    have HTH := Lib.hid hth
    clear hown hKl hKR hth
    by_cases hjn : j < nP
    · have p1 : ((j : Int) < (nP : Int)) = True := eq_true (by omega)
      have p6 : (j < nP) = True := eq_true (by omega)
      have p5 : (0 : Int) ≤ (j : Int) := by omega
      have w2 : IntKind.i64.wrap (j : Int) = (j : Int) := by rw [IntKind.wrap_i64]; omega
      have hjl : j < P.length := by rw [← H_hnP.out]; exact hjn
      obtain ⟨a0, rfl, hpa⟩ : ∃ a0, A0 = some a0 ∧ RtA W a0 P := by rcases H_hP.out with h | h; rw [h] at hjl; simp at hjl; exact h
      have htr := H_hPr.out _ (List.getElem_mem hjl)
      have ht := right_R64 htr
      obtain ⟨⟨t1, t2⟩, hk⟩ : ∃ k, P[j] = k := ⟨_, rfl⟩
      obtain ⟨c0_, c1_⟩ := (hpa.below hB) j hjl
      rw [hk] at c0_ c1_ htr ht
      dsimp only at c0_ c1_
      have HDR := Lib.hid (show P.drop j = (t1, t2) :: P.drop (j + 1) by rw [List.drop_eq_getElem_cons hjl, hk])
      obtain ⟨⟨⟨x1, x2⟩, e1⟩, hX⟩ : ∃ X, m.app (t1, t2) = X := ⟨_, rfl⟩
      have hx := app_R m H_hM.out.q.ok (t1, t2) ht
      rw [hX] at hx
      obtain ⟨⟨⟨y1, y2⟩, e2⟩, hY⟩ : ∃ X, n.app (x1, x2) = X := ⟨_, rfl⟩
      have hy := app_R n H_hN.out.q.ok (x1, x2) hx
      rw [hY] at hy
      have M1 := Lib.hid (fun (u : World) (h : MapA u p ak as_ ck cs m) => (by have := app_any p ak as_ ck cs m (t1, t2) u h H_hM.out.q.ok ht; rw [hX] at this; exact this : Calls Try.prog 15 #[.pointer (some ⟨p, 0, none⟩), .agg #[.int .i64 t1, .int .i64 t2]] u fun e w' => e = .returned (.tuple #[.agg #[.int .i64 x1, .int .i64 x2], .int .i64 e1]) ∧ Below u.heap.size u w'))
      have M2 := Lib.hid (fun (u : World) (h : MapA u q bk bs dk ds n) => (by have := app_any q bk bs dk ds n (x1, x2) u h H_hN.out.q.ok hx; rw [hY] at this; exact this : Calls Try.prog 15 #[.pointer (some ⟨q, 0, none⟩), .agg #[.int .i64 x1, .int .i64 x2]] u fun e w' => e = .returned (.tuple #[.agg #[.int .i64 y1, .int .i64 y2], .int .i64 e2]) ∧ Below u.heap.size u w'))
      have HTH2 := Lib.hid (show thrF m n P [] = if e1 ≠ 0 then ([], e1) else if e2 ≠ 0 then ([], e2) else thrF m n (P.drop (j + 1)) (K ++ [((t1, t2), (y1, y2))]) from (by rw [HTH.out, HDR.out, thrF, hX]; dsimp only; rw [hY]))
      have HKY := Lib.hid (show R64 (t1, t2) ∧ R64 (y1, y2) from ⟨ht, hy⟩)
      have hsz := hB.size
      have hb0 : Below W.heap.size W (wr.alloc (.cells #[.int .i64 t1, .int .i64 t2] 31)) := hB.alloc hsz _
      have gT0 : (wr.alloc (.cells #[.int .i64 t1, .int .i64 t2] 31)).heap[wr.heap.size]? = some (.cells #[.int .i64 t1, .int .i64 t2] 31 (0, 0)) := Hand.q3 _ _ _ rfl
      have hbr0 : Below wr.heap.size wr (wr.alloc (.cells #[.int .i64 t1, .int .i64 t2] 31)) := (Below.refl _ _).alloc (Nat.le_refl _) _
      clear hk hX hY hx hy htr ht
      go_wp2_with fail
      with_reducible refine (M1.out _ (H_hm.out.below hb0)).mono ?_
      rintro e_ w1 ⟨rfl, hb1⟩
      have hB1 := Hand.stepB hb1 hb0 (Nat.le_refl _)
      have hbr1 := Hand.stepB hb1 hbr0 (Nat.le_refl _)
      have gT1 := Hand.kb hb1 gT0
      have HB1 := Lib.hid hB1
      have HBR1 := Lib.hid hbr1
      have GT1 := Lib.hid gT1
      clear hb1 hb0 hbr0 gT0 gT1 hbr1 c0_ c1_ hB
      have hsz1 := hB1.size
      clear hB1
      by_cases h1 : e1 = 0
      · have j1 : (e1 != 0) = false := by simpa using h1
        obtain ⟨U, hU⟩ : ∃ U, U = w1.alloc (.cells #[.int .i64 x1, .int .i64 x2] 31) := ⟨_, rfl⟩
        have gX : U.heap[w1.heap.size]? = some (.cells #[.int .i64 x1, .int .i64 x2] 31 (0, 0)) := by rw [hU]; exact Hand.q3 _ _ _ rfl
        have hBU : Below W.heap.size W U := by rw [hU]; exact HB1.out.alloc HB1.out.size _
        have hbU : Below w1.heap.size w1 U := by rw [hU]; exact (Below.refl _ _).alloc (Nat.le_refl _) _
        have GX := Lib.hid gX
        have HBU := Lib.hid hBU
        have HBRU := Lib.hid (Hand.stepB hbU HBR1.out (Nat.le_refl _))
        have GTU := Lib.hid (Hand.kb hbU GT1.out)
        obtain ⟨d0, fd0, d1, fd1⟩ := Hand.hc2 gX
        clear gX hBU hbU
        go_wp2_with fail
        rw [← hU]
        clear hU
        with_reducible refine (M2.out _ (H_hn.out.below HBU.out)).mono ?_
        rintro e_ w2 ⟨rfl, hb2⟩
        have gx2 := Hand.kb hb2 GX.out
        have gt2 := Hand.kb hb2 GTU.out
        have gxz := (Hand.hz gx2).1
        have gtz := (Hand.hz gt2).1
        obtain ⟨d0, fd0, d1, fd1⟩ := Hand.hc2 gx2
        have HB2 := Lib.hid (Hand.stepB hb2 HBU.out (Nat.le_refl _))
        have HBR2 := Lib.hid (Hand.stepB hb2 HBRU.out (Nat.le_refl _))
        clear hb2
        have hsz2 := HB2.out.size
        have hszr := HBR2.out.size
        by_cases h2 : e2 = 0
        · have j2 : (e2 != 0) = false := by simpa using h2
          have HOW := Lib.hid (fun (u : World) (h : Below wr.heap.size wr u) => own_below HOWN.out h)
          obtain ⟨tt0, tf0, tt1, tf1⟩ := Hand.hc2 gt2
          have tlt := (Hand.hz GT1.out).1
          have ne1 : (w1.heap.size = wr.heap.size) = False := eq_false (by omega)
          have ne2 : (wr.heap.size = w1.heap.size) = False := eq_false (by omega)
          go_wp2_with (at_builtin; refine wpList_append_lies _ rfl _ _ 22 rfl W.heap.size 35 _ (.agg #[.int .i64 0, .int .i64 0, .int .i64 0, .int .i64 0]) 4 32 Try.underlying22 rfl rfl rfl rfl rfl (by decide) _ j _ rfl (HOW.out _ (by repeat (with_reducible first | exact HBR2.out | refine Below.setCell ?_ (by dsimp only; omega) _ | refine Below.alloc ?_ (by first | omega | (simp only [World.size_alloc, World.size_setCell]; omega)) _))) ⟨w2.heap.size, 0, none⟩ 1 1 [.int .i64 t1, .int .i64 t2, .int .i64 y1, .int .i64 y2] rfl rfl (World.news_of_block (Hand.q3 _ _ _ (by first | rfl | simp))) (by intro u hu; simp at hu; rcases hu with rfl | rfl | rfl | rfl <;> rfl) (by decide) (by unfold maxLen; omega) (by omega) (by simp only [World.size_alloc, World.size_setCell]; omega) _ rfl ?_)
          intro g3 c3 w3 hown3 hgrow hat hlt
          have hB3 : Below W.heap.size W w3 := (show Below W.heap.size W _ from (by repeat (with_reducible first | exact HB2.out | refine Below.setCell ?_ (by dsimp only; omega) _ | refine Below.alloc ?_ (by first | omega | (simp only [World.size_alloc, World.size_setCell]; omega)) _))).grown hgrow (by simp only [World.size_alloc, World.size_setCell]; omega) (fun k hk => (HOWN.out.lt k hk).1)
          go_wp2
          go_roundw
          case rel => exact ⟨j + 1, K ++ [((t1, t2), (y1, y2))], by omega, by rw [Int.natCast_add]; rfl, by rw [flatK_snoc]; exact hown3, by rw [List.length_append, HKL.out]; rfl, by (intro k hk; rcases List.mem_append.1 hk with h | h; exact HKR.out k h; rw [List.mem_singleton.1 h]; exact HKY.out), by rw [HTH2.out, if_neg (by simp [h1]), if_neg (by simp [h2])], hB3⟩
          case measure => simp [intOf]; omega
        · have j2 : (e2 != 0) = true := by simpa using h2
          go_wp2
          go_ret2
          rw [show thenS m n = (none, e2) from by have e0 : thrF m n P [] = ([], e2) := (by rw [HTH2.out]; rw [if_neg (by simp [h1])]; exact if_pos h2); unfold thenS; rw [H_hT.out, if_neg (by simp), e0]; exact if_pos h2]
          exact ⟨_, rfl, rfl, H_hB.out.trans (Below.mono (by repeat (with_reducible first | exact HB2.out | refine Below.setCell ?_ (by dsimp only; omega) _ | refine Below.alloc ?_ (by first | omega | (simp only [World.size_alloc, World.size_setCell]; omega)) _)) H_hB.out.size)⟩
      · have j1 : (e1 != 0) = true := by simpa using h1
        go_wp2
        go_ret2
        rw [show thenS m n = (none, e1) from by have e0 : thrF m n P [] = ([], e1) := (by rw [HTH2.out]; exact if_pos h1); unfold thenS; rw [H_hT.out, if_neg (by simp), e0]; exact if_pos h1]
        exact ⟨_, rfl, rfl, H_hB.out.trans (Below.mono (by repeat (with_reducible first | exact HB1.out | refine Below.setCell ?_ (by dsimp only; omega) _ | refine Below.alloc ?_ (by first | omega | (simp only [World.size_alloc, World.size_setCell]; omega)) _)) H_hB.out.size)⟩
    · have p1 : ((j : Int) < (nP : Int)) = False := eq_false (by omega)
      have hjn2 : j = nP := by omega
      subst hjn2
      have hth := HTH.out
      rw [List.drop_eq_nil_of_le (by rw [← H_hnP.out]; exact Nat.le_refl _), thrF] at hth
      have e : thenS m n = newK K := by unfold thenS; rw [H_hT.out, if_neg (by simp), hth, if_neg (by simp)]
      have HE := Lib.hid e
      obtain ⟨A1, c1, rfl, hks⟩ := own_kns HOWN.out HKL.out
      have MN := Lib.hid (newm_any wr K A1 c1 hks HKR.out)
      have HBB := Lib.hid hB
      clear hth hks hB e
      go_wp2
      refine HK4.out _ _ ?_
      conv => arg 2; whnf
      go_wp2_with fail
      with_reducible refine (MN.out).mono ?_
      rintro e_ w2 ⟨v, rfl, hnr, hb2⟩
      have HB2 := Lib.hid hb2
      have HNR := Lib.hid hnr
      clear hb2 hnr
      go_wp2
      go_ret2
      rw [HE.out]
      have hBW := H_hB.out.trans (Below.mono HBB.out H_hB.out.size)
      exact ⟨_, rfl, HNR.out.mono hBW.size, Hand.stepB HB2.out hBW (Nat.le_refl _)⟩
set_option maxHeartbeats 4000000 in
set_option maxRecDepth 100000 in
theorem thn_any (m n : MapV) (w : World) {p q : Nat} {ak as_ bk bs : Addr} {ck cs dk ds : Nat} (hm : MapA w p ak as_ ck cs m) (hn : MapA w q bk bs dk ds n) (hM : Mk m) (hN : Mk n) :
    Calls Try.prog 30 #[.pointer (some ⟨p, 0, none⟩), .pointer (some ⟨q, 0, none⟩)] w (NewQ w (thenS m n)) := by
  have MP := Lib.hid (points_any m n w hm hn hM hN (bends_of hM) (bends_of hN))
  obtain ⟨⟨P, e⟩, hT⟩ : ∃ X, ptsS m n = X := ⟨_, rfl⟩
  rw [hT] at MP
  have H_hT := Lib.hid hT
  clear hT
  have H_hm := Lib.hid hm
  have H_hn := Lib.hid hn
  have H_hM := Lib.hid hM
  have H_hN := Lib.hid hN
  clear hm hn hM hN
  go_enter Try.func30, Try.ntmps30
  refine wp_seq_k (fun K0 hK0 => ?_)
  have HK0 := Lib.hid hK0
  clear hK0
  go_wp2
  refine HK0.out _ _ ?_
  show thnT1.wp _ _ _ _
  rw [thnE1]
  refine wp_seq_k (fun K1 hK1 => ?_)
  have HK1 := Lib.hid hK1
  clear hK1
  conv => arg 2; whnf
  go_wp2_with fail
  with_reducible refine (MP.out).mono ?_
  rintro e_ w1 ⟨v, rfl, hv, hb1⟩
  have HV := Lib.hid hv
  have HB1 := Lib.hid hb1
  clear hv hb1
  go_wp2
  refine HK1.out _ _ ?_
  rw [thnE2]
  refine wp_seq_k (fun K2 hK2 => ?_)
  have HK2 := Lib.hid hK2
  clear hK2
  conv => arg 2; whnf
  by_cases he : e = 0
  · have j1 : (e != 0) = false := by simpa using he
    go_wp2
    refine HK2.out _ _ ?_
    rw [thnE3]
    refine wp_seq_k (fun K3 hK3 => ?_)
    have HK3 := Lib.hid hK3
    clear hK3
    conv => arg 2; whnf
    go_wp2
    refine HK3.out _ _ ?_
    obtain ⟨A0, c0, rfl, hrs⟩ := HV.out he
    have hT := H_hT.out
    rw [he] at hT
    obtain ⟨o1, o2⟩ := pts_ok H_hM.out H_hN.out (show (ptsS m n).2 = 0 by rw [hT])
    rw [hT] at o1 o2
    exact thn_4 w w1 m n P (H_hm.out.below HB1.out) (H_hn.out.below HB1.out) H_hM.out H_hN.out hrs rfl o2 o1 hT HB1.out
  · have j1 : (e != 0) = true := by simpa using he
    go_wp2
    go_ret2
    rw [show thenS m n = (none, e) from by unfold thenS; rw [H_hT.out]; exact if_pos he]
    exact ⟨_, rfl, rfl, HB1.out⟩
end Go.Proofs.Ythlpaglldhgmfaa.PA
