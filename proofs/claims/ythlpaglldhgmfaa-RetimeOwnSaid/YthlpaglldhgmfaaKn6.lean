/- Chapter 6: the law's known answers, whatever the world. -/
import Derived.Test.YthlpaglldhgmfaaNwK
import Derived.Test.YthlpaglldhgmfaaKt6
import Derived.Deep.RegionHeld3
namespace Go.Proofs.Ythlpaglldhgmfaa.PA
open Go Go.RowKit Go.Proofs.YthlpaglldhgmfaaW.PrintWords Go.Proofs.YthlpaglldhgmfaaW.PrintLast Go.Proofs.YthlpaglldhgmfaaW.PrintMore
attribute [local go_sem high] eqA31
set_option linter.unusedSimpArgs false
set_option linter.unusedVariables false
def kL : List Kn := [((0, 1), (0, 1)), ((10, 1), (10, 1)), ((20, 1), (40, 1))]
def mK : MapV := ⟨[((9, 1), (9, 1)), ((10, 1), (10, 1)), ((11, 1), (13, 1))], [(1, 1), (3, 1)], 1⟩
theorem newK_kL : newK kL = (some mK, 0) := by kernel_rfl
theorem app_mK : mK.app (12, 1) = ((16, 1), 0) := by kernel_rfl
theorem undo_mK : mK.undo (16, 1) = ((12, 1), 0) := by kernel_rfl
theorem kL_R : KnR kL := by
  intro k hk
  simp only [kL, List.mem_cons, List.not_mem_nil, or_false] at hk
  rcases hk with rfl | rfl | rfl <;> exact ⟨⟨by decide, by decide, by decide, by decide⟩, ⟨by decide, by decide, by decide, by decide⟩⟩
theorem mK_ok : MapOk mK where
  kr := by
    intro k hk
    simp only [mK, List.mem_cons, List.not_mem_nil, or_false] at hk
    rcases hk with rfl | rfl | rfl <;> exact ⟨⟨by decide, by decide, by decide, by decide⟩, ⟨by decide, by decide, by decide, by decide⟩⟩
  kq := by
    intro k hk
    simp only [mK, List.mem_cons, List.not_mem_nil, or_false] at hk
    rcases hk with rfl | rfl | rfl <;> exact ⟨by kernel_rfl, by kernel_rfl⟩
  k0 := by decide
  k1 := by decide
  s0 := by decide
  s1 := by decide
  sr := by
    intro k hk
    simp only [mK, List.mem_cons, List.not_mem_nil, or_false] at hk
    rcases hk with rfl | rfl <;> exact ⟨by decide, by decide, by decide, by decide⟩
set_option maxHeartbeats 800000 in
set_option maxRecDepth 100000 in
theorem lwhole_any (n : Int) (w : World) : Calls Try.prog 23 #[.int .i64 n] w fun e w' => e = .returned (rv (n, 1)) ∧ Below w.heap.size w w' := by
  go_enter Try.func23, Try.ntmps23
  go_wp2
  refine bodyPost_ret (results_cell_row rfl _ _ (w.heap.size) 31 #[.int .i64 n, .int .i64 1] (0, 0) _ rfl (Hand.q3 _ _ _ (by simp)) Try.underlying31 rfl (by kernel_rfl)) rfl ⟨rfl, ?_⟩
  exact (Below.refl _ _).alloc (Nat.le_refl _) _
set_option maxHeartbeats 4000000 in
set_option maxRecDepth 100000 in
theorem known6_any (w : World) : Calls Try.prog 12 #[] w fun e w' => e = .returned (.bool true) ∧ Below w.heap.size w w' := by
  have MW := Lib.hid (fun n u => lwhole_any n u)
  have N1 := Lib.hid (fun (u : World) (ad : Addr) (h : KnA u ad kL) => (by have := newm_any u kL (some ad) 3 (.inr ⟨_, rfl, h⟩) kL_R; rw [newK_kL] at this; exact this : Calls Try.prog 13 #[.slice (some ad) 3 3] u (NewQ u (some mK, 0))))
  have N2 := Lib.hid (show ∀ u : World, Calls Try.prog 13 #[.slice none 0 0] u (NewQ u (none, 1)) from fun (u : World) => newm_any u [] none 0 (.inl rfl) (by intro k h; cases h))
  go_enter Try.func12, Try.ntmps12
  go_wp2_with fail
  with_reducible refine (MW.out 0 _).mono ?_
  rintro e w1 ⟨rfl, hb1⟩
  go_wp2_with fail
  with_reducible refine (MW.out 0 _).mono ?_
  rintro e w2 ⟨rfl, hb2⟩
  go_wp2_with fail
  with_reducible refine (MW.out 10 _).mono ?_
  rintro e w3 ⟨rfl, hb3⟩
  go_wp2_with fail
  with_reducible refine (MW.out 10 _).mono ?_
  rintro e w4 ⟨rfl, hb4⟩
  go_wp2_with fail
  with_reducible refine (MW.out 20 _).mono ?_
  rintro e w5 ⟨rfl, hb5⟩
  go_wp2_with fail
  with_reducible refine (MW.out 40 _).mono ?_
  rintro e w6 ⟨rfl, hb6⟩
  have hB6 : Below w.heap.size w w6 := ((((hb1.trans (Below.mono hb2 hb1.size)).trans (Below.mono hb3 (Nat.le_trans hb1.size hb2.size))).trans (Below.mono hb4 (by have := hb1.size; have := hb2.size; have := hb3.size; omega))).trans (Below.mono hb5 (by have := hb1.size; have := hb2.size; have := hb3.size; have := hb4.size; omega))).trans (Below.mono hb6 (by have := hb1.size; have := hb2.size; have := hb3.size; have := hb4.size; have := hb5.size; omega))
  clear hb1 hb2 hb3 hb4 hb5 hb6
  go_wp2_with fail
  have KN : KnA (w6.alloc (.cells #[.int .i64 0, .int .i64 1, .int .i64 0, .int .i64 1, .int .i64 10, .int .i64 1, .int .i64 10, .int .i64 1, .int .i64 20, .int .i64 1, .int .i64 40, .int .i64 1] 35)) ⟨w6.heap.size, 0, none⟩ kL := own_kna (base := 0) (e := 35) (n := 3) (cap := 3) ⟨rfl, .inr ⟨_, _, _, rfl, Nat.zero_le _, Hand.q3 _ _ _ rfl, by decide, by decide, rfl, rfl⟩⟩
  with_reducible refine (N1.out _ _ KN).mono ?_
  rintro e w7 ⟨v, rfl, ⟨p, ak, as_, ck, cs, rfl, hM, hp1, hp2, hp3⟩, hb7⟩
  have hB7 : Below w.heap.size w w7 := Hand.stepB hb7 (hB6.alloc hB6.size _) (Nat.le_refl _)
  clear hb7 hB6 hp1 hp2 hp3
  go_wp2_with fail
  with_reducible refine (N2.out _).mono ?_
  rintro e w8 ⟨v, rfl, hv, hb8⟩
  have hv : v = .pointer none := hv
  subst hv
  have hM8 := hM.below hb8
  have hB8 : Below w.heap.size w w8 := Hand.stepB hb8 hB7 (Nat.le_refl _)
  clear hb8 hB7 hM
  go_wp2_with fail
  with_reducible refine (MW.out 12 _).mono ?_
  rintro e w9 ⟨rfl, hb9⟩
  have hM9 := hM8.below hb9
  have hB9 : Below w.heap.size w w9 := Hand.stepB hb9 hB8 (Nat.le_refl _)
  have MA := Lib.hid (by have := app_any p ak as_ ck cs mK (12, 1) w9 hM9 mK_ok ⟨by decide, by decide, by decide, by decide⟩; rw [app_mK] at this; exact this : Calls Try.prog 15 #[.pointer (some ⟨p, 0, none⟩), .agg #[.int .i64 12, .int .i64 1]] w9 fun e w' => e = .returned (.tuple #[.agg #[.int .i64 16, .int .i64 1], .int .i64 0]) ∧ Below w9.heap.size w9 w')
  clear hb9 hB8 hM8
  go_wp2_with fail
  with_reducible refine (MA.out).mono ?_
  rintro e w10 ⟨rfl, hb10⟩
  have hM10 := hM9.below hb10
  have hB10 : Below w.heap.size w w10 := Hand.stepB hb10 hB9 (Nat.le_refl _)
  clear hb10 hB9 hM9
  go_wp2_with fail
  with_reducible refine (MW.out 16 _).mono ?_
  rintro e w11 ⟨rfl, hb11⟩
  have hsz10 : w10.heap.size < w11.heap.size := by have := hb11.size; simp only [World.size_alloc] at this; omega
  have gA : w11.heap[w10.heap.size]? = some (.cells #[.int .i64 16, .int .i64 1] 31 (0, 0)) := Hand.kb hb11 (Hand.q3 _ _ _ rfl)
  have hM11 := (hM10.below ((Below.refl _ _).alloc (Nat.le_refl _) _)).below hb11
  have hB11 : Below w.heap.size w w11 := Hand.stepB hb11 (hB10.alloc hB10.size _) (Nat.le_refl _)
  have MU := Lib.hid (by have := undo_any p ak as_ ck cs mK (16, 1) w11 hM11 mK_ok ⟨by decide, by decide, by decide, by decide⟩; rw [undo_mK] at this; exact this : Calls Try.prog 31 #[.pointer (some ⟨p, 0, none⟩), .agg #[.int .i64 16, .int .i64 1]] w11 fun e w' => e = .returned (.tuple #[.agg #[.int .i64 12, .int .i64 1], .int .i64 0]) ∧ Below w11.heap.size w11 w')
  clear hb11 hB10 hM10
  go_wp2_with fail
  with_reducible refine (MU.out).mono ?_
  rintro e w12 ⟨rfl, hb12⟩
  have hM12 := hM11.below hb12
  have gA12 := Hand.kb hb12 gA
  have hB12 : Below w.heap.size w w12 := Hand.stepB hb12 hB11 (Nat.le_refl _)
  have hsz12 : w10.heap.size < w12.heap.size := by have := hb12.size; omega
  clear hb12 hB11 hM11 gA
  obtain ⟨V, hV⟩ : ∃ V_, V_ = w12.alloc (.cells #[.int .i64 12, .int .i64 1] 31) := ⟨_, rfl⟩
  have gB : V.heap[w12.heap.size]? = some (.cells #[.int .i64 12, .int .i64 1] 31 (0, 0)) := by rw [hV]; exact Hand.q3 _ _ _ rfl
  have hBV : Below w12.heap.size w12 V := by rw [hV]; exact (Below.refl _ _).alloc (Nat.le_refl _) _
  have gAV := Hand.kb hBV gA12
  have hMV := hM12.below hBV
  have hBB : Below w.heap.size w V := Hand.stepB hBV hB12 (Nat.le_refl _)
  obtain ⟨a0, fa0, a1, fa1⟩ := Hand.hc2 gAV
  obtain ⟨b0, fb0, b1, fb1⟩ := Hand.hc2 gB
  have MK := Lib.hid (show ∀ u : World, Below V.heap.size V u → Calls Try.prog 16 #[.pointer (some ⟨p, 0, none⟩)] u fun e w' => ∃ g c, e = .returned (.slice (some ⟨g, 0, none⟩) 3 c) ∧ w'.ownsRow u.heap.size 35 4 (.slice (some ⟨g, 0, none⟩) 3 c) 3 (flatK mK.knots) ∧ Below u.heap.size u w' from fun u hu => knots_any p ak as_ ck cs mK u (hMV.below hu) (by decide) (by decide))
  have HBB := Lib.hid hBB
  have z1 : w10.heap.size < V.heap.size := (Hand.hz gAV).1
  have z2 : w12.heap.size < V.heap.size := (Hand.hz gB).1
  have HC := Lib.hid (fun (w_ : World) (h : Below V.heap.size V w_) => (by exact ⟨h, (h.cell z1).trans a0, (h.cell z1).trans a1, (h.cell z2).trans b0, (h.cell z2).trans b1⟩ : Below V.heap.size V w_ ∧ w_.cell? ⟨w10.heap.size, 0, none⟩ = some (.int .i64 16) ∧ w_.cell? ⟨w10.heap.size, 1, none⟩ = some (.int .i64 1) ∧ w_.cell? ⟨w12.heap.size, 0, none⟩ = some (.int .i64 12) ∧ w_.cell? ⟨w12.heap.size, 1, none⟩ = some (.int .i64 1)))
  clear hBB gAV gB hBV hM12 hB12 gA12 hMV
  have BR : Below V.heap.size V V := Below.refl _ _
  go_wp2_with fail
  rw [← hV]
  clear hV
  go_region_held3 (fun w_ => Below V.heap.size V w_ ∧ w_.cell? ⟨w10.heap.size, 0, none⟩ = some (.int .i64 16) ∧ w_.cell? ⟨w10.heap.size, 1, none⟩ = some (.int .i64 1) ∧ w_.cell? ⟨w12.heap.size, 0, none⟩ = some (.int .i64 12) ∧ w_.cell? ⟨w12.heap.size, 1, none⟩ = some (.int .i64 1)) (first | (refine HC.out _ ?_; repeat (with_reducible first | assumption | apply Below.drew))) (first | (go_at_call 23; ((with_reducible refine (MW.out _ _).mono ?_); rintro e w13 ⟨rfl, hb13⟩; have BB : Below V.heap.size V w13 := Hand.stepB hb13 (by repeat (with_reducible first | assumption | apply Below.drew)) (Nat.le_refl _))) | (go_at_call 16; ((with_reducible refine (MK.out _ (by repeat (with_reducible first | assumption | apply Below.drew))).mono ?_); rintro e w15 ⟨gg, cc, rfl, ho15, hb15⟩; have BB : Below V.heap.size V w15 := Hand.stepB hb15 (by repeat (with_reducible first | assumption | apply Below.drew)) (Nat.le_refl _))))
  all_goals (go_wp2; go_ret; exact ⟨rfl, HBB.out.trans (Below.mono BB HBB.out.size)⟩)
end Go.Proofs.Ythlpaglldhgmfaa.PA
