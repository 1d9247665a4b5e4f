/- Chapter 6: RetimeInverts, walked: the times. -/
import Derived.Test.YthlpaglldhgmfaaMC
import Derived.Deep.RegionHeld3
import Derived.Deep.QuietTactic
import Derived.BigQuiet
namespace Go.Proofs.Ythlpaglldhgmfaa.PA
open Go Go.RowKit Go.Proofs.YthlpaglldhgmfaaW.PrintWords Go.Proofs.YthlpaglldhgmfaaW.PrintLast Go.Proofs.YthlpaglldhgmfaaW.PrintMore
attribute [local go_sem high] eqA31 eqA35
set_option linter.unusedSimpArgs false
set_option linter.unusedVariables false
noncomputable def invT1 : Code := sndC (Try.f9.body.getD .skip)
noncomputable def invT2 : Code := sndC invT1
noncomputable def invT3 : Code := sndC invT2
noncomputable def invT4 : Code := sndC invT3
noncomputable def invT5 : Code := sndC invT4
noncomputable def invT6 : Code := sndC invT5
noncomputable def invT7 : Code := sndC invT6
noncomputable def invT8 : Code := sndC invT7
noncomputable def invT9 : Code := sndC invT8
noncomputable def invT10 : Code := sndC invT9
noncomputable def invT11 : Code := sndC invT10
noncomputable def invT12 : Code := sndC invT11
theorem invE1 : invT1 = .seq (fstC invT1) invT2 := by kernel_rfl
theorem invE2 : invT2 = .seq (fstC invT2) invT3 := by kernel_rfl
theorem invE3 : invT3 = .seq (fstC invT3) invT4 := by kernel_rfl
theorem invE4 : invT4 = .seq (fstC invT4) invT5 := by kernel_rfl
theorem invE5 : invT5 = .seq (fstC invT5) invT6 := by kernel_rfl
theorem invE6 : invT6 = .seq (fstC invT6) invT7 := by kernel_rfl
theorem invE7 : invT7 = .seq (fstC invT7) invT8 := by kernel_rfl
theorem invE8 : invT8 = .seq (fstC invT8) invT9 := by kernel_rfl
theorem invE9 : invT9 = .seq (fstC invT9) invT10 := by kernel_rfl
theorem invE10 : invT10 = .seq (fstC invT10) invT11 := by kernel_rfl
theorem invE11 : invT11 = .seq (fstC invT11) invT12 := by kernel_rfl
theorem invE0 : Try.f9.body.getD .skip = .seq (fstC (Try.f9.body.getD .skip)) invT1 := by kernel_rfl
set_option maxHeartbeats 4000000 in
set_option maxRecDepth 100000 in
theorem inv_c (w W : World) (m v : MapV) (ts : List Rt) {z0 z2 z3 z4 z6 z8 z9 z10 z11 z12 z13 z14 z15 z16 z17 z18 z19 z20 z21 z22 z23 z24 z25 z26 z27 z28 z29 z30 z31 z32 z33 z34 z35 z36 z37 z38 z39 z40 z41 z42 z43 z44 z45 z46 z47 z48 z49 z50 z51 z52 z53 z54 z55 z56 z57 z58 z59 z60 z61 z62 z63 z64 z65 z66 z67 z68 z69 z70 z71 z72 z73 z74 z75 z76 z77 z78 z79 z80 z81 z82 z83 z84 z85 z86 z87 z88 z89 z90 z91 z92 z93 z94 z95 z96 z97 z98 z99 z100 z101 z102 z103 z104 z105 z106 z107 z108 z109 z110 z111 z112 z113 z114 z115 z116 z117 z118 z119 z120 z121 z122 z123 z124 z125 z126 z127 z128 z129 z130 : Value} {A : Option Addr} {cap p q : Nat} {ak as_ bk bs : Addr} {ck cs dk ds : Nat} (hm : MapA W p ak as_ ck cs m) (hv : MapA W q bk bs dk ds v) (hM : Mk m) (hI : invS m = (some v, 0)) (hT : RtS W A ts) (hR : ∀ t ∈ ts, R64 t) (hN : ts.length ≤ 2000) (hB : Below w.heap.size w W) :
    invT11.wp Try.prog (bodyPost Try.prog Try.f9 (fun e w' => e = .returned (.bool true) ∧ Below w.heap.size w w')) ⟨#[z0, .slice A ts.length cap, z2, z3, z4, .pointer (some ⟨p, 0, none⟩), z6, .pointer (some ⟨q, 0, none⟩), z8, z9, z10, z11, z12, z13, z14, z15, z16, z17, z18, z19, z20, z21, z22, z23, z24, z25, z26, z27, z28, z29, z30, z31, z32, z33, z34, z35, z36, z37, z38, z39, z40, z41, z42, z43, z44, z45, z46, z47, z48, z49, z50, z51, z52, z53, z54, z55, z56, z57, z58, z59, z60, z61, z62, z63, z64, z65, z66, z67, z68, z69, z70, z71, z72, z73, z74, z75, z76, z77, z78, z79, z80, z81, z82, z83, z84, z85, z86, z87, z88, z89, z90, z91, z92, z93, z94, z95, z96, z97, z98, z99, z100, z101, z102, z103, z104, z105, z106, z107, z108, z109, z110, z111, z112, z113, z114, z115, z116, z117, z118, z119, z120, z121, z122, z123, z124, z125, z126, z127, z128, z129, z130], []⟩ W := by
  have hok := hM.q.ok
  have hvk := (hM.inv hI).1.q.ok
  rcases hT with rfl | ⟨ad, rfl, hL⟩
  · have HB := Lib.hid hB
    clear hm hv hR hN hB hM hI hok hvk
    rw [invE11]
    refine wp_seq_k (fun K11 hK11 => ?_)
    have HK11 := Lib.hid hK11
    clear hK11
    conv => arg 2; whnf
    go_wp2_with fail
    go_loopw [13] (fun i wr => i = .int .i64 0 ∧ W = wr) (fun _ _ => 0)
    case atStart => exact ⟨rfl, rfl⟩
    case round =>
      obtain ⟨rfl, rfl⟩ := hrel
      go_wp2
      refine HK11.out _ _ ?_
      conv => arg 2; whnf
      go_wp2
      go_ret
      exact ⟨rfl, HB.out⟩
  · obtain ⟨n, hn⟩ : ∃ n, ts.length = n := ⟨_, rfl⟩
    rw [hn] at hN ⊢
    have H_hm := Lib.hid hm
    have H_hv := Lib.hid hv
    have H_hM := Lib.hid hM
    have H_hI := Lib.hid hI
    have H_hL := Lib.hid hL
    have H_hR := Lib.hid hR
    have H_hB := Lib.hid hB
    have H_hn := Lib.hid hn
    have H_hok := Lib.hid hok
    have H_hvk := Lib.hid hvk
    clear hm hv hM hI hL hR hB hn hok hvk
    rw [invE11]
    refine wp_seq_k (fun K11 hK11 => ?_)
    have HK11 := Lib.hid hK11
    clear hK11
    conv => arg 2; whnf
    go_wp2_with fail
    go_loopw [13] (fun i wr => ∃ j : Nat, j ≤ n ∧ i = .int .i64 (j : Int) ∧ Below W.heap.size W wr) (fun i _ => n - (intOf i).toNat)
    case atStart => exact ⟨0, Nat.zero_le _, rfl, Below.refl _ _⟩
    case round =>
      obtain ⟨j, hj, rfl, hBr⟩ := hrel
      by_cases hjn : j < n
      · have p1 : ((j : Int) < (n : Int)) = True := eq_true (by omega)
        have p6 : (j < n) = True := eq_true (by omega)
        have p5 : (0 : Int) ≤ (j : Int) := by omega
        have w2 : IntKind.i64.wrap (j : Int) = (j : Int) := by rw [IntKind.wrap_i64]; omega
        have hjl : j < ts.length := by have := H_hn.out; omega
        have ht := H_hR.out _ (List.getElem_mem hjl)
        obtain ⟨⟨t1, t2⟩, htj⟩ : ∃ t, ts[j] = t := ⟨_, rfl⟩
        rw [htj] at ht
        have CT := Lib.hid (fun (w_ : World) (h : Below W.heap.size W w_) => (by obtain ⟨c0, c1⟩ := (H_hL.out.below h) j hjl; rw [htj] at c0 c1; exact ⟨c0, c1⟩ : w_.cell? (ad.add (j * 2)) = some (.int .i64 t1) ∧ w_.cell? ⟨(ad.add (j * 2)).block, (ad.add (j * 2)).off + 1, none⟩ = some (.int .i64 t2)))
        clear htj
        obtain ⟨⟨⟨x1, x2⟩, e1⟩, hX⟩ : ∃ X, m.app (t1, t2) = X := ⟨_, rfl⟩
        obtain ⟨⟨⟨y1, y2⟩, e2⟩, hY⟩ : ∃ X, v.app (x1, x2) = X := ⟨_, rfl⟩
        obtain ⟨⟨⟨r1, r2⟩, e3⟩, hZ⟩ : ∃ X, v.undo (t1, t2) = X := ⟨_, rfl⟩
        have hx := app_R m H_hok.out (t1, t2) ht
        rw [hX] at hx
        have M1 := Lib.hid (fun (u : World) (h : MapA u p ak as_ ck cs m) => (by have := app_any p ak as_ ck cs m (t1, t2) u h H_hok.out ht; rw [hX] at this; exact this : Calls Try.prog 15 #[.pointer (some ⟨p, 0, none⟩), .agg #[.int .i64 t1, .int .i64 t2]] u fun e w' => e = .returned (.tuple #[.agg #[.int .i64 x1, .int .i64 x2], .int .i64 e1]) ∧ Below u.heap.size u w'))
        have M2 := Lib.hid (fun (u : World) (h : MapA u q bk bs dk ds v) => (by have := app_any q bk bs dk ds v (x1, x2) u h H_hvk.out hx; rw [hY] at this; exact this : Calls Try.prog 15 #[.pointer (some ⟨q, 0, none⟩), .agg #[.int .i64 x1, .int .i64 x2]] u fun e w' => e = .returned (.tuple #[.agg #[.int .i64 y1, .int .i64 y2], .int .i64 e2]) ∧ Below u.heap.size u w'))
        have M3 := Lib.hid (fun (u : World) (h : MapA u q bk bs dk ds v) => (by have := undo_any q bk bs dk ds v (t1, t2) u h H_hvk.out ht; rw [hZ] at this; exact this : Calls Try.prog 31 #[.pointer (some ⟨q, 0, none⟩), .agg #[.int .i64 t1, .int .i64 t2]] u fun e w' => e = .returned (.tuple #[.agg #[.int .i64 r1, .int .i64 r2], .int .i64 e3]) ∧ Below u.heap.size u w'))
        have HX := Lib.hid hX
        have HY := Lib.hid hY
        have HZ := Lib.hid hZ
        clear hX hY hZ hx ht
        obtain ⟨c0, c1⟩ := CT.out _ hBr
        go_wp2_with fail
        with_reducible refine (M1.out _ (H_hm.out.below hBr)).mono ?_
        rintro e_ w1 ⟨rfl, hb1⟩
        have hB1 := Hand.stepB hb1 hBr (Nat.le_refl _)
        clear hb1 hBr c0 c1
        obtain ⟨V, hV⟩ : ∃ V_, V_ = w1.alloc (.cells #[.int .i64 x1, .int .i64 x2] 31) := ⟨_, rfl⟩
        have gx : V.heap[w1.heap.size]? = some (.cells #[.int .i64 x1, .int .i64 x2] 31 (0, 0)) := by rw [hV]; exact Hand.q3 _ _ _ rfl
        have hBV : Below W.heap.size W V := by rw [hV]; exact hB1.alloc hB1.size _
        have GX := Lib.hid gx
        have HBV := Lib.hid hBV
        clear gx hB1 hBV
        by_cases h1 : e1 = 0
        · have j1 : (e1 == 0) = true := by simpa using h1
          have F1 := Lib.hid (fun (u : World) => (by have := fine6_any e1 u; rw [j1] at this; exact this : Calls Try.prog 14 #[.int .i64 e1] u fun r w' => r = .returned (.bool true) ∧ w' = u))
          subst h1
          clear j1
          go_wp2_with fail
          rw [← hV]
          clear hV
          with_reducible refine (F1.out _).mono ?_
          rintro e_ w3 ⟨rfl, rfl⟩
          obtain ⟨c0, fc0, c1, fc1⟩ := Hand.hc2 GX.out
          go_wp2_with fail
          with_reducible refine (M2.out _ (H_hv.out.below HBV.out)).mono ?_
          rintro e_ w4 ⟨rfl, hb4⟩
          have hB4 := Hand.stepB hb4 HBV.out (Nat.le_refl _)
          have gx4 := Hand.kb hb4 GX.out
          clear hb4 c0 fc0 c1 fc1
          obtain ⟨U, hV⟩ : ∃ V_, V_ = w4.alloc (.cells #[.int .i64 y1, .int .i64 y2] 31) := ⟨_, rfl⟩
          have gy : U.heap[w4.heap.size]? = some (.cells #[.int .i64 y1, .int .i64 y2] 31 (0, 0)) := by rw [hV]; exact Hand.q3 _ _ _ rfl
          have hBU : Below w4.heap.size w4 U := by rw [hV]; exact (Below.refl _ _).alloc (Nat.le_refl _) _
          have gxU := Hand.kb hBU gx4
          have hBU2 := Hand.stepB hBU hB4 (Nat.le_refl _)
          have GXU := Lib.hid gxU
          have GYU := Lib.hid gy
          have HBU := Lib.hid hBU2
          clear gx4 hBU hBU2 hB4 gxU gy
          have KEY : ∀ u : World, Below U.heap.size U u → True := fun _ _ => trivial
          clear KEY
          by_cases h2 : e2 = 0
          · have j2 : (e2 == 0) = true := by simpa using h2
            have F2 := Lib.hid (fun (u : World) => (by have := fine6_any e2 u; rw [j2] at this; exact this : Calls Try.prog 14 #[.int .i64 e2] u fun r w' => r = .returned (.bool true) ∧ w' = u))
            have hy := inv_app H_hM.out H_hI.out HX.out (HY.out.trans (by rw [h2]))
            cases hy
            clear h2 j2
            obtain ⟨d0, fd0, d1, fd1⟩ := Hand.hc2 GYU.out
            obtain ⟨c0, c1⟩ := CT.out _ HBU.out
            go_wp2_with fail
            rw [← hV]
            clear hV
            go_quiet ((first | (go_at_call 14; exact Calls.quiet_of_same (F2.out _))))
            go_wp2_with fail
            clear d0 fd0 d1 fd1 c0 c1
            have hBD : Below W.heap.size W (U.drewN nq) := by apply pw_below_drewN; exact HBU.out
            with_reducible refine (M3.out _ (H_hv.out.below hBD)).mono ?_
            rintro e_ w6 ⟨rfl, hb6⟩
            have hB6 := Hand.stepB hb6 hBD (Nat.le_refl _)
            have gx6 := Hand.kb (i := w1.heap.size) (x := .cells #[.int .i64 x1, .int .i64 x2] 31 (0, 0)) hb6 GXU.out
            clear hb6 hBD
            by_cases h3 : e3 = 0
            · have j3 : (e3 == 0) = true := by simpa using h3
              have F3 := Lib.hid (fun (u : World) => (by have := fine6_any e3 u; rw [j3] at this; exact this : Calls Try.prog 14 #[.int .i64 e3] u fun r w' => r = .returned (.bool true) ∧ w' = u))
              have hz := inv_undo H_hM.out H_hI.out HX.out (HZ.out.trans (by rw [h3]))
              cases hz
              clear h3 j3
              obtain ⟨T, hV⟩ : ∃ V_, V_ = w6.alloc (.cells #[.int .i64 x1, .int .i64 x2] 31) := ⟨_, rfl⟩
              have gr : T.heap[w6.heap.size]? = some (.cells #[.int .i64 x1, .int .i64 x2] 31 (0, 0)) := by rw [hV]; exact Hand.q3 _ _ _ rfl
              have hBT : Below w6.heap.size w6 T := by rw [hV]; exact (Below.refl _ _).alloc (Nat.le_refl _) _
              have gxT := Hand.kb hBT gx6
              have HBT := Lib.hid (Hand.stepB hBT hB6 (Nat.le_refl _))
              obtain ⟨q0, fq0, q1, fq1⟩ := Hand.hc2 gr
              obtain ⟨s0, fs0, s1, fs1⟩ := Hand.hc2 gxT
              clear hBT hB6 gx6 gxT gr
              go_wp2_with fail
              rw [← hV]
              clear hV
              with_reducible refine (F3.out _).mono ?_
              rintro e_ w7 ⟨rfl, rfl⟩
              go_wp2
              go_roundw
              case rel => exact ⟨j + 1, by omega, by rw [Int.natCast_add]; rfl, HBT.out⟩
              case measure => simp [intOf]; omega
            · have j3 : (e3 == 0) = false := by simpa using h3
              have F3 := Lib.hid (fun (u : World) => (by have := fine6_any e3 u; rw [j3] at this; exact this : Calls Try.prog 14 #[.int .i64 e3] u fun r w' => r = .returned (.bool false) ∧ w' = u))
              clear h3 j3
              obtain ⟨T, hV⟩ : ∃ V_, V_ = w6.alloc (.cells #[.int .i64 r1, .int .i64 r2] 31) := ⟨_, rfl⟩
              have gr : T.heap[w6.heap.size]? = some (.cells #[.int .i64 r1, .int .i64 r2] 31 (0, 0)) := by rw [hV]; exact Hand.q3 _ _ _ rfl
              have hBT : Below w6.heap.size w6 T := by rw [hV]; exact (Below.refl _ _).alloc (Nat.le_refl _) _
              have gxT := Hand.kb hBT gx6
              have HBT := Lib.hid (Hand.stepB hBT hB6 (Nat.le_refl _))
              obtain ⟨q0, fq0, q1, fq1⟩ := Hand.hc2 gr
              obtain ⟨s0, fs0, s1, fs1⟩ := Hand.hc2 gxT
              clear hBT hB6 gx6 gxT gr
              go_wp2_with fail
              rw [← hV]
              clear hV
              with_reducible refine (F3.out _).mono ?_
              rintro e_ w7 ⟨rfl, rfl⟩
              go_wp2
              go_roundw
              case rel => exact ⟨j + 1, by omega, by rw [Int.natCast_add]; rfl, HBT.out⟩
              case measure => simp [intOf]; omega
          · have j2 : (e2 == 0) = false := by simpa using h2
            have F2 := Lib.hid (fun (u : World) => (by have := fine6_any e2 u; rw [j2] at this; exact this : Calls Try.prog 14 #[.int .i64 e2] u fun r w' => r = .returned (.bool false) ∧ w' = u))
            clear h2 j2
            obtain ⟨d0, fd0, d1, fd1⟩ := Hand.hc2 GYU.out
            obtain ⟨c0, c1⟩ := CT.out _ HBU.out
            go_wp2_with fail
            rw [← hV]
            clear hV
            go_quiet ((first | (go_at_call 14; exact Calls.quiet_of_same (F2.out _))))
            go_wp2_with fail
            clear d0 fd0 d1 fd1 c0 c1
            have hBD : Below W.heap.size W (U.drewN nq) := by apply pw_below_drewN; exact HBU.out
            with_reducible refine (M3.out _ (H_hv.out.below hBD)).mono ?_
            rintro e_ w6 ⟨rfl, hb6⟩
            have hB6 := Hand.stepB hb6 hBD (Nat.le_refl _)
            have gx6 := Hand.kb (i := w1.heap.size) (x := .cells #[.int .i64 x1, .int .i64 x2] 31 (0, 0)) hb6 GXU.out
            clear hb6 hBD
            by_cases h3 : e3 = 0
            · have j3 : (e3 == 0) = true := by simpa using h3
              have F3 := Lib.hid (fun (u : World) => (by have := fine6_any e3 u; rw [j3] at this; exact this : Calls Try.prog 14 #[.int .i64 e3] u fun r w' => r = .returned (.bool true) ∧ w' = u))
              have hz := inv_undo H_hM.out H_hI.out HX.out (HZ.out.trans (by rw [h3]))
              cases hz
              clear h3 j3
              obtain ⟨T, hV⟩ : ∃ V_, V_ = w6.alloc (.cells #[.int .i64 x1, .int .i64 x2] 31) := ⟨_, rfl⟩
              have gr : T.heap[w6.heap.size]? = some (.cells #[.int .i64 x1, .int .i64 x2] 31 (0, 0)) := by rw [hV]; exact Hand.q3 _ _ _ rfl
              have hBT : Below w6.heap.size w6 T := by rw [hV]; exact (Below.refl _ _).alloc (Nat.le_refl _) _
              have gxT := Hand.kb hBT gx6
              have HBT := Lib.hid (Hand.stepB hBT hB6 (Nat.le_refl _))
              obtain ⟨q0, fq0, q1, fq1⟩ := Hand.hc2 gr
              obtain ⟨s0, fs0, s1, fs1⟩ := Hand.hc2 gxT
              clear hBT hB6 gx6 gxT gr
              go_wp2_with fail
              rw [← hV]
              clear hV
              with_reducible refine (F3.out _).mono ?_
              rintro e_ w7 ⟨rfl, rfl⟩
              go_wp2
              go_roundw
              case rel => exact ⟨j + 1, by omega, by rw [Int.natCast_add]; rfl, HBT.out⟩
              case measure => simp [intOf]; omega
            · have j3 : (e3 == 0) = false := by simpa using h3
              have F3 := Lib.hid (fun (u : World) => (by have := fine6_any e3 u; rw [j3] at this; exact this : Calls Try.prog 14 #[.int .i64 e3] u fun r w' => r = .returned (.bool false) ∧ w' = u))
              clear h3 j3
              obtain ⟨T, hV⟩ : ∃ V_, V_ = w6.alloc (.cells #[.int .i64 r1, .int .i64 r2] 31) := ⟨_, rfl⟩
              have gr : T.heap[w6.heap.size]? = some (.cells #[.int .i64 r1, .int .i64 r2] 31 (0, 0)) := by rw [hV]; exact Hand.q3 _ _ _ rfl
              have hBT : Below w6.heap.size w6 T := by rw [hV]; exact (Below.refl _ _).alloc (Nat.le_refl _) _
              have gxT := Hand.kb hBT gx6
              have HBT := Lib.hid (Hand.stepB hBT hB6 (Nat.le_refl _))
              obtain ⟨q0, fq0, q1, fq1⟩ := Hand.hc2 gr
              obtain ⟨s0, fs0, s1, fs1⟩ := Hand.hc2 gxT
              clear hBT hB6 gx6 gxT gr
              go_wp2_with fail
              rw [← hV]
              clear hV
              with_reducible refine (F3.out _).mono ?_
              rintro e_ w7 ⟨rfl, rfl⟩
              go_wp2
              go_roundw
              case rel => exact ⟨j + 1, by omega, by rw [Int.natCast_add]; rfl, HBT.out⟩
              case measure => simp [intOf]; omega
        · have j1 : (e1 == 0) = false := by simpa using h1
          have F1 := Lib.hid (fun (u : World) => (by have := fine6_any e1 u; rw [j1] at this; exact this : Calls Try.prog 14 #[.int .i64 e1] u fun r w' => r = .returned (.bool false) ∧ w' = u))
          clear h1 j1
          go_wp2_with fail
          rw [← hV]
          clear hV
          with_reducible refine (F1.out _).mono ?_
          rintro e_ w3 ⟨rfl, rfl⟩
          go_wp2
          go_roundw
          case rel => exact ⟨j + 1, by omega, by rw [Int.natCast_add]; rfl, HBV.out⟩
          case measure => simp [intOf]; omega
      · have p1 : ((j : Int) < (n : Int)) = False := eq_false (by omega)
        go_wp2
        refine HK11.out _ _ ?_
        conv => arg 2; whnf
        go_wp2
        go_ret
        exact ⟨rfl, H_hB.out.trans (Below.mono hBr H_hB.out.size)⟩
end Go.Proofs.Ythlpaglldhgmfaa.PA
