/- Chapter 6: RetimeRises, walked: the times. -/
import Derived.Test.YthlpaglldhgmfaaLh6
import Derived.Deep.RegionHeld3
import Derived.Deep.QuietTactic
import Derived.BigQuiet
namespace Go.Proofs.Ythlpaglldhgmfaa.PA
open Go Go.RowKit Go.Proofs.YthlpaglldhgmfaaW.PrintWords Go.Proofs.YthlpaglldhgmfaaW.PrintLast Go.Proofs.YthlpaglldhgmfaaW.PrintMore
attribute [local go_sem high] eqA31 eqA35
set_option linter.unusedSimpArgs false
set_option linter.unusedVariables false
noncomputable def risT1 : Code := sndC (Try.f3.body.getD .skip)
noncomputable def risT2 : Code := sndC risT1
noncomputable def risT3 : Code := sndC risT2
noncomputable def risT4 : Code := sndC risT3
noncomputable def risT5 : Code := sndC risT4
noncomputable def risT6 : Code := sndC risT5
noncomputable def risT7 : Code := sndC risT6
noncomputable def risT8 : Code := sndC risT7
noncomputable def risT9 : Code := sndC risT8
theorem risE1 : risT1 = .seq (fstC risT1) risT2 := by kernel_rfl
theorem risE2 : risT2 = .seq (fstC risT2) risT3 := by kernel_rfl
theorem risE3 : risT3 = .seq (fstC risT3) risT4 := by kernel_rfl
theorem risE4 : risT4 = .seq (fstC risT4) risT5 := by kernel_rfl
theorem risE5 : risT5 = .seq (fstC risT5) risT6 := by kernel_rfl
theorem risE6 : risT6 = .seq (fstC risT6) risT7 := by kernel_rfl
theorem risE7 : risT7 = .seq (fstC risT7) risT8 := by kernel_rfl
theorem risE8 : risT8 = .seq (fstC risT8) risT9 := by kernel_rfl
theorem risE0 : Try.f3.body.getD .skip = .seq (fstC (Try.f3.body.getD .skip)) risT1 := by kernel_rfl
set_option maxHeartbeats 4000000 in
set_option maxRecDepth 100000 in
theorem ris_c (w W : World) (l : List Kn) (m : MapV) (ts : List Rt) {z0 z2 z3 z4 z6 z7 z8 z9 z10 z11 z12 z13 z14 z15 z16 z17 z18 z19 z20 z21 z22 z23 z24 z25 z26 z27 z28 z29 z30 z31 z32 z33 z34 z35 z36 z37 z38 z39 z40 z41 z42 z43 z44 z45 z46 z47 z48 z49 z50 z51 z52 z53 z54 z55 z56 z57 z58 z59 z60 z61 z62 z63 z64 z65 z66 z67 z68 z69 z70 z71 z72 z73 z74 z75 z76 z77 z78 z79 z80 z81 z82 z83 z84 z85 z86 z87 z88 z89 z90 z91 z92 z93 z94 z95 z96 z97 z98 z99 z100 z101 z102 z103 z104 z105 z106 z107 z108 z109 z110 z111 z112 z113 z114 z115 z116 z117 z118 z119 z120 z121 z122 z123 z124 z125 z126 z127 z128 z129 z130 z131 z132 z133 z134 z135 z136 z137 z138 z139 z140 : Value} {A Al : Option Addr} {cap capl : Nat} {p : Nat} {ak as_ : Addr} {ck cs : Nat} (hm : MapA W p ak as_ ck cs m) (hq : MapQ l m) (hT : RtS W A ts) (hR : ∀ t ∈ ts, R64 t) (hN : ts.length ≤ 300) (hB : Below w.heap.size w W) :
    risT8.wp Try.prog (bodyPost Try.prog Try.f3 (fun e w' => e = .returned (.bool true) ∧ Below w.heap.size w w')) ⟨#[z0, .slice A ts.length cap, z2, z3, z4, .pointer (some ⟨p, 0, none⟩), z6, z7, z8, z9, z10, z11, z12, z13, z14, z15, z16, z17, z18, z19, z20, z21, z22, z23, z24, z25, z26, z27, z28, z29, z30, z31, z32, z33, z34, z35, z36, z37, z38, z39, z40, z41, z42, z43, z44, z45, z46, z47, z48, z49, z50, z51, z52, z53, z54, z55, z56, z57, z58, z59, z60, z61, z62, z63, z64, z65, z66, z67, z68, z69, z70, z71, z72, z73, z74, z75, z76, z77, z78, z79, z80, z81, z82, z83, z84, z85, z86, z87, z88, z89, z90, z91, z92, z93, z94, z95, z96, z97, z98, z99, z100, z101, z102, z103, z104, z105, z106, z107, z108, z109, z110, z111, z112, z113, z114, z115, z116, z117, z118, z119, z120, z121, z122, z123, z124, z125, z126, z127, z128, z129, z130, z131, z132, z133, z134, z135, z136, z137, z138, z139, z140], []⟩ W := by
  rcases hT with rfl | ⟨ad, rfl, hL⟩
  · have HM := Lib.hid hm
    have HQ := Lib.hid hq
    have HR := Lib.hid hR
    have HB := Lib.hid hB
    have HF := Lib.hid fine6_any
    clear hm hq hR hN hB
    rw [risE8]
    refine wp_seq_k (fun K8 hK8 => ?_)
    have HK8 := Lib.hid hK8
    clear hK8
    conv => arg 2; whnf
    go_wp2_with fail
    go_loopw [14] (fun i wr => i = .int .i64 1 ∧ W = wr) (fun _ _ => 0)
    case atStart => exact ⟨rfl, rfl⟩
    case round =>
      obtain ⟨rfl, rfl⟩ := hrel
      go_wp2
      refine HK8.out _ _ ?_
      conv => arg 2; whnf
      go_wp2
      go_ret
      exact ⟨rfl, HB.out⟩
  · have HM := Lib.hid hm
    have HQ := Lib.hid hq
    have HR := Lib.hid hR
    have HB := Lib.hid hB
    have HF := Lib.hid fine6_any
    have HL := Lib.hid hL
    clear hm hq hR hB hL
    obtain ⟨n, hn⟩ : ∃ n, ts.length = n := ⟨_, rfl⟩
    rw [hn] at hN ⊢
    have HN := Lib.hid hn
    clear hn
    rw [risE8]
    refine wp_seq_k (fun K8 hK8 => ?_)
    have HK8 := Lib.hid hK8
    clear hK8
    conv => arg 2; whnf
    go_wp2_with fail
    go_loopw [14] (fun i wr => ∃ j : Nat, (j = 0 ∨ j + 1 ≤ n) ∧ i = .int .i64 ((j : Int) + 1) ∧ Below W.heap.size W wr) (fun i _ => n - (intOf i).toNat)
    case atStart => exact ⟨0, .inl rfl, rfl, Below.refl _ _⟩
    case round =>
      obtain ⟨j, hj, rfl, hBr⟩ := hrel
      by_cases hjn : j + 1 < n
      · have p1 : ((j : Int) + 1 < (n : Int)) = True := eq_true (by omega)
        have hj0 : j < ts.length := by have := HN.out; omega
        have hj1 : j + 1 < ts.length := by have := HN.out; omega
        have w1_ : IntKind.i64.wrap ((j : Int) + 1 - 1) = (j : Int) := by rw [IntKind.wrap_i64]; omega
        have w2_ : IntKind.i64.wrap (j : Int) = (j : Int) := by rw [IntKind.wrap_i64]; omega
        have w3_ : IntKind.i64.wrap ((j : Int) + 1) = (j : Int) + 1 := by rw [IntKind.wrap_i64]; omega
        have p3 : (0 : Int) ≤ (j : Int) + 1 := by omega
        have p4 : ((j : Int) < (n : Int)) = True := eq_true (by omega)
        have p5 : (0 : Int) ≤ (j : Int) := by omega
        have p6 : (j < n) = True := eq_true (by omega)
        have p7 : (j + 1 < n) = True := eq_true (by omega)
        have ht := HR.out _ (List.getElem_mem hj0)
        have hu := HR.out _ (List.getElem_mem hj1)
        obtain ⟨⟨t1, t2⟩, htj⟩ : ∃ t, ts[j] = t := ⟨_, rfl⟩
        obtain ⟨⟨u1, u2⟩, huj⟩ : ∃ t, ts[j + 1] = t := ⟨_, rfl⟩
        have CT := Lib.hid (fun (w_ : World) (h : Below W.heap.size W w_) => (by obtain ⟨c0, c1⟩ := (HL.out.below h) j hj0; obtain ⟨d0, d1⟩ := (HL.out.below h) (j + 1) hj1; rw [htj] at c0 c1; rw [huj] at d0 d1; exact ⟨c0, c1, d0, d1⟩ : w_.cell? (ad.add (j * 2)) = some (.int .i64 t1) ∧ w_.cell? ⟨(ad.add (j * 2)).block, (ad.add (j * 2)).off + 1, none⟩ = some (.int .i64 t2) ∧ w_.cell? (ad.add ((j + 1) * 2)) = some (.int .i64 u1) ∧ w_.cell? ⟨(ad.add ((j + 1) * 2)).block, (ad.add ((j + 1) * 2)).off + 1, none⟩ = some (.int .i64 u2)))
        rw [htj] at ht
        rw [huj] at hu
        clear htj huj
        obtain ⟨⟨⟨x1, x2⟩, e1⟩, hX⟩ : ∃ X, m.app (t1, t2) = X := ⟨_, rfl⟩
        obtain ⟨⟨⟨y1, y2⟩, e2⟩, hY⟩ : ∃ X, m.app (u1, u2) = X := ⟨_, rfl⟩
        have MAt := Lib.hid (fun (u : World) (h : Below w.heap.size w u) (hmu : MapA u p ak as_ ck cs m) => (by have := app_any p ak as_ ck cs m (t1, t2) u hmu HQ.out.ok ht; rw [hX] at this; exact this : Calls Try.prog 15 #[.pointer (some ⟨p, 0, none⟩), .agg #[.int .i64 t1, .int .i64 t2]] u fun e w' => e = .returned (.tuple #[.agg #[.int .i64 x1, .int .i64 x2], .int .i64 e1]) ∧ Below u.heap.size u w'))
        have MAu := Lib.hid (fun (u : World) (h : Below w.heap.size w u) (hmu : MapA u p ak as_ ck cs m) => (by have := app_any p ak as_ ck cs m (u1, u2) u hmu HQ.out.ok hu; rw [hY] at this; exact this : Calls Try.prog 15 #[.pointer (some ⟨p, 0, none⟩), .agg #[.int .i64 u1, .int .i64 u2]] u fun e w' => e = .returned (.tuple #[.agg #[.int .i64 y1, .int .i64 y2], .int .i64 e2]) ∧ Below u.heap.size u w'))
        have HX := Lib.hid hX
        have HY := Lib.hid hY
        clear hX hY
        have hBw : Below w.heap.size w wr := HB.out.trans (Below.mono hBr HB.out.size)
        obtain ⟨c0, c1, _, _⟩ := CT.out _ hBr
        go_wp2_with fail
        with_reducible refine (MAt.out _ hBw (HM.out.below hBr)).mono ?_
        rintro e_ w1 ⟨rfl, hb1⟩
        have hBr1 : Below W.heap.size W w1 := Hand.stepB hb1 hBr (Nat.le_refl _)
        have hBr2 : Below W.heap.size W (w1.alloc (.cells #[.int .i64 x1, .int .i64 x2] 31)) := hBr1.alloc hBr1.size _
        obtain ⟨_, _, d0, d1⟩ := CT.out _ hBr2
        clear c0 c1 hb1
        go_wp2_with fail
        with_reducible refine (MAu.out _ (HB.out.trans (Below.mono hBr2 HB.out.size)) (HM.out.below hBr2)).mono ?_
        rintro e_ w2 ⟨rfl, hb2⟩
        have hBr3 : Below W.heap.size W w2 := Hand.stepB hb2 hBr2 (Nat.le_refl _)
        have gx2 : w2.heap[w1.heap.size]? = some (.cells #[.int .i64 x1, .int .i64 x2] 31 (0, 0)) := Hand.kb hb2 (Hand.q3 _ _ _ rfl)
        obtain ⟨V, hV⟩ : ∃ V_, V_ = w2.alloc (.cells #[.int .i64 y1, .int .i64 y2] 31) := ⟨_, rfl⟩
        have gy : V.heap[w2.heap.size]? = some (.cells #[.int .i64 y1, .int .i64 y2] 31 (0, 0)) := by rw [hV]; exact Hand.q3 _ _ _ rfl
        have hBV : Below w2.heap.size w2 V := by rw [hV]; exact (Below.refl _ _).alloc (Nat.le_refl _) _
        have gx := Hand.kb hBV gx2
        have hBr4 : Below W.heap.size W V := Hand.stepB hBV hBr3 (Nat.le_refl _)
        have gxz := (Hand.hz gx).1
        have gyz := (Hand.hz gy).1
        obtain ⟨a0, fa0, a1, fa1⟩ := Hand.hc2 gx
        obtain ⟨b0, fb0, b1, fb1⟩ := Hand.hc2 gy
        have HB4 := Lib.hid hBr4
        have HC := Lib.hid (fun (w_ : World) (h : Below V.heap.size V w_) => (by obtain ⟨k0, k1, k2, k3⟩ := CT.out _ (Hand.stepB h HB4.out (Nat.le_refl _)); exact ⟨h, (h.cell gxz).trans a0, (h.cell gxz).trans a1, (h.cell gyz).trans b0, (h.cell gyz).trans b1, k0, k1, k2, k3⟩ : Below V.heap.size V w_ ∧ w_.cell? ⟨w1.heap.size, 0, none⟩ = some (.int .i64 x1) ∧ w_.cell? ⟨w1.heap.size, 1, none⟩ = some (.int .i64 x2) ∧ w_.cell? ⟨w2.heap.size, 0, none⟩ = some (.int .i64 y1) ∧ w_.cell? ⟨w2.heap.size, 1, none⟩ = some (.int .i64 y2) ∧ w_.cell? (ad.add (j * 2)) = some (.int .i64 t1) ∧ w_.cell? ⟨(ad.add (j * 2)).block, (ad.add (j * 2)).off + 1, none⟩ = some (.int .i64 t2) ∧ w_.cell? (ad.add ((j + 1) * 2)) = some (.int .i64 u1) ∧ w_.cell? ⟨(ad.add ((j + 1) * 2)).block, (ad.add ((j + 1) * 2)).off + 1, none⟩ = some (.int .i64 u2)))
        have BR : Below V.heap.size V V := Below.refl _ _
        clear hb2 gx2 hBV gx gy hBr hBr1 hBr2 hBr3 hBr4 hBw d0 d1
        go_wp2_with fail
        rw [← hV]
        clear hV
        by_cases h1 : e1 = 0
        · have j1 : (e1 == 0) = true := by simpa using h1
          have F1 := Lib.hid (fun (u : World) => (by have := fine6_any e1 u; rw [j1] at this; exact this : Calls Try.prog 14 #[.int .i64 e1] u fun r w' => r = .returned (.bool true) ∧ w' = u))
          have H1 := Lib.hid h1
          clear h1 j1
          by_cases h2 : e2 = 0
          · have j2 : (e2 == 0) = true := by simpa using h2
            have F2 := Lib.hid (fun (u : World) => (by have := fine6_any e2 u; rw [j2] at this; exact this : Calls Try.prog 14 #[.int .i64 e2] u fun r w' => r = .returned (.bool true) ∧ w' = u))
            have H2 := Lib.hid h2
            clear h2 j2
            have hx := HQ.out.app (HX.out.trans (by rw [H1.out]))
            have hy := HQ.out.app (HY.out.trans (by rw [H2.out]))
            have hc := HQ.out.app_cmp (HX.out.trans (by rw [H1.out])) (HY.out.trans (by rw [H2.out]))
            have MC1 := Lib.hid (fun u => cmp_k (x1, x2) (y1, y2) u (right_R64 hx.2.1) (right_R64 hy.2.1) hx.2.1 hy.2.1)
            have MC2 := Lib.hid (fun u => cmp_k (t1, t2) (u1, u2) u (right_R64 hx.1) (right_R64 hy.1) hx.1 hy.1)
            rw [hc] at MC1
            obtain ⟨q, hqv⟩ : ∃ q, rCmp (t1, t2) (u1, u2) = q := ⟨_, rfl⟩
            rw [hqv] at MC1 MC2
            dsimp only [rv] at MC1 MC2
            clear hqv hc hx hy
            go_region_held3 (fun w_ => Below V.heap.size V w_ ∧ w_.cell? ⟨w1.heap.size, 0, none⟩ = some (.int .i64 x1) ∧ w_.cell? ⟨w1.heap.size, 1, none⟩ = some (.int .i64 x2) ∧ w_.cell? ⟨w2.heap.size, 0, none⟩ = some (.int .i64 y1) ∧ w_.cell? ⟨w2.heap.size, 1, none⟩ = some (.int .i64 y2) ∧ w_.cell? (ad.add (j * 2)) = some (.int .i64 t1) ∧ w_.cell? ⟨(ad.add (j * 2)).block, (ad.add (j * 2)).off + 1, none⟩ = some (.int .i64 t2) ∧ w_.cell? (ad.add ((j + 1) * 2)) = some (.int .i64 u1) ∧ w_.cell? ⟨(ad.add ((j + 1) * 2)).block, (ad.add ((j + 1) * 2)).off + 1, none⟩ = some (.int .i64 u2)) (first | (refine HC.out _ ?_; repeat (with_reducible first | assumption | apply Below.drew | refine Below.alloc ?_ (by first | omega | (simp only [World.size_alloc, World.size_drew, World.size_setCell]; omega)) _))) (first | (go_at_call 14; ((with_reducible refine (F1.out _).mono ?_); rintro e_ w5 ⟨rfl, rfl⟩)) | (go_at_call 14; ((with_reducible refine (F2.out _).mono ?_); rintro e_ w5 ⟨rfl, rfl⟩)) | (go_at_call 18; ((with_reducible refine (MC1.out _).mono ?_); rintro e_ w6 ⟨rfl, hb_w6⟩; have BB : Below V.heap.size V w6 := Hand.stepB hb_w6 (by repeat (with_reducible first | assumption | apply Below.drew | refine Below.alloc ?_ (by first | omega | (simp only [World.size_alloc, World.size_drew, World.size_setCell]; omega)) _)) (Nat.le_refl _); have zBB := BB.size)) | (go_at_call 18; ((with_reducible refine (MC2.out _).mono ?_); rintro e_ w7 ⟨rfl, hb_w7⟩; have BB : Below V.heap.size V w7 := Hand.stepB hb_w7 (by repeat (with_reducible first | assumption | apply Below.drew | refine Below.alloc ?_ (by first | omega | (simp only [World.size_alloc, World.size_drew, World.size_setCell]; omega)) _)) (Nat.le_refl _); have zBB := BB.size)))
            all_goals (go_wp2; go_roundw)
            all_goals (first | (simp [intOf]; omega) | exact ⟨j + 1, .inr (by omega), by rw [Int.natCast_add]; rfl, Hand.stepB (by first | exact BB | exact BB.drew) HB4.out (Nat.le_refl _)⟩)
          · have j2 : (e2 == 0) = false := by simpa using h2
            have F2 := Lib.hid (fun (u : World) => (by have := fine6_any e2 u; rw [j2] at this; exact this : Calls Try.prog 14 #[.int .i64 e2] u fun r w' => r = .returned (.bool false) ∧ w' = u))
            clear h2 j2
            go_quiet ((first | (go_at_call 14; exact Calls.quiet_of_same (F1.out _)) | (go_at_call 14; exact Calls.quiet_of_same (F2.out _))))
            all_goals (go_wp2; go_roundw)
            all_goals (first | (simp [intOf]; omega) | exact ⟨j + 1, .inr (by omega), by rw [Int.natCast_add]; rfl, Hand.stepB (by first | (apply pw_below_drewN; exact BR) | exact BR) HB4.out (Nat.le_refl _)⟩)
        · have j1 : (e1 == 0) = false := by simpa using h1
          have F1 := Lib.hid (fun (u : World) => (by have := fine6_any e1 u; rw [j1] at this; exact this : Calls Try.prog 14 #[.int .i64 e1] u fun r w' => r = .returned (.bool false) ∧ w' = u))
          clear h1 j1
          go_quiet ((first | (go_at_call 14; exact Calls.quiet_of_same (F1.out _))))
          all_goals (go_wp2; go_roundw)
          all_goals (first | (simp [intOf]; omega) | exact ⟨j + 1, .inr (by omega), by rw [Int.natCast_add]; rfl, Hand.stepB (by first | (apply pw_below_drewN; exact BR) | exact BR) HB4.out (Nat.le_refl _)⟩)
      · have p1 : ((j : Int) + 1 < (n : Int)) = False := eq_false (by omega)
        go_wp2
        refine HK8.out _ _ ?_
        conv => arg 2; whnf
        go_wp2
        go_ret
        exact ⟨rfl, HB.out.trans (Below.mono hBr HB.out.size)⟩
end Go.Proofs.Ythlpaglldhgmfaa.PA
