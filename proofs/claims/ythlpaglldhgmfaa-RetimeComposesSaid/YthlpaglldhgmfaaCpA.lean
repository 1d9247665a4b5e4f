/- Chapter 6: RetimeComposes, walked: the times. -/
import Derived.Test.YthlpaglldhgmfaaMC
import Derived.Deep.RegionHeld3
import Derived.Deep.QuietTactic
import Derived.BigQuiet
namespace Go.Proofs.Ythlpaglldhgmfaa.PA
open Go Go.RowKit Go.Proofs.YthlpaglldhgmfaaW.PrintWords Go.Proofs.YthlpaglldhgmfaaW.PrintLast Go.Proofs.YthlpaglldhgmfaaW.PrintMore
attribute [local go_sem high] eqA31 eqA35
set_option linter.unusedSimpArgs false
set_option linter.unusedVariables false
noncomputable def cmpT1 : Code := sndC (Try.f8.body.getD .skip)
noncomputable def cmpT2 : Code := sndC cmpT1
noncomputable def cmpT3 : Code := sndC cmpT2
noncomputable def cmpT4 : Code := sndC cmpT3
noncomputable def cmpT5 : Code := sndC cmpT4
noncomputable def cmpT6 : Code := sndC cmpT5
noncomputable def cmpT7 : Code := sndC cmpT6
noncomputable def cmpT8 : Code := sndC cmpT7
noncomputable def cmpT9 : Code := sndC cmpT8
noncomputable def cmpT10 : Code := sndC cmpT9
noncomputable def cmpT11 : Code := sndC cmpT10
theorem cmpE1 : cmpT1 = .seq (fstC cmpT1) cmpT2 := by kernel_rfl
theorem cmpE2 : cmpT2 = .seq (fstC cmpT2) cmpT3 := by kernel_rfl
theorem cmpE3 : cmpT3 = .seq (fstC cmpT3) cmpT4 := by kernel_rfl
theorem cmpE4 : cmpT4 = .seq (fstC cmpT4) cmpT5 := by kernel_rfl
theorem cmpE5 : cmpT5 = .seq (fstC cmpT5) cmpT6 := by kernel_rfl
theorem cmpE6 : cmpT6 = .seq (fstC cmpT6) cmpT7 := by kernel_rfl
theorem cmpE7 : cmpT7 = .seq (fstC cmpT7) cmpT8 := by kernel_rfl
theorem cmpE8 : cmpT8 = .seq (fstC cmpT8) cmpT9 := by kernel_rfl
theorem cmpE9 : cmpT9 = .seq (fstC cmpT9) cmpT10 := by kernel_rfl
theorem cmpE10 : cmpT10 = .seq (fstC cmpT10) cmpT11 := by kernel_rfl
theorem cmpE0 : Try.f8.body.getD .skip = .seq (fstC (Try.f8.body.getD .skip)) cmpT1 := by kernel_rfl
set_option maxHeartbeats 4000000 in
set_option maxRecDepth 100000 in
theorem cmp_c0 (w W : World) (m n : MapV) (ts : List Rt) (ee : Int) {z0 z1 z2 z4 z5 z6 z7 z8 z12 z13 z14 z16 z17 z18 z19 z20 z21 z22 z23 z24 z25 z26 z27 z28 z29 z30 z31 z32 z33 z34 z35 z36 z37 z38 z39 z40 z41 z42 z43 z44 z45 z46 z47 z48 z49 z50 z51 z52 z53 z54 z55 z56 z57 z58 z59 z60 z61 z62 z63 z64 z65 z66 z67 z68 z69 z70 z71 z72 z73 z74 z75 z76 z77 z78 z79 z80 z81 z82 z83 z84 z85 z86 z87 z88 z89 z90 z91 z92 z93 z94 z95 z96 z97 z98 z99 z100 z101 z102 z103 z104 z105 z106 z107 z108 z109 z110 z111 z112 z113 z114 z115 z116 z117 z118 z119 z120 z121 z122 z123 z124 z125 z126 z127 z128 z129 z130 z131 z132 z133 z134 z135 z136 z137 z138 z139 z140 z141 z142 z143 z144 z145 z146 z147 z148 z149 z150 z151 z152 z153 z154 z155 z156 z157 z158 z159 z160 z161 z162 z163 z164 z165 z166 z167 z168 z169 z170 z171 z172 z173 z174 z175 z176 z177 z178 z179 v15 : Value} {A : Option Addr} {cap p q : Nat} {ak as_ bk bs : Addr} {ck cs dk ds : Nat} (hm : MapA W p ak as_ ck cs m) (hn : MapA W q bk bs dk ds n) (hM : Mk m) (hN : Mk n) (hee : ee ≠ 0) (hT : RtS W A ts) (hR : ∀ t ∈ ts, R64 t) (hL : ts.length ≤ 2000) (hB : Below w.heap.size w W) :
    cmpT10.wp Try.prog (bodyPost Try.prog Try.f8 (fun e w' => e = .returned (.bool true) ∧ Below w.heap.size w w')) ⟨#[z0, z1, z2, .slice A ts.length cap, z4, z5, z6, z7, z8, .pointer (some ⟨p, 0, none⟩), .int .i64 ee, .pointer (some ⟨q, 0, none⟩), z12, z13, z14, v15, z16, z17, z18, z19, z20, z21, z22, z23, z24, z25, z26, z27, z28, z29, z30, z31, z32, z33, z34, z35, z36, z37, z38, z39, z40, z41, z42, z43, z44, z45, z46, z47, z48, z49, z50, z51, z52, z53, z54, z55, z56, z57, z58, z59, z60, z61, z62, z63, z64, z65, z66, z67, z68, z69, z70, z71, z72, z73, z74, z75, z76, z77, z78, z79, z80, z81, z82, z83, z84, z85, z86, z87, z88, z89, z90, z91, z92, z93, z94, z95, z96, z97, z98, z99, z100, z101, z102, z103, z104, z105, z106, z107, z108, z109, z110, z111, z112, z113, z114, z115, z116, z117, z118, z119, z120, z121, z122, z123, z124, z125, z126, z127, z128, z129, z130, z131, z132, z133, z134, z135, z136, z137, z138, z139, z140, z141, z142, z143, z144, z145, z146, z147, z148, z149, z150, z151, z152, z153, z154, z155, z156, z157, z158, z159, z160, z161, z162, z163, z164, z165, z166, z167, z168, z169, z170, z171, z172, z173, z174, z175, z176, z177, z178, z179], []⟩ W := by
  have hmk := hM.q.ok
  have hnk := hN.q.ok
  rcases hT with rfl | ⟨ad, rfl, hT⟩
  · have HB := Lib.hid hB
    clear hm hn hM hN hR hB hL hmk hnk
    rw [cmpE10]
    refine wp_seq_k (fun K10 hK10 => ?_)
    have HK10 := Lib.hid hK10
    clear hK10
    conv => arg 2; whnf
    go_wp2_with fail
    go_loopw [21] (fun i wr => i = .int .i64 0 ∧ W = wr) (fun _ _ => 0)
    case atStart => exact ⟨rfl, rfl⟩
    case round =>
      obtain ⟨rfl, rfl⟩ := hrel
      go_wp2
      refine HK10.out _ _ ?_
      conv => arg 2; whnf
      go_wp2
      go_ret
      exact ⟨rfl, HB.out⟩
  · obtain ⟨nt, hnt⟩ : ∃ n, ts.length = n := ⟨_, rfl⟩
    rw [hnt] at hL ⊢
    have H_hnt := Lib.hid hnt
    have H_hm := Lib.hid hm
    have H_hn := Lib.hid hn
    have H_hM := Lib.hid hM
    have H_hN := Lib.hid hN
    have H_hR := Lib.hid hR
    have H_hB := Lib.hid hB
    have H_hT := Lib.hid hT
    have H_hmk := Lib.hid hmk
    have H_hnk := Lib.hid hnk
    clear hnt hm hn hM hN hR hB hT hmk hnk
    have h_ee := hee
    have j_ee : (ee == 0) = false := by simpa using h_ee
    have FE := Lib.hid (fun (u : World) => (by have := fine6_any ee u; rw [j_ee] at this; exact this : Calls Try.prog 14 #[.int .i64 ee] u fun r w' => r = .returned (.bool false) ∧ w' = u))
    clear j_ee
    clear hee h_ee
    rw [cmpE10]
    refine wp_seq_k (fun K10 hK10 => ?_)
    have HK10 := Lib.hid hK10
    clear hK10
    conv => arg 2; whnf
    go_wp2_with fail
    go_loopw [21] (fun i wr => ∃ j : Nat, j ≤ nt ∧ i = .int .i64 (j : Int) ∧ Below W.heap.size W wr) (fun i _ => nt - (intOf i).toNat)
    case atStart => exact ⟨0, Nat.zero_le _, rfl, Below.refl _ _⟩
    case round =>
      obtain ⟨j, hj, rfl, hBr⟩ := hrel
      have HBC := Lib.hid hBr
      by_cases hjn : j < nt
      · have p1 : ((j : Int) < (nt : Int)) = True := eq_true (by omega)
        have p6 : (j < nt) = True := eq_true (by omega)
        have p5 : (0 : Int) ≤ (j : Int) := by omega
        have w2 : IntKind.i64.wrap (j : Int) = (j : Int) := by rw [IntKind.wrap_i64]; omega
        have hjl : j < ts.length := by have := H_hnt.out; omega
        have ht := H_hR.out _ (List.getElem_mem hjl)
        obtain ⟨c0, c1⟩ := (H_hT.out.below hBr) j hjl
        obtain ⟨⟨t1, t2⟩, htj⟩ : ∃ t, ts[j] = t := ⟨_, rfl⟩
        rw [htj] at ht c0 c1
        dsimp only at c0 c1
        clear htj
        obtain ⟨⟨⟨x1, x2⟩, e1⟩, hX⟩ : ∃ X, m.app (t1, t2) = X := ⟨_, rfl⟩
        have hx := app_R m H_hmk.out (t1, t2) ht
        rw [hX] at hx
        obtain ⟨⟨⟨b1, b2⟩, e2⟩, hU⟩ : ∃ X, m.undo (x1, x2) = X := ⟨_, rfl⟩
        obtain ⟨⟨⟨y1, y2⟩, e3⟩, hY⟩ : ∃ X, n.app (x1, x2) = X := ⟨_, rfl⟩
        have hy := app_R n H_hnk.out (x1, x2) hx
        rw [hY] at hy
        have M1 := Lib.hid (fun (u : World) (h : MapA u p ak as_ ck cs m) => (by have := app_any p ak as_ ck cs m (t1, t2) u h H_hmk.out ht; rw [hX] at this; exact this : Calls Try.prog 15 #[.pointer (some ⟨p, 0, none⟩), .agg #[.int .i64 t1, .int .i64 t2]] u fun e w' => e = .returned (.tuple #[.agg #[.int .i64 x1, .int .i64 x2], .int .i64 e1]) ∧ Below u.heap.size u w'))
        have M2 := Lib.hid (fun (u : World) (h : MapA u p ak as_ ck cs m) => (by have := undo_any p ak as_ ck cs m (x1, x2) u h H_hmk.out hx; rw [hU] at this; exact this : Calls Try.prog 31 #[.pointer (some ⟨p, 0, none⟩), .agg #[.int .i64 x1, .int .i64 x2]] u fun e w' => e = .returned (.tuple #[.agg #[.int .i64 b1, .int .i64 b2], .int .i64 e2]) ∧ Below u.heap.size u w'))
        have M3 := Lib.hid (fun (u : World) (h : MapA u q bk bs dk ds n) => (by have := app_any q bk bs dk ds n (x1, x2) u h H_hnk.out hx; rw [hY] at this; exact this : Calls Try.prog 15 #[.pointer (some ⟨q, 0, none⟩), .agg #[.int .i64 x1, .int .i64 x2]] u fun e w' => e = .returned (.tuple #[.agg #[.int .i64 y1, .int .i64 y2], .int .i64 e3]) ∧ Below u.heap.size u w'))
        have HX := Lib.hid hX
        have HU := Lib.hid hU
        have HY := Lib.hid hY
        clear hX hU hY hx hy ht hBr
        obtain ⟨V_t, hV⟩ : ∃ V_, V_ = wr.alloc (.cells #[.int .i64 t1, .int .i64 t2] 31) := ⟨_, rfl⟩
        have hbv : Below wr.heap.size wr V_t := by rw [hV]; exact (Below.refl _ _).alloc (Nat.le_refl _) _
        have nB := Lib.hid (Hand.stepB hbv HBC.out (Nat.le_refl _))
        have n0 := Lib.hid (show V_t.heap[wr.heap.size]? = some (.cells #[.int .i64 t1, .int .i64 t2] 31 (0, 0)) from by rw [hV]; exact Hand.q3 _ _ _ rfl)
        clear HBC
        have HBC := nB
        clear nB
        have g_t := n0
        clear n0 hbv
        go_wp2_with fail
        rw [← hV]
        clear hV
        clear c0 c1
        with_reducible refine (M1.out _ (H_hm.out.below HBC.out)).mono ?_
        rintro e_ w1 ⟨rfl, hb⟩
        have n_t := Lib.hid (Hand.kb hb g_t.out)
        have nB := Lib.hid (Hand.stepB hb HBC.out (Nat.le_refl _))
        clear g_t
        have g_t := n_t
        clear n_t
        clear HBC
        have HBC := nB
        clear nB
        clear hb
        obtain ⟨V_x, hV⟩ : ∃ V_, V_ = w1.alloc (.cells #[.int .i64 x1, .int .i64 x2] 31) := ⟨_, rfl⟩
        have hbv : Below w1.heap.size w1 V_x := by rw [hV]; exact (Below.refl _ _).alloc (Nat.le_refl _) _
        have n_t := Lib.hid (Hand.kb hbv g_t.out)
        have nB := Lib.hid (Hand.stepB hbv HBC.out (Nat.le_refl _))
        have n0 := Lib.hid (show V_x.heap[w1.heap.size]? = some (.cells #[.int .i64 x1, .int .i64 x2] 31 (0, 0)) from by rw [hV]; exact Hand.q3 _ _ _ rfl)
        clear g_t
        have g_t := n_t
        clear n_t
        clear HBC
        have HBC := nB
        clear nB
        have g_x := n0
        clear n0 hbv
        by_cases h_e1 : e1 = 0
        · have j_e1 : (e1 == 0) = true := by simpa using h_e1
          have F1 := Lib.hid (fun (u : World) => (by have := fine6_any e1 u; rw [j_e1] at this; exact this : Calls Try.prog 14 #[.int .i64 e1] u fun r w' => r = .returned (.bool true) ∧ w' = u))
          clear j_e1
          subst h_e1
          obtain ⟨c_x0, f_x0, c_x1, f_x1⟩ := Hand.hc2 g_x.out
          go_wp2_with fail
          rw [← hV]
          clear hV
          with_reducible refine (F1.out _).mono ?_
          rintro e_ v1 ⟨rfl, rfl⟩
          go_wp2_with fail
          clear c_x0 f_x0 c_x1 f_x1
          with_reducible refine (M2.out _ (H_hm.out.below HBC.out)).mono ?_
          rintro e_ w2 ⟨rfl, hb⟩
          have n_t := Lib.hid (Hand.kb hb g_t.out)
          have n_x := Lib.hid (Hand.kb hb g_x.out)
          have nB := Lib.hid (Hand.stepB hb HBC.out (Nat.le_refl _))
          clear g_t
          have g_t := n_t
          clear n_t
          clear g_x
          have g_x := n_x
          clear n_x
          clear HBC
          have HBC := nB
          clear nB
          clear hb
          have lt_tb := (Hand.hz g_t.out).1
          have le_b := HBC.out.size
          obtain ⟨V_b, hV⟩ : ∃ V_, V_ = w2.alloc (.cells #[.int .i64 b1, .int .i64 b2] 31) := ⟨_, rfl⟩
          have hbv : Below w2.heap.size w2 V_b := by rw [hV]; exact (Below.refl _ _).alloc (Nat.le_refl _) _
          have n_t := Lib.hid (Hand.kb hbv g_t.out)
          have n_x := Lib.hid (Hand.kb hbv g_x.out)
          have nB := Lib.hid (Hand.stepB hbv HBC.out (Nat.le_refl _))
          have n0 := Lib.hid (show V_b.heap[w2.heap.size]? = some (.cells #[.int .i64 b1, .int .i64 b2] 31 (0, 0)) from by rw [hV]; exact Hand.q3 _ _ _ rfl)
          clear g_t
          have g_t := n_t
          clear n_t
          clear g_x
          have g_x := n_x
          clear n_x
          clear HBC
          have HBC := nB
          clear nB
          have g_b := n0
          clear n0 hbv
          by_cases h_e2 : e2 = 0
          · have j_e2 : (e2 == 0) = true := by simpa using h_e2
            have F2 := Lib.hid (fun (u : World) => (by have := fine6_any e2 u; rw [j_e2] at this; exact this : Calls Try.prog 14 #[.int .i64 e2] u fun r w' => r = .returned (.bool true) ∧ w' = u))
            clear j_e2
            have hu := undo_app H_hM.out HX.out (HU.out.trans (by rw [h_e2]))
            cases hu
            clear h_e2
            obtain ⟨c_b0, f_b0, c_b1, f_b1⟩ := Hand.hc2 g_b.out
            obtain ⟨c_t0, f_t0, c_t1, f_t1⟩ := Hand.hc2 g_t.out
            obtain ⟨c_x0, f_x0, c_x1, f_x1⟩ := Hand.hc2 g_x.out
            go_wp2_with fail
            rw [← hV]
            clear hV
            with_reducible refine (F2.out _).mono ?_
            rintro e_ v2 ⟨rfl, rfl⟩
            go_wp2_with fail
            clear c_b0 f_b0 c_b1 f_b1 c_t0 f_t0 c_t1 f_t1 c_x0 f_x0 c_x1 f_x1
            with_reducible refine (M3.out _ (H_hn.out.below HBC.out)).mono ?_
            rintro e_ w3 ⟨rfl, hb⟩
            have n_t := Lib.hid (Hand.kb hb g_t.out)
            have n_x := Lib.hid (Hand.kb hb g_x.out)
            have n_b := Lib.hid (Hand.kb hb g_b.out)
            have nB := Lib.hid (Hand.stepB hb HBC.out (Nat.le_refl _))
            clear g_t
            have g_t := n_t
            clear n_t
            clear g_x
            have g_x := n_x
            clear n_x
            clear g_b
            have g_b := n_b
            clear n_b
            clear HBC
            have HBC := nB
            clear nB
            clear hb
            obtain ⟨V_y, hV⟩ : ∃ V_, V_ = w3.alloc (.cells #[.int .i64 y1, .int .i64 y2] 31) := ⟨_, rfl⟩
            have hbv : Below w3.heap.size w3 V_y := by rw [hV]; exact (Below.refl _ _).alloc (Nat.le_refl _) _
            have n_t := Lib.hid (Hand.kb hbv g_t.out)
            have n_x := Lib.hid (Hand.kb hbv g_x.out)
            have n_b := Lib.hid (Hand.kb hbv g_b.out)
            have nB := Lib.hid (Hand.stepB hbv HBC.out (Nat.le_refl _))
            have n0 := Lib.hid (show V_y.heap[w3.heap.size]? = some (.cells #[.int .i64 y1, .int .i64 y2] 31 (0, 0)) from by rw [hV]; exact Hand.q3 _ _ _ rfl)
            clear g_t
            have g_t := n_t
            clear n_t
            clear g_x
            have g_x := n_x
            clear n_x
            clear g_b
            have g_b := n_b
            clear n_b
            clear HBC
            have HBC := nB
            clear nB
            have g_y := n0
            clear n0 hbv
            go_wp2_with fail
            rw [← hV]
            clear hV
            with_reducible refine (FE.out _).mono ?_
            rintro e_ v3 ⟨rfl, rfl⟩
            go_wp2
            go_roundw
            case rel => exact ⟨j + 1, by omega, by rw [Int.natCast_add]; rfl, HBC.out⟩
            case measure => simp [intOf]; omega
          · have j_e2 : (e2 == 0) = false := by simpa using h_e2
            have F2 := Lib.hid (fun (u : World) => (by have := fine6_any e2 u; rw [j_e2] at this; exact this : Calls Try.prog 14 #[.int .i64 e2] u fun r w' => r = .returned (.bool false) ∧ w' = u))
            clear j_e2
            clear h_e2
            obtain ⟨c_b0, f_b0, c_b1, f_b1⟩ := Hand.hc2 g_b.out
            obtain ⟨c_t0, f_t0, c_t1, f_t1⟩ := Hand.hc2 g_t.out
            obtain ⟨c_x0, f_x0, c_x1, f_x1⟩ := Hand.hc2 g_x.out
            go_wp2_with fail
            rw [← hV]
            clear hV
            with_reducible refine (F2.out _).mono ?_
            rintro e_ v2 ⟨rfl, rfl⟩
            go_wp2_with fail
            clear c_b0 f_b0 c_b1 f_b1 c_t0 f_t0 c_t1 f_t1 c_x0 f_x0 c_x1 f_x1
            with_reducible refine (M3.out _ (H_hn.out.below HBC.out)).mono ?_
            rintro e_ w3 ⟨rfl, hb⟩
            have n_t := Lib.hid (Hand.kb hb g_t.out)
            have n_x := Lib.hid (Hand.kb hb g_x.out)
            have n_b := Lib.hid (Hand.kb hb g_b.out)
            have nB := Lib.hid (Hand.stepB hb HBC.out (Nat.le_refl _))
            clear g_t
            have g_t := n_t
            clear n_t
            clear g_x
            have g_x := n_x
            clear n_x
            clear g_b
            have g_b := n_b
            clear n_b
            clear HBC
            have HBC := nB
            clear nB
            clear hb
            obtain ⟨V_y, hV⟩ : ∃ V_, V_ = w3.alloc (.cells #[.int .i64 y1, .int .i64 y2] 31) := ⟨_, rfl⟩
            have hbv : Below w3.heap.size w3 V_y := by rw [hV]; exact (Below.refl _ _).alloc (Nat.le_refl _) _
            have n_t := Lib.hid (Hand.kb hbv g_t.out)
            have n_x := Lib.hid (Hand.kb hbv g_x.out)
            have n_b := Lib.hid (Hand.kb hbv g_b.out)
            have nB := Lib.hid (Hand.stepB hbv HBC.out (Nat.le_refl _))
            have n0 := Lib.hid (show V_y.heap[w3.heap.size]? = some (.cells #[.int .i64 y1, .int .i64 y2] 31 (0, 0)) from by rw [hV]; exact Hand.q3 _ _ _ rfl)
            clear g_t
            have g_t := n_t
            clear n_t
            clear g_x
            have g_x := n_x
            clear n_x
            clear g_b
            have g_b := n_b
            clear n_b
            clear HBC
            have HBC := nB
            clear nB
            have g_y := n0
            clear n0 hbv
            go_wp2_with fail
            rw [← hV]
            clear hV
            with_reducible refine (FE.out _).mono ?_
            rintro e_ v3 ⟨rfl, rfl⟩
            go_wp2
            go_roundw
            case rel => exact ⟨j + 1, by omega, by rw [Int.natCast_add]; rfl, HBC.out⟩
            case measure => simp [intOf]; omega
        · have j_e1 : (e1 == 0) = false := by simpa using h_e1
          have F1 := Lib.hid (fun (u : World) => (by have := fine6_any e1 u; rw [j_e1] at this; exact this : Calls Try.prog 14 #[.int .i64 e1] u fun r w' => r = .returned (.bool false) ∧ w' = u))
          clear j_e1
          clear h_e1
          go_wp2_with fail
          rw [← hV]
          clear hV
          with_reducible refine (F1.out _).mono ?_
          rintro e_ v1 ⟨rfl, rfl⟩
          go_wp2
          go_roundw
          case rel => exact ⟨j + 1, by omega, by rw [Int.natCast_add]; rfl, HBC.out⟩
          case measure => simp [intOf]; omega
      · have p1 : ((j : Int) < (nt : Int)) = False := eq_false (by omega)
        go_wp2
        refine HK10.out _ _ ?_
        conv => arg 2; whnf
        go_wp2
        go_ret
        exact ⟨rfl, H_hB.out.trans (Below.mono HBC.out H_hB.out.size)⟩
set_option maxHeartbeats 4000000 in
set_option maxRecDepth 100000 in
theorem cmp_c1 (w W : World) (m n o : MapV) (ts : List Rt) (ee : Int) {z0 z1 z2 z4 z5 z6 z7 z8 z12 z13 z14 z16 z17 z18 z19 z20 z21 z22 z23 z24 z25 z26 z27 z28 z29 z30 z31 z32 z33 z34 z35 z36 z37 z38 z39 z40 z41 z42 z43 z44 z45 z46 z47 z48 z49 z50 z51 z52 z53 z54 z55 z56 z57 z58 z59 z60 z61 z62 z63 z64 z65 z66 z67 z68 z69 z70 z71 z72 z73 z74 z75 z76 z77 z78 z79 z80 z81 z82 z83 z84 z85 z86 z87 z88 z89 z90 z91 z92 z93 z94 z95 z96 z97 z98 z99 z100 z101 z102 z103 z104 z105 z106 z107 z108 z109 z110 z111 z112 z113 z114 z115 z116 z117 z118 z119 z120 z121 z122 z123 z124 z125 z126 z127 z128 z129 z130 z131 z132 z133 z134 z135 z136 z137 z138 z139 z140 z141 z142 z143 z144 z145 z146 z147 z148 z149 z150 z151 z152 z153 z154 z155 z156 z157 z158 z159 z160 z161 z162 z163 z164 z165 z166 z167 z168 z169 z170 z171 z172 z173 z174 z175 z176 z177 z178 z179 : Value} {A : Option Addr} {cap p q : Nat} {ak as_ bk bs : Addr} {ck cs dk ds : Nat} {r : Nat} {ok os : Addr} {oc od : Nat} (hm : MapA W p ak as_ ck cs m) (hn : MapA W q bk bs dk ds n) (hM : Mk m) (hN : Mk n) (ho : MapA W r ok os oc od o) (hO : thenS m n = (some o, 0)) (hee : ee = 0) (hT : RtS W A ts) (hR : ∀ t ∈ ts, R64 t) (hL : ts.length ≤ 2000) (hB : Below w.heap.size w W) :
    cmpT10.wp Try.prog (bodyPost Try.prog Try.f8 (fun e w' => e = .returned (.bool true) ∧ Below w.heap.size w w')) ⟨#[z0, z1, z2, .slice A ts.length cap, z4, z5, z6, z7, z8, .pointer (some ⟨p, 0, none⟩), .int .i64 ee, .pointer (some ⟨q, 0, none⟩), z12, z13, z14, .pointer (some ⟨r, 0, none⟩), z16, z17, z18, z19, z20, z21, z22, z23, z24, z25, z26, z27, z28, z29, z30, z31, z32, z33, z34, z35, z36, z37, z38, z39, z40, z41, z42, z43, z44, z45, z46, z47, z48, z49, z50, z51, z52, z53, z54, z55, z56, z57, z58, z59, z60, z61, z62, z63, z64, z65, z66, z67, z68, z69, z70, z71, z72, z73, z74, z75, z76, z77, z78, z79, z80, z81, z82, z83, z84, z85, z86, z87, z88, z89, z90, z91, z92, z93, z94, z95, z96, z97, z98, z99, z100, z101, z102, z103, z104, z105, z106, z107, z108, z109, z110, z111, z112, z113, z114, z115, z116, z117, z118, z119, z120, z121, z122, z123, z124, z125, z126, z127, z128, z129, z130, z131, z132, z133, z134, z135, z136, z137, z138, z139, z140, z141, z142, z143, z144, z145, z146, z147, z148, z149, z150, z151, z152, z153, z154, z155, z156, z157, z158, z159, z160, z161, z162, z163, z164, z165, z166, z167, z168, z169, z170, z171, z172, z173, z174, z175, z176, z177, z178, z179], []⟩ W := by
  have hmk := hM.q.ok
  have hnk := hN.q.ok
  have hok := (hM.thn hN hO).1.q.ok
  rcases hT with rfl | ⟨ad, rfl, hT⟩
  · have HB := Lib.hid hB
    clear hm hn hM hN hR hB ho hO hL hmk hnk hok
    rw [cmpE10]
    refine wp_seq_k (fun K10 hK10 => ?_)
    have HK10 := Lib.hid hK10
    clear hK10
    conv => arg 2; whnf
    go_wp2_with fail
    go_loopw [21] (fun i wr => i = .int .i64 0 ∧ W = wr) (fun _ _ => 0)
    case atStart => exact ⟨rfl, rfl⟩
    case round =>
      obtain ⟨rfl, rfl⟩ := hrel
      go_wp2
      refine HK10.out _ _ ?_
      conv => arg 2; whnf
      go_wp2
      go_ret
      exact ⟨rfl, HB.out⟩
  · obtain ⟨nt, hnt⟩ : ∃ n, ts.length = n := ⟨_, rfl⟩
    rw [hnt] at hL ⊢
    have H_hnt := Lib.hid hnt
    have H_hm := Lib.hid hm
    have H_hn := Lib.hid hn
    have H_hM := Lib.hid hM
    have H_hN := Lib.hid hN
    have H_hR := Lib.hid hR
    have H_hB := Lib.hid hB
    have H_ho := Lib.hid ho
    have H_hO := Lib.hid hO
    have H_hT := Lib.hid hT
    have H_hmk := Lib.hid hmk
    have H_hnk := Lib.hid hnk
    have H_hok := Lib.hid hok
    clear hnt hm hn hM hN hR hB ho hO hT hmk hnk hok
    subst hee
    have FE := Lib.hid (fun (u : World) => (by have := fine6_any 0 u; exact this : Calls Try.prog 14 #[.int .i64 0] u fun r w' => r = .returned (.bool true) ∧ w' = u))
    rw [cmpE10]
    refine wp_seq_k (fun K10 hK10 => ?_)
    have HK10 := Lib.hid hK10
    clear hK10
    conv => arg 2; whnf
    go_wp2_with fail
    go_loopw [21] (fun i wr => ∃ j : Nat, j ≤ nt ∧ i = .int .i64 (j : Int) ∧ Below W.heap.size W wr) (fun i _ => nt - (intOf i).toNat)
    case atStart => exact ⟨0, Nat.zero_le _, rfl, Below.refl _ _⟩
    case round =>
      obtain ⟨j, hj, rfl, hBr⟩ := hrel
      have HBC := Lib.hid hBr
      by_cases hjn : j < nt
      · have p1 : ((j : Int) < (nt : Int)) = True := eq_true (by omega)
        have p6 : (j < nt) = True := eq_true (by omega)
        have p5 : (0 : Int) ≤ (j : Int) := by omega
        have w2 : IntKind.i64.wrap (j : Int) = (j : Int) := by rw [IntKind.wrap_i64]; omega
        have hjl : j < ts.length := by have := H_hnt.out; omega
        have ht := H_hR.out _ (List.getElem_mem hjl)
        obtain ⟨c0, c1⟩ := (H_hT.out.below hBr) j hjl
        obtain ⟨⟨t1, t2⟩, htj⟩ : ∃ t, ts[j] = t := ⟨_, rfl⟩
        rw [htj] at ht c0 c1
        dsimp only at c0 c1
        clear htj
        obtain ⟨⟨⟨x1, x2⟩, e1⟩, hX⟩ : ∃ X, m.app (t1, t2) = X := ⟨_, rfl⟩
        have hx := app_R m H_hmk.out (t1, t2) ht
        rw [hX] at hx
        obtain ⟨⟨⟨b1, b2⟩, e2⟩, hU⟩ : ∃ X, m.undo (x1, x2) = X := ⟨_, rfl⟩
        obtain ⟨⟨⟨y1, y2⟩, e3⟩, hY⟩ : ∃ X, n.app (x1, x2) = X := ⟨_, rfl⟩
        have hy := app_R n H_hnk.out (x1, x2) hx
        rw [hY] at hy
        have M1 := Lib.hid (fun (u : World) (h : MapA u p ak as_ ck cs m) => (by have := app_any p ak as_ ck cs m (t1, t2) u h H_hmk.out ht; rw [hX] at this; exact this : Calls Try.prog 15 #[.pointer (some ⟨p, 0, none⟩), .agg #[.int .i64 t1, .int .i64 t2]] u fun e w' => e = .returned (.tuple #[.agg #[.int .i64 x1, .int .i64 x2], .int .i64 e1]) ∧ Below u.heap.size u w'))
        have M2 := Lib.hid (fun (u : World) (h : MapA u p ak as_ ck cs m) => (by have := undo_any p ak as_ ck cs m (x1, x2) u h H_hmk.out hx; rw [hU] at this; exact this : Calls Try.prog 31 #[.pointer (some ⟨p, 0, none⟩), .agg #[.int .i64 x1, .int .i64 x2]] u fun e w' => e = .returned (.tuple #[.agg #[.int .i64 b1, .int .i64 b2], .int .i64 e2]) ∧ Below u.heap.size u w'))
        have M3 := Lib.hid (fun (u : World) (h : MapA u q bk bs dk ds n) => (by have := app_any q bk bs dk ds n (x1, x2) u h H_hnk.out hx; rw [hY] at this; exact this : Calls Try.prog 15 #[.pointer (some ⟨q, 0, none⟩), .agg #[.int .i64 x1, .int .i64 x2]] u fun e w' => e = .returned (.tuple #[.agg #[.int .i64 y1, .int .i64 y2], .int .i64 e3]) ∧ Below u.heap.size u w'))
        obtain ⟨⟨⟨r1, r2⟩, e4⟩, hZ⟩ : ∃ X, o.app (t1, t2) = X := ⟨_, rfl⟩
        obtain ⟨⟨⟨s1, s2⟩, e5⟩, hS⟩ : ∃ X, o.undo (y1, y2) = X := ⟨_, rfl⟩
        have M4 := Lib.hid (fun (u : World) (h : MapA u r ok os oc od o) => (by have := app_any r ok os oc od o (t1, t2) u h H_hok.out ht; rw [hZ] at this; exact this : Calls Try.prog 15 #[.pointer (some ⟨r, 0, none⟩), .agg #[.int .i64 t1, .int .i64 t2]] u fun e w' => e = .returned (.tuple #[.agg #[.int .i64 r1, .int .i64 r2], .int .i64 e4]) ∧ Below u.heap.size u w'))
        have M5 := Lib.hid (fun (u : World) (h : MapA u r ok os oc od o) => (by have := undo_any r ok os oc od o (y1, y2) u h H_hok.out hy; rw [hS] at this; exact this : Calls Try.prog 31 #[.pointer (some ⟨r, 0, none⟩), .agg #[.int .i64 y1, .int .i64 y2]] u fun e w' => e = .returned (.tuple #[.agg #[.int .i64 s1, .int .i64 s2], .int .i64 e5]) ∧ Below u.heap.size u w'))
        have HX := Lib.hid hX
        have HU := Lib.hid hU
        have HY := Lib.hid hY
        have HZ := Lib.hid hZ
        have HS := Lib.hid hS
        clear hX hU hY hx hy ht hBr hZ hS
        obtain ⟨V_t, hV⟩ : ∃ V_, V_ = wr.alloc (.cells #[.int .i64 t1, .int .i64 t2] 31) := ⟨_, rfl⟩
        have hbv : Below wr.heap.size wr V_t := by rw [hV]; exact (Below.refl _ _).alloc (Nat.le_refl _) _
        have nB := Lib.hid (Hand.stepB hbv HBC.out (Nat.le_refl _))
        have n0 := Lib.hid (show V_t.heap[wr.heap.size]? = some (.cells #[.int .i64 t1, .int .i64 t2] 31 (0, 0)) from by rw [hV]; exact Hand.q3 _ _ _ rfl)
        clear HBC
        have HBC := nB
        clear nB
        have g_t := n0
        clear n0 hbv
        go_wp2_with fail
        rw [← hV]
        clear hV
        clear c0 c1
        with_reducible refine (M1.out _ (H_hm.out.below HBC.out)).mono ?_
        rintro e_ w1 ⟨rfl, hb⟩
        have n_t := Lib.hid (Hand.kb hb g_t.out)
        have nB := Lib.hid (Hand.stepB hb HBC.out (Nat.le_refl _))
        clear g_t
        have g_t := n_t
        clear n_t
        clear HBC
        have HBC := nB
        clear nB
        clear hb
        obtain ⟨V_x, hV⟩ : ∃ V_, V_ = w1.alloc (.cells #[.int .i64 x1, .int .i64 x2] 31) := ⟨_, rfl⟩
        have hbv : Below w1.heap.size w1 V_x := by rw [hV]; exact (Below.refl _ _).alloc (Nat.le_refl _) _
        have n_t := Lib.hid (Hand.kb hbv g_t.out)
        have nB := Lib.hid (Hand.stepB hbv HBC.out (Nat.le_refl _))
        have n0 := Lib.hid (show V_x.heap[w1.heap.size]? = some (.cells #[.int .i64 x1, .int .i64 x2] 31 (0, 0)) from by rw [hV]; exact Hand.q3 _ _ _ rfl)
        clear g_t
        have g_t := n_t
        clear n_t
        clear HBC
        have HBC := nB
        clear nB
        have g_x := n0
        clear n0 hbv
        by_cases h_e1 : e1 = 0
        · have j_e1 : (e1 == 0) = true := by simpa using h_e1
          have F1 := Lib.hid (fun (u : World) => (by have := fine6_any e1 u; rw [j_e1] at this; exact this : Calls Try.prog 14 #[.int .i64 e1] u fun r w' => r = .returned (.bool true) ∧ w' = u))
          clear j_e1
          subst h_e1
          obtain ⟨c_x0, f_x0, c_x1, f_x1⟩ := Hand.hc2 g_x.out
          go_wp2_with fail
          rw [← hV]
          clear hV
          with_reducible refine (F1.out _).mono ?_
          rintro e_ v1 ⟨rfl, rfl⟩
          go_wp2_with fail
          clear c_x0 f_x0 c_x1 f_x1
          with_reducible refine (M2.out _ (H_hm.out.below HBC.out)).mono ?_
          rintro e_ w2 ⟨rfl, hb⟩
          have n_t := Lib.hid (Hand.kb hb g_t.out)
          have n_x := Lib.hid (Hand.kb hb g_x.out)
          have nB := Lib.hid (Hand.stepB hb HBC.out (Nat.le_refl _))
          clear g_t
          have g_t := n_t
          clear n_t
          clear g_x
          have g_x := n_x
          clear n_x
          clear HBC
          have HBC := nB
          clear nB
          clear hb
          have lt_tb := (Hand.hz g_t.out).1
          have le_b := HBC.out.size
          obtain ⟨V_b, hV⟩ : ∃ V_, V_ = w2.alloc (.cells #[.int .i64 b1, .int .i64 b2] 31) := ⟨_, rfl⟩
          have hbv : Below w2.heap.size w2 V_b := by rw [hV]; exact (Below.refl _ _).alloc (Nat.le_refl _) _
          have n_t := Lib.hid (Hand.kb hbv g_t.out)
          have n_x := Lib.hid (Hand.kb hbv g_x.out)
          have nB := Lib.hid (Hand.stepB hbv HBC.out (Nat.le_refl _))
          have n0 := Lib.hid (show V_b.heap[w2.heap.size]? = some (.cells #[.int .i64 b1, .int .i64 b2] 31 (0, 0)) from by rw [hV]; exact Hand.q3 _ _ _ rfl)
          clear g_t
          have g_t := n_t
          clear n_t
          clear g_x
          have g_x := n_x
          clear n_x
          clear HBC
          have HBC := nB
          clear nB
          have g_b := n0
          clear n0 hbv
          by_cases h_e2 : e2 = 0
          · have j_e2 : (e2 == 0) = true := by simpa using h_e2
            have F2 := Lib.hid (fun (u : World) => (by have := fine6_any e2 u; rw [j_e2] at this; exact this : Calls Try.prog 14 #[.int .i64 e2] u fun r w' => r = .returned (.bool true) ∧ w' = u))
            clear j_e2
            have hu := undo_app H_hM.out HX.out (HU.out.trans (by rw [h_e2]))
            cases hu
            clear h_e2
            obtain ⟨c_b0, f_b0, c_b1, f_b1⟩ := Hand.hc2 g_b.out
            obtain ⟨c_t0, f_t0, c_t1, f_t1⟩ := Hand.hc2 g_t.out
            obtain ⟨c_x0, f_x0, c_x1, f_x1⟩ := Hand.hc2 g_x.out
            go_wp2_with fail
            rw [← hV]
            clear hV
            with_reducible refine (F2.out _).mono ?_
            rintro e_ v2 ⟨rfl, rfl⟩
            go_wp2_with fail
            clear c_b0 f_b0 c_b1 f_b1 c_t0 f_t0 c_t1 f_t1 c_x0 f_x0 c_x1 f_x1
            with_reducible refine (M3.out _ (H_hn.out.below HBC.out)).mono ?_
            rintro e_ w3 ⟨rfl, hb⟩
            have n_t := Lib.hid (Hand.kb hb g_t.out)
            have n_x := Lib.hid (Hand.kb hb g_x.out)
            have n_b := Lib.hid (Hand.kb hb g_b.out)
            have nB := Lib.hid (Hand.stepB hb HBC.out (Nat.le_refl _))
            clear g_t
            have g_t := n_t
            clear n_t
            clear g_x
            have g_x := n_x
            clear n_x
            clear g_b
            have g_b := n_b
            clear n_b
            clear HBC
            have HBC := nB
            clear nB
            clear hb
            obtain ⟨V_y, hV⟩ : ∃ V_, V_ = w3.alloc (.cells #[.int .i64 y1, .int .i64 y2] 31) := ⟨_, rfl⟩
            have hbv : Below w3.heap.size w3 V_y := by rw [hV]; exact (Below.refl _ _).alloc (Nat.le_refl _) _
            have n_t := Lib.hid (Hand.kb hbv g_t.out)
            have n_x := Lib.hid (Hand.kb hbv g_x.out)
            have n_b := Lib.hid (Hand.kb hbv g_b.out)
            have nB := Lib.hid (Hand.stepB hbv HBC.out (Nat.le_refl _))
            have n0 := Lib.hid (show V_y.heap[w3.heap.size]? = some (.cells #[.int .i64 y1, .int .i64 y2] 31 (0, 0)) from by rw [hV]; exact Hand.q3 _ _ _ rfl)
            clear g_t
            have g_t := n_t
            clear n_t
            clear g_x
            have g_x := n_x
            clear n_x
            clear g_b
            have g_b := n_b
            clear n_b
            clear HBC
            have HBC := nB
            clear nB
            have g_y := n0
            clear n0 hbv
            by_cases h_e3 : e3 = 0
            · have j_e3 : (e3 == 0) = true := by simpa using h_e3
              have F3 := Lib.hid (fun (u : World) => (by have := fine6_any e3 u; rw [j_e3] at this; exact this : Calls Try.prog 14 #[.int .i64 e3] u fun r w' => r = .returned (.bool true) ∧ w' = u))
              clear j_e3
              subst h_e3
              go_wp2_with fail
              rw [← hV]
              clear hV
              with_reducible refine (FE.out _).mono ?_
              rintro e_ v3 ⟨rfl, rfl⟩
              go_wp2_with fail
              with_reducible refine (F3.out _).mono ?_
              rintro e_ v4 ⟨rfl, rfl⟩
              obtain ⟨c_t0, f_t0, c_t1, f_t1⟩ := Hand.hc2 g_t.out
              go_wp2_with fail
              clear c_t0 f_t0 c_t1 f_t1
              with_reducible refine (M4.out _ (H_ho.out.below HBC.out)).mono ?_
              rintro e_ w4 ⟨rfl, hb⟩
              have n_t := Lib.hid (Hand.kb hb g_t.out)
              have n_x := Lib.hid (Hand.kb hb g_x.out)
              have n_b := Lib.hid (Hand.kb hb g_b.out)
              have n_y := Lib.hid (Hand.kb hb g_y.out)
              have nB := Lib.hid (Hand.stepB hb HBC.out (Nat.le_refl _))
              clear g_t
              have g_t := n_t
              clear n_t
              clear g_x
              have g_x := n_x
              clear n_x
              clear g_b
              have g_b := n_b
              clear n_b
              clear g_y
              have g_y := n_y
              clear n_y
              clear HBC
              have HBC := nB
              clear nB
              clear hb
              obtain ⟨V_z, hV⟩ : ∃ V_, V_ = w4.alloc (.cells #[.int .i64 r1, .int .i64 r2] 31) := ⟨_, rfl⟩
              have hbv : Below w4.heap.size w4 V_z := by rw [hV]; exact (Below.refl _ _).alloc (Nat.le_refl _) _
              have n_t := Lib.hid (Hand.kb hbv g_t.out)
              have n_x := Lib.hid (Hand.kb hbv g_x.out)
              have n_b := Lib.hid (Hand.kb hbv g_b.out)
              have n_y := Lib.hid (Hand.kb hbv g_y.out)
              have nB := Lib.hid (Hand.stepB hbv HBC.out (Nat.le_refl _))
              have n0 := Lib.hid (show V_z.heap[w4.heap.size]? = some (.cells #[.int .i64 r1, .int .i64 r2] 31 (0, 0)) from by rw [hV]; exact Hand.q3 _ _ _ rfl)
              clear g_t
              have g_t := n_t
              clear n_t
              clear g_x
              have g_x := n_x
              clear n_x
              clear g_b
              have g_b := n_b
              clear n_b
              clear g_y
              have g_y := n_y
              clear n_y
              clear HBC
              have HBC := nB
              clear nB
              have g_z := n0
              clear n0 hbv
              by_cases h_e4 : e4 = 0
              · have j_e4 : (e4 == 0) = true := by simpa using h_e4
                have F4 := Lib.hid (fun (u : World) => (by have := fine6_any e4 u; rw [j_e4] at this; exact this : Calls Try.prog 14 #[.int .i64 e4] u fun r w' => r = .returned (.bool true) ∧ w' = u))
                clear j_e4
                have hz := then_app H_hM.out H_hN.out H_hO.out HX.out HY.out (HZ.out.trans (by rw [h_e4]))
                cases hz
                clear h_e4
                obtain ⟨c_z0, f_z0, c_z1, f_z1⟩ := Hand.hc2 g_z.out
                obtain ⟨c_y0, f_y0, c_y1, f_y1⟩ := Hand.hc2 g_y.out
                go_wp2_with fail
                rw [← hV]
                clear hV
                with_reducible refine (F4.out _).mono ?_
                rintro e_ v5 ⟨rfl, rfl⟩
                go_wp2_with fail
                clear c_z0 f_z0 c_z1 f_z1 c_y0 f_y0 c_y1 f_y1
                with_reducible refine (M5.out _ (H_ho.out.below HBC.out)).mono ?_
                rintro e_ w5 ⟨rfl, hb⟩
                have n_t := Lib.hid (Hand.kb hb g_t.out)
                have n_x := Lib.hid (Hand.kb hb g_x.out)
                have n_b := Lib.hid (Hand.kb hb g_b.out)
                have n_y := Lib.hid (Hand.kb hb g_y.out)
                have n_z := Lib.hid (Hand.kb hb g_z.out)
                have nB := Lib.hid (Hand.stepB hb HBC.out (Nat.le_refl _))
                clear g_t
                have g_t := n_t
                clear n_t
                clear g_x
                have g_x := n_x
                clear n_x
                clear g_b
                have g_b := n_b
                clear n_b
                clear g_y
                have g_y := n_y
                clear n_y
                clear g_z
                have g_z := n_z
                clear n_z
                clear HBC
                have HBC := nB
                clear nB
                clear hb
                by_cases h_e5 : e5 = 0
                · have j_e5 : (e5 == 0) = true := by simpa using h_e5
                  have F5 := Lib.hid (fun (u : World) => (by have := fine6_any e5 u; rw [j_e5] at this; exact this : Calls Try.prog 14 #[.int .i64 e5] u fun r w' => r = .returned (.bool true) ∧ w' = u))
                  clear j_e5
                  have hs := then_undo H_hM.out H_hN.out H_hO.out HX.out HY.out (HS.out.trans (by rw [h_e5]))
                  cases hs
                  clear h_e5
                  obtain ⟨c_t0, f_t0, c_t1, f_t1⟩ := Hand.hc2 g_t.out
                  obtain ⟨c_b0, f_b0, c_b1, f_b1⟩ := Hand.hc2 g_b.out
                  have ne1 : (w2.heap.size = wr.heap.size) = False := eq_false (by omega)
                  have ne2 : (wr.heap.size = w2.heap.size) = False := eq_false (by omega)
                  have hsz := HBC.out.size
                  have hszb : W.heap.size ≤ w2.heap.size := by omega
                  go_wp2_with fail
                  with_reducible refine (F5.out _).mono ?_
                  rintro e_ v6 ⟨rfl, rfl⟩
                  go_wp2
                  go_roundw
                  case rel => exact ⟨j + 1, by omega, by rw [Int.natCast_add]; rfl, (by repeat (with_reducible first | exact HBC.out | refine Below.setCell ?_ (by dsimp only; omega) _))⟩
                  case measure => simp [intOf]; omega
                · have j_e5 : (e5 == 0) = false := by simpa using h_e5
                  have F5 := Lib.hid (fun (u : World) => (by have := fine6_any e5 u; rw [j_e5] at this; exact this : Calls Try.prog 14 #[.int .i64 e5] u fun r w' => r = .returned (.bool false) ∧ w' = u))
                  clear j_e5
                  clear h_e5
                  obtain ⟨c_t0, f_t0, c_t1, f_t1⟩ := Hand.hc2 g_t.out
                  obtain ⟨c_b0, f_b0, c_b1, f_b1⟩ := Hand.hc2 g_b.out
                  have ne1 : (w2.heap.size = wr.heap.size) = False := eq_false (by omega)
                  have ne2 : (wr.heap.size = w2.heap.size) = False := eq_false (by omega)
                  have hsz := HBC.out.size
                  have hszb : W.heap.size ≤ w2.heap.size := by omega
                  go_wp2_with fail
                  with_reducible refine (F5.out _).mono ?_
                  rintro e_ v6 ⟨rfl, rfl⟩
                  go_wp2
                  go_roundw
                  case rel => exact ⟨j + 1, by omega, by rw [Int.natCast_add]; rfl, (by repeat (with_reducible first | exact HBC.out | refine Below.setCell ?_ (by dsimp only; omega) _))⟩
                  case measure => simp [intOf]; omega
              · have j_e4 : (e4 == 0) = false := by simpa using h_e4
                have F4 := Lib.hid (fun (u : World) => (by have := fine6_any e4 u; rw [j_e4] at this; exact this : Calls Try.prog 14 #[.int .i64 e4] u fun r w' => r = .returned (.bool false) ∧ w' = u))
                clear j_e4
                clear h_e4
                obtain ⟨c_z0, f_z0, c_z1, f_z1⟩ := Hand.hc2 g_z.out
                obtain ⟨c_y0, f_y0, c_y1, f_y1⟩ := Hand.hc2 g_y.out
                go_wp2_with fail
                rw [← hV]
                clear hV
                with_reducible refine (F4.out _).mono ?_
                rintro e_ v5 ⟨rfl, rfl⟩
                go_wp2_with fail
                clear c_z0 f_z0 c_z1 f_z1 c_y0 f_y0 c_y1 f_y1
                with_reducible refine (M5.out _ (H_ho.out.below HBC.out)).mono ?_
                rintro e_ w5 ⟨rfl, hb⟩
                have n_t := Lib.hid (Hand.kb hb g_t.out)
                have n_x := Lib.hid (Hand.kb hb g_x.out)
                have n_b := Lib.hid (Hand.kb hb g_b.out)
                have n_y := Lib.hid (Hand.kb hb g_y.out)
                have n_z := Lib.hid (Hand.kb hb g_z.out)
                have nB := Lib.hid (Hand.stepB hb HBC.out (Nat.le_refl _))
                clear g_t
                have g_t := n_t
                clear n_t
                clear g_x
                have g_x := n_x
                clear n_x
                clear g_b
                have g_b := n_b
                clear n_b
                clear g_y
                have g_y := n_y
                clear n_y
                clear g_z
                have g_z := n_z
                clear n_z
                clear HBC
                have HBC := nB
                clear nB
                clear hb
                by_cases h_e5 : e5 = 0
                · have j_e5 : (e5 == 0) = true := by simpa using h_e5
                  have F5 := Lib.hid (fun (u : World) => (by have := fine6_any e5 u; rw [j_e5] at this; exact this : Calls Try.prog 14 #[.int .i64 e5] u fun r w' => r = .returned (.bool true) ∧ w' = u))
                  clear j_e5
                  have hs := then_undo H_hM.out H_hN.out H_hO.out HX.out HY.out (HS.out.trans (by rw [h_e5]))
                  cases hs
                  clear h_e5
                  obtain ⟨c_t0, f_t0, c_t1, f_t1⟩ := Hand.hc2 g_t.out
                  obtain ⟨c_b0, f_b0, c_b1, f_b1⟩ := Hand.hc2 g_b.out
                  have ne1 : (w2.heap.size = wr.heap.size) = False := eq_false (by omega)
                  have ne2 : (wr.heap.size = w2.heap.size) = False := eq_false (by omega)
                  have hsz := HBC.out.size
                  have hszb : W.heap.size ≤ w2.heap.size := by omega
                  go_wp2_with fail
                  with_reducible refine (F5.out _).mono ?_
                  rintro e_ v6 ⟨rfl, rfl⟩
                  go_wp2
                  go_roundw
                  case rel => exact ⟨j + 1, by omega, by rw [Int.natCast_add]; rfl, (by repeat (with_reducible first | exact HBC.out | refine Below.setCell ?_ (by dsimp only; omega) _))⟩
                  case measure => simp [intOf]; omega
                · have j_e5 : (e5 == 0) = false := by simpa using h_e5
                  have F5 := Lib.hid (fun (u : World) => (by have := fine6_any e5 u; rw [j_e5] at this; exact this : Calls Try.prog 14 #[.int .i64 e5] u fun r w' => r = .returned (.bool false) ∧ w' = u))
                  clear j_e5
                  clear h_e5
                  obtain ⟨c_t0, f_t0, c_t1, f_t1⟩ := Hand.hc2 g_t.out
                  obtain ⟨c_b0, f_b0, c_b1, f_b1⟩ := Hand.hc2 g_b.out
                  have ne1 : (w2.heap.size = wr.heap.size) = False := eq_false (by omega)
                  have ne2 : (wr.heap.size = w2.heap.size) = False := eq_false (by omega)
                  have hsz := HBC.out.size
                  have hszb : W.heap.size ≤ w2.heap.size := by omega
                  go_wp2_with fail
                  with_reducible refine (F5.out _).mono ?_
                  rintro e_ v6 ⟨rfl, rfl⟩
                  go_wp2
                  go_roundw
                  case rel => exact ⟨j + 1, by omega, by rw [Int.natCast_add]; rfl, (by repeat (with_reducible first | exact HBC.out | refine Below.setCell ?_ (by dsimp only; omega) _))⟩
                  case measure => simp [intOf]; omega
            · have j_e3 : (e3 == 0) = false := by simpa using h_e3
              have F3 := Lib.hid (fun (u : World) => (by have := fine6_any e3 u; rw [j_e3] at this; exact this : Calls Try.prog 14 #[.int .i64 e3] u fun r w' => r = .returned (.bool false) ∧ w' = u))
              clear j_e3
              clear h_e3
              go_wp2_with fail
              rw [← hV]
              clear hV
              with_reducible refine (FE.out _).mono ?_
              rintro e_ v3 ⟨rfl, rfl⟩
              go_wp2_with fail
              with_reducible refine (F3.out _).mono ?_
              rintro e_ v4 ⟨rfl, rfl⟩
              go_wp2
              go_roundw
              case rel => exact ⟨j + 1, by omega, by rw [Int.natCast_add]; rfl, HBC.out⟩
              case measure => simp [intOf]; omega
          · have j_e2 : (e2 == 0) = false := by simpa using h_e2
            have F2 := Lib.hid (fun (u : World) => (by have := fine6_any e2 u; rw [j_e2] at this; exact this : Calls Try.prog 14 #[.int .i64 e2] u fun r w' => r = .returned (.bool false) ∧ w' = u))
            clear j_e2
            clear h_e2
            obtain ⟨c_b0, f_b0, c_b1, f_b1⟩ := Hand.hc2 g_b.out
            obtain ⟨c_t0, f_t0, c_t1, f_t1⟩ := Hand.hc2 g_t.out
            obtain ⟨c_x0, f_x0, c_x1, f_x1⟩ := Hand.hc2 g_x.out
            go_wp2_with fail
            rw [← hV]
            clear hV
            with_reducible refine (F2.out _).mono ?_
            rintro e_ v2 ⟨rfl, rfl⟩
            go_wp2_with fail
            clear c_b0 f_b0 c_b1 f_b1 c_t0 f_t0 c_t1 f_t1 c_x0 f_x0 c_x1 f_x1
            with_reducible refine (M3.out _ (H_hn.out.below HBC.out)).mono ?_
            rintro e_ w3 ⟨rfl, hb⟩
            have n_t := Lib.hid (Hand.kb hb g_t.out)
            have n_x := Lib.hid (Hand.kb hb g_x.out)
            have n_b := Lib.hid (Hand.kb hb g_b.out)
            have nB := Lib.hid (Hand.stepB hb HBC.out (Nat.le_refl _))
            clear g_t
            have g_t := n_t
            clear n_t
            clear g_x
            have g_x := n_x
            clear n_x
            clear g_b
            have g_b := n_b
            clear n_b
            clear HBC
            have HBC := nB
            clear nB
            clear hb
            obtain ⟨V_y, hV⟩ : ∃ V_, V_ = w3.alloc (.cells #[.int .i64 y1, .int .i64 y2] 31) := ⟨_, rfl⟩
            have hbv : Below w3.heap.size w3 V_y := by rw [hV]; exact (Below.refl _ _).alloc (Nat.le_refl _) _
            have n_t := Lib.hid (Hand.kb hbv g_t.out)
            have n_x := Lib.hid (Hand.kb hbv g_x.out)
            have n_b := Lib.hid (Hand.kb hbv g_b.out)
            have nB := Lib.hid (Hand.stepB hbv HBC.out (Nat.le_refl _))
            have n0 := Lib.hid (show V_y.heap[w3.heap.size]? = some (.cells #[.int .i64 y1, .int .i64 y2] 31 (0, 0)) from by rw [hV]; exact Hand.q3 _ _ _ rfl)
            clear g_t
            have g_t := n_t
            clear n_t
            clear g_x
            have g_x := n_x
            clear n_x
            clear g_b
            have g_b := n_b
            clear n_b
            clear HBC
            have HBC := nB
            clear nB
            have g_y := n0
            clear n0 hbv
            by_cases h_e3 : e3 = 0
            · have j_e3 : (e3 == 0) = true := by simpa using h_e3
              have F3 := Lib.hid (fun (u : World) => (by have := fine6_any e3 u; rw [j_e3] at this; exact this : Calls Try.prog 14 #[.int .i64 e3] u fun r w' => r = .returned (.bool true) ∧ w' = u))
              clear j_e3
              subst h_e3
              go_wp2_with fail
              rw [← hV]
              clear hV
              with_reducible refine (FE.out _).mono ?_
              rintro e_ v3 ⟨rfl, rfl⟩
              go_wp2_with fail
              with_reducible refine (F3.out _).mono ?_
              rintro e_ v4 ⟨rfl, rfl⟩
              obtain ⟨c_t0, f_t0, c_t1, f_t1⟩ := Hand.hc2 g_t.out
              go_wp2_with fail
              clear c_t0 f_t0 c_t1 f_t1
              with_reducible refine (M4.out _ (H_ho.out.below HBC.out)).mono ?_
              rintro e_ w4 ⟨rfl, hb⟩
              have n_t := Lib.hid (Hand.kb hb g_t.out)
              have n_x := Lib.hid (Hand.kb hb g_x.out)
              have n_b := Lib.hid (Hand.kb hb g_b.out)
              have n_y := Lib.hid (Hand.kb hb g_y.out)
              have nB := Lib.hid (Hand.stepB hb HBC.out (Nat.le_refl _))
              clear g_t
              have g_t := n_t
              clear n_t
              clear g_x
              have g_x := n_x
              clear n_x
              clear g_b
              have g_b := n_b
              clear n_b
              clear g_y
              have g_y := n_y
              clear n_y
              clear HBC
              have HBC := nB
              clear nB
              clear hb
              obtain ⟨V_z, hV⟩ : ∃ V_, V_ = w4.alloc (.cells #[.int .i64 r1, .int .i64 r2] 31) := ⟨_, rfl⟩
              have hbv : Below w4.heap.size w4 V_z := by rw [hV]; exact (Below.refl _ _).alloc (Nat.le_refl _) _
              have n_t := Lib.hid (Hand.kb hbv g_t.out)
              have n_x := Lib.hid (Hand.kb hbv g_x.out)
              have n_b := Lib.hid (Hand.kb hbv g_b.out)
              have n_y := Lib.hid (Hand.kb hbv g_y.out)
              have nB := Lib.hid (Hand.stepB hbv HBC.out (Nat.le_refl _))
              have n0 := Lib.hid (show V_z.heap[w4.heap.size]? = some (.cells #[.int .i64 r1, .int .i64 r2] 31 (0, 0)) from by rw [hV]; exact Hand.q3 _ _ _ rfl)
              clear g_t
              have g_t := n_t
              clear n_t
              clear g_x
              have g_x := n_x
              clear n_x
              clear g_b
              have g_b := n_b
              clear n_b
              clear g_y
              have g_y := n_y
              clear n_y
              clear HBC
              have HBC := nB
              clear nB
              have g_z := n0
              clear n0 hbv
              by_cases h_e4 : e4 = 0
              · have j_e4 : (e4 == 0) = true := by simpa using h_e4
                have F4 := Lib.hid (fun (u : World) => (by have := fine6_any e4 u; rw [j_e4] at this; exact this : Calls Try.prog 14 #[.int .i64 e4] u fun r w' => r = .returned (.bool true) ∧ w' = u))
                clear j_e4
                have hz := then_app H_hM.out H_hN.out H_hO.out HX.out HY.out (HZ.out.trans (by rw [h_e4]))
                cases hz
                clear h_e4
                obtain ⟨c_z0, f_z0, c_z1, f_z1⟩ := Hand.hc2 g_z.out
                obtain ⟨c_y0, f_y0, c_y1, f_y1⟩ := Hand.hc2 g_y.out
                go_wp2_with fail
                rw [← hV]
                clear hV
                with_reducible refine (F4.out _).mono ?_
                rintro e_ v5 ⟨rfl, rfl⟩
                go_wp2_with fail
                clear c_z0 f_z0 c_z1 f_z1 c_y0 f_y0 c_y1 f_y1
                with_reducible refine (M5.out _ (H_ho.out.below HBC.out)).mono ?_
                rintro e_ w5 ⟨rfl, hb⟩
                have n_t := Lib.hid (Hand.kb hb g_t.out)
                have n_x := Lib.hid (Hand.kb hb g_x.out)
                have n_b := Lib.hid (Hand.kb hb g_b.out)
                have n_y := Lib.hid (Hand.kb hb g_y.out)
                have n_z := Lib.hid (Hand.kb hb g_z.out)
                have nB := Lib.hid (Hand.stepB hb HBC.out (Nat.le_refl _))
                clear g_t
                have g_t := n_t
                clear n_t
                clear g_x
                have g_x := n_x
                clear n_x
                clear g_b
                have g_b := n_b
                clear n_b
                clear g_y
                have g_y := n_y
                clear n_y
                clear g_z
                have g_z := n_z
                clear n_z
                clear HBC
                have HBC := nB
                clear nB
                clear hb
                by_cases h_e5 : e5 = 0
                · have j_e5 : (e5 == 0) = true := by simpa using h_e5
                  have F5 := Lib.hid (fun (u : World) => (by have := fine6_any e5 u; rw [j_e5] at this; exact this : Calls Try.prog 14 #[.int .i64 e5] u fun r w' => r = .returned (.bool true) ∧ w' = u))
                  clear j_e5
                  have hs := then_undo H_hM.out H_hN.out H_hO.out HX.out HY.out (HS.out.trans (by rw [h_e5]))
                  cases hs
                  clear h_e5
                  obtain ⟨c_t0, f_t0, c_t1, f_t1⟩ := Hand.hc2 g_t.out
                  obtain ⟨c_b0, f_b0, c_b1, f_b1⟩ := Hand.hc2 g_b.out
                  have ne1 : (w2.heap.size = wr.heap.size) = False := eq_false (by omega)
                  have ne2 : (wr.heap.size = w2.heap.size) = False := eq_false (by omega)
                  have hsz := HBC.out.size
                  have hszb : W.heap.size ≤ w2.heap.size := by omega
                  go_wp2_with fail
                  with_reducible refine (F5.out _).mono ?_
                  rintro e_ v6 ⟨rfl, rfl⟩
                  go_wp2
                  go_roundw
                  case rel => exact ⟨j + 1, by omega, by rw [Int.natCast_add]; rfl, (by repeat (with_reducible first | exact HBC.out | refine Below.setCell ?_ (by dsimp only; omega) _))⟩
                  case measure => simp [intOf]; omega
                · have j_e5 : (e5 == 0) = false := by simpa using h_e5
                  have F5 := Lib.hid (fun (u : World) => (by have := fine6_any e5 u; rw [j_e5] at this; exact this : Calls Try.prog 14 #[.int .i64 e5] u fun r w' => r = .returned (.bool false) ∧ w' = u))
                  clear j_e5
                  clear h_e5
                  obtain ⟨c_t0, f_t0, c_t1, f_t1⟩ := Hand.hc2 g_t.out
                  obtain ⟨c_b0, f_b0, c_b1, f_b1⟩ := Hand.hc2 g_b.out
                  have ne1 : (w2.heap.size = wr.heap.size) = False := eq_false (by omega)
                  have ne2 : (wr.heap.size = w2.heap.size) = False := eq_false (by omega)
                  have hsz := HBC.out.size
                  have hszb : W.heap.size ≤ w2.heap.size := by omega
                  go_wp2_with fail
                  with_reducible refine (F5.out _).mono ?_
                  rintro e_ v6 ⟨rfl, rfl⟩
                  go_wp2
                  go_roundw
                  case rel => exact ⟨j + 1, by omega, by rw [Int.natCast_add]; rfl, (by repeat (with_reducible first | exact HBC.out | refine Below.setCell ?_ (by dsimp only; omega) _))⟩
                  case measure => simp [intOf]; omega
              · have j_e4 : (e4 == 0) = false := by simpa using h_e4
                have F4 := Lib.hid (fun (u : World) => (by have := fine6_any e4 u; rw [j_e4] at this; exact this : Calls Try.prog 14 #[.int .i64 e4] u fun r w' => r = .returned (.bool false) ∧ w' = u))
                clear j_e4
                clear h_e4
                obtain ⟨c_z0, f_z0, c_z1, f_z1⟩ := Hand.hc2 g_z.out
                obtain ⟨c_y0, f_y0, c_y1, f_y1⟩ := Hand.hc2 g_y.out
                go_wp2_with fail
                rw [← hV]
                clear hV
                with_reducible refine (F4.out _).mono ?_
                rintro e_ v5 ⟨rfl, rfl⟩
                go_wp2_with fail
                clear c_z0 f_z0 c_z1 f_z1 c_y0 f_y0 c_y1 f_y1
                with_reducible refine (M5.out _ (H_ho.out.below HBC.out)).mono ?_
                rintro e_ w5 ⟨rfl, hb⟩
                have n_t := Lib.hid (Hand.kb hb g_t.out)
                have n_x := Lib.hid (Hand.kb hb g_x.out)
                have n_b := Lib.hid (Hand.kb hb g_b.out)
                have n_y := Lib.hid (Hand.kb hb g_y.out)
                have n_z := Lib.hid (Hand.kb hb g_z.out)
                have nB := Lib.hid (Hand.stepB hb HBC.out (Nat.le_refl _))
                clear g_t
                have g_t := n_t
                clear n_t
                clear g_x
                have g_x := n_x
                clear n_x
                clear g_b
                have g_b := n_b
                clear n_b
                clear g_y
                have g_y := n_y
                clear n_y
                clear g_z
                have g_z := n_z
                clear n_z
                clear HBC
                have HBC := nB
                clear nB
                clear hb
                by_cases h_e5 : e5 = 0
                · have j_e5 : (e5 == 0) = true := by simpa using h_e5
                  have F5 := Lib.hid (fun (u : World) => (by have := fine6_any e5 u; rw [j_e5] at this; exact this : Calls Try.prog 14 #[.int .i64 e5] u fun r w' => r = .returned (.bool true) ∧ w' = u))
                  clear j_e5
                  have hs := then_undo H_hM.out H_hN.out H_hO.out HX.out HY.out (HS.out.trans (by rw [h_e5]))
                  cases hs
                  clear h_e5
                  obtain ⟨c_t0, f_t0, c_t1, f_t1⟩ := Hand.hc2 g_t.out
                  obtain ⟨c_b0, f_b0, c_b1, f_b1⟩ := Hand.hc2 g_b.out
                  have ne1 : (w2.heap.size = wr.heap.size) = False := eq_false (by omega)
                  have ne2 : (wr.heap.size = w2.heap.size) = False := eq_false (by omega)
                  have hsz := HBC.out.size
                  have hszb : W.heap.size ≤ w2.heap.size := by omega
                  go_wp2_with fail
                  with_reducible refine (F5.out _).mono ?_
                  rintro e_ v6 ⟨rfl, rfl⟩
                  go_wp2
                  go_roundw
                  case rel => exact ⟨j + 1, by omega, by rw [Int.natCast_add]; rfl, (by repeat (with_reducible first | exact HBC.out | refine Below.setCell ?_ (by dsimp only; omega) _))⟩
                  case measure => simp [intOf]; omega
                · have j_e5 : (e5 == 0) = false := by simpa using h_e5
                  have F5 := Lib.hid (fun (u : World) => (by have := fine6_any e5 u; rw [j_e5] at this; exact this : Calls Try.prog 14 #[.int .i64 e5] u fun r w' => r = .returned (.bool false) ∧ w' = u))
                  clear j_e5
                  clear h_e5
                  obtain ⟨c_t0, f_t0, c_t1, f_t1⟩ := Hand.hc2 g_t.out
                  obtain ⟨c_b0, f_b0, c_b1, f_b1⟩ := Hand.hc2 g_b.out
                  have ne1 : (w2.heap.size = wr.heap.size) = False := eq_false (by omega)
                  have ne2 : (wr.heap.size = w2.heap.size) = False := eq_false (by omega)
                  have hsz := HBC.out.size
                  have hszb : W.heap.size ≤ w2.heap.size := by omega
                  go_wp2_with fail
                  with_reducible refine (F5.out _).mono ?_
                  rintro e_ v6 ⟨rfl, rfl⟩
                  go_wp2
                  go_roundw
                  case rel => exact ⟨j + 1, by omega, by rw [Int.natCast_add]; rfl, (by repeat (with_reducible first | exact HBC.out | refine Below.setCell ?_ (by dsimp only; omega) _))⟩
                  case measure => simp [intOf]; omega
            · have j_e3 : (e3 == 0) = false := by simpa using h_e3
              have F3 := Lib.hid (fun (u : World) => (by have := fine6_any e3 u; rw [j_e3] at this; exact this : Calls Try.prog 14 #[.int .i64 e3] u fun r w' => r = .returned (.bool false) ∧ w' = u))
              clear j_e3
              clear h_e3
              go_wp2_with fail
              rw [← hV]
              clear hV
              with_reducible refine (FE.out _).mono ?_
              rintro e_ v3 ⟨rfl, rfl⟩
              go_wp2_with fail
              with_reducible refine (F3.out _).mono ?_
              rintro e_ v4 ⟨rfl, rfl⟩
              go_wp2
              go_roundw
              case rel => exact ⟨j + 1, by omega, by rw [Int.natCast_add]; rfl, HBC.out⟩
              case measure => simp [intOf]; omega
        · have j_e1 : (e1 == 0) = false := by simpa using h_e1
          have F1 := Lib.hid (fun (u : World) => (by have := fine6_any e1 u; rw [j_e1] at this; exact this : Calls Try.prog 14 #[.int .i64 e1] u fun r w' => r = .returned (.bool false) ∧ w' = u))
          clear j_e1
          clear h_e1
          go_wp2_with fail
          rw [← hV]
          clear hV
          with_reducible refine (F1.out _).mono ?_
          rintro e_ v1 ⟨rfl, rfl⟩
          go_wp2
          go_roundw
          case rel => exact ⟨j + 1, by omega, by rw [Int.natCast_add]; rfl, HBC.out⟩
          case measure => simp [intOf]; omega
      · have p1 : ((j : Int) < (nt : Int)) = False := eq_false (by omega)
        go_wp2
        refine HK10.out _ _ ?_
        conv => arg 2; whnf
        go_wp2
        go_ret
        exact ⟨rfl, H_hB.out.trans (Below.mono HBC.out H_hB.out.size)⟩
end Go.Proofs.Ythlpaglldhgmfaa.PA
