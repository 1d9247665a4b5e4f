/- Chapter 6: RetimeOwn, walked: the last looks, rows written over. -/
import Derived.Test.YthlpaglldhgmfaaOw6h
import Derived.StillTailTactics
namespace Go.Proofs.Ythlpaglldhgmfaa.PA
open Go Go.RowKit Go.Proofs.YthlpaglldhgmfaaW.PrintWords Go.Proofs.YthlpaglldhgmfaaW.PrintLast Go.Proofs.YthlpaglldhgmfaaW.PrintMore
attribute [local go_sem high] eqA31 eqA35
set_option linter.unusedSimpArgs false
set_option linter.unusedVariables false
noncomputable def ownT1 : Code := sndC (Try.f6.body.getD .skip)
noncomputable def ownT2 : Code := sndC ownT1
noncomputable def ownT3 : Code := sndC ownT2
noncomputable def ownT4 : Code := sndC ownT3
noncomputable def ownT5 : Code := sndC ownT4
noncomputable def ownT6 : Code := sndC ownT5
noncomputable def ownT7 : Code := sndC ownT6
noncomputable def ownT8 : Code := sndC ownT7
noncomputable def ownT9 : Code := sndC ownT8
noncomputable def ownT10 : Code := sndC ownT9
noncomputable def ownT11 : Code := sndC ownT10
noncomputable def ownT12 : Code := sndC ownT11
noncomputable def ownT13 : Code := sndC ownT12
noncomputable def ownT14 : Code := sndC ownT13
noncomputable def ownT15 : Code := sndC ownT14
noncomputable def ownT16 : Code := sndC ownT15
noncomputable def ownT17 : Code := sndC ownT16
noncomputable def ownT18 : Code := sndC ownT17
noncomputable def ownT19 : Code := sndC ownT18
theorem ownE1 : ownT1 = .seq (fstC ownT1) ownT2 := by kernel_rfl
theorem ownE2 : ownT2 = .seq (fstC ownT2) ownT3 := by kernel_rfl
theorem ownE3 : ownT3 = .seq (fstC ownT3) ownT4 := by kernel_rfl
theorem ownE4 : ownT4 = .seq (fstC ownT4) ownT5 := by kernel_rfl
theorem ownE5 : ownT5 = .seq (fstC ownT5) ownT6 := by kernel_rfl
theorem ownE6 : ownT6 = .seq (fstC ownT6) ownT7 := by kernel_rfl
theorem ownE7 : ownT7 = .seq (fstC ownT7) ownT8 := by kernel_rfl
theorem ownE8 : ownT8 = .seq (fstC ownT8) ownT9 := by kernel_rfl
theorem ownE9 : ownT9 = .seq (fstC ownT9) ownT10 := by kernel_rfl
theorem ownE10 : ownT10 = .seq (fstC ownT10) ownT11 := by kernel_rfl
theorem ownE11 : ownT11 = .seq (fstC ownT11) ownT12 := by kernel_rfl
theorem ownE12 : ownT12 = .seq (fstC ownT12) ownT13 := by kernel_rfl
theorem ownE13 : ownT13 = .seq (fstC ownT13) ownT14 := by kernel_rfl
theorem ownE14 : ownT14 = .seq (fstC ownT14) ownT15 := by kernel_rfl
theorem ownE15 : ownT15 = .seq (fstC ownT15) ownT16 := by kernel_rfl
theorem ownE16 : ownT16 = .seq (fstC ownT16) ownT17 := by kernel_rfl
theorem ownE17 : ownT17 = .seq (fstC ownT17) ownT18 := by kernel_rfl
theorem ownE18 : ownT18 = .seq (fstC ownT18) ownT19 := by kernel_rfl
theorem ownE0 : Try.f6.body.getD .skip = .seq (fstC (Try.f6.body.getD .skip)) ownT1 := by kernel_rfl
set_option maxHeartbeats 4000000 in
set_option maxRecDepth 100000 in
theorem own_f (w W : World) (ys : List Rt) {z0 z1 z2 z3 z4 z5 z6 z7 z8 z9 z10 z11 z12 z13 z14 z16 z17 z18 z19 z21 z22 z23 z24 z25 z26 z27 z28 z29 z30 z31 z32 z33 z34 z35 z36 z37 z38 z39 z40 z41 z42 z43 z44 z45 z46 z47 z48 z49 z50 z51 z52 z53 z54 z55 z56 z57 z58 z59 z60 z61 z62 z63 z64 z65 z66 z67 z68 z69 z70 z71 z72 z73 z74 z75 z76 z77 z78 z79 z80 z81 z82 z83 z84 z85 z86 z87 z88 z89 z90 z91 z92 z93 z94 z95 z96 z97 z98 z99 z100 z101 z102 z103 z104 z105 z106 z107 z108 z109 z110 z111 z112 z113 z114 z115 z116 z117 z118 z119 z120 z121 z122 z123 z124 z125 z126 z127 z128 z129 z130 z131 z132 z133 z134 z135 z136 z137 z138 z139 z140 z141 z142 z143 z144 z145 z146 z147 z148 z149 z150 z151 z152 z153 z154 z155 z156 z157 z158 z159 : Value} {Ay Az : Option Addr} {cy cz : Nat} (hy : RtS W Ay ys) (hz : RtS W Az ys) (hl : ys.length ≤ 300) (hB : Below w.heap.size w W) :
    ownT18.wp Try.prog (bodyPost Try.prog Try.f6 (fun e w' => e = .returned (.bool true) ∧ Below w.heap.size w w')) ⟨#[z0, z1, z2, z3, z4, z5, z6, z7, z8, z9, z10, z11, z12, z13, z14, .slice Ay ys.length cy, z16, z17, z18, z19, .slice Az ys.length cz, z21, z22, z23, z24, z25, z26, z27, z28, z29, z30, z31, z32, z33, z34, z35, z36, z37, z38, z39, z40, z41, z42, z43, z44, z45, z46, z47, z48, z49, z50, z51, z52, z53, z54, z55, z56, z57, z58, z59, z60, z61, z62, z63, z64, z65, z66, z67, z68, z69, z70, z71, z72, z73, z74, z75, z76, z77, z78, z79, z80, z81, z82, z83, z84, z85, z86, z87, z88, z89, z90, z91, z92, z93, z94, z95, z96, z97, z98, z99, z100, z101, z102, z103, z104, z105, z106, z107, z108, z109, z110, z111, z112, z113, z114, z115, z116, z117, z118, z119, z120, z121, z122, z123, z124, z125, z126, z127, z128, z129, z130, z131, z132, z133, z134, z135, z136, z137, z138, z139, z140, z141, z142, z143, z144, z145, z146, z147, z148, z149, z150, z151, z152, z153, z154, z155, z156, z157, z158, z159], []⟩ W := by
  have HB := Lib.hid hB
  have HY := Lib.hid (rts_lt hy)
  have HZ := Lib.hid (rts_lt hz)
  clear hB hy hz
  rcases HY.out with rfl | ⟨ay, rfl, _, hya⟩
  · rw [ownE18]
    refine wp_seq_k (fun K18 hK18 => ?_)
    have HK18 := Lib.hid hK18
    clear hK18
    conv => arg 2; whnf
    go_wp2_with fail
    go_loopw [23] (fun i wr => i = .int .i64 0 ∧ W = wr) (fun _ _ => 0)
    case atStart => exact ⟨rfl, rfl⟩
    case round =>
      obtain ⟨rfl, rfl⟩ := hrel
      go_wp2
      refine HK18.out _ _ ?_
      conv => arg 2; whnf
      go_wp2
      go_ret
      exact ⟨rfl, HB.out⟩
  · rcases HZ.out with rfl | ⟨az, rfl, _, hza⟩
    · rw [ownE18]
      refine wp_seq_k (fun K18 hK18 => ?_)
      have HK18 := Lib.hid hK18
      clear hK18
      conv => arg 2; whnf
      go_wp2_with fail
      go_loopw [23] (fun i wr => i = .int .i64 0 ∧ W = wr) (fun _ _ => 0)
      case atStart => exact ⟨rfl, rfl⟩
      case round =>
        obtain ⟨rfl, rfl⟩ := hrel
        go_wp2
        refine HK18.out _ _ ?_
        conv => arg 2; whnf
        go_wp2
        go_ret
        exact ⟨rfl, HB.out⟩
    · obtain ⟨n, hn⟩ : ∃ n, ys.length = n := ⟨_, rfl⟩
      rw [hn] at hl ⊢
      have HN := Lib.hid hn
      have HYA := Lib.hid hya
      have HZA := Lib.hid hza
      clear hn hya hza
      rw [ownE18]
      refine wp_seq_k (fun K18 hK18 => ?_)
      have HK18 := Lib.hid hK18
      clear hK18
      conv => arg 2; whnf
      go_wp2_with fail
      go_loopw [23] (fun i wr => ∃ j : Nat, j ≤ n ∧ i = .int .i64 (j : Int) ∧ Below W.heap.size W wr) (fun i _ => n - (intOf i).toNat)
      case atStart => exact ⟨0, Nat.zero_le _, rfl, Below.refl _ _⟩
      case round =>
        obtain ⟨j, hj, rfl, hBr⟩ := hrel
        by_cases hjn : j < n
        · have p1 : ((j : Int) < (n : Int)) = True := eq_true (by omega)
          have p6 : (j < n) = True := eq_true (by omega)
          have p5 : (0 : Int) ≤ (j : Int) := by omega
          have w2 : IntKind.i64.wrap (j : Int) = (j : Int) := by rw [IntKind.wrap_i64]; omega
          have hjl : j < ys.length := by have := HN.out; omega
          obtain ⟨c0, c1⟩ := (HYA.out.below hBr) j hjl
          obtain ⟨d0, d1⟩ := (HZA.out.below hBr) j hjl
          obtain ⟨⟨y1, y2⟩, hy⟩ : ∃ y, ys[j] = y := ⟨_, rfl⟩
          rw [hy] at c0 c1 d0 d1
          dsimp only at c0 c1 d0 d1
          clear hy
          go_wp2_with fail
          go_still_tail 8, (by kernel_rfl)
          change wpList _ _ _ _ _ wr.drew
          go_wp2_with fail
          go_roundw
          case rel => exact ⟨j + 1, by omega, by rw [Int.natCast_add]; rfl, hBr.drew⟩
          case measure => simp [intOf]; omega
        · have p1 : ((j : Int) < (n : Int)) = False := eq_false (by omega)
          go_wp2
          refine HK18.out _ _ ?_
          conv => arg 2; whnf
          go_wp2
          go_ret
          exact ⟨rfl, HB.out.trans (Below.mono hBr HB.out.size)⟩
set_option maxHeartbeats 4000000 in
set_option maxRecDepth 100000 in
theorem own_e (w W : World) (m : MapV) (ts ys : List Rt) {z0 z2 z3 z4 z5 z7 z8 z13 z16 z17 z18 z19 z20 z21 z22 z23 z24 z25 z26 z27 z28 z29 z30 z31 z32 z33 z34 z35 z36 z37 z38 z39 z40 z41 z42 z43 z44 z45 z46 z47 z48 z49 z50 z51 z52 z53 z54 z55 z56 z57 z58 z59 z60 z61 z62 z63 z64 z65 z66 z67 z68 z69 z70 z71 z72 z73 z74 z75 z76 z77 z78 z79 z80 z81 z82 z83 z84 z85 z86 z87 z88 z89 z90 z91 z92 z93 z94 z95 z96 z97 z98 z99 z100 z101 z102 z103 z104 z105 z106 z107 z108 z109 z110 z111 z112 z113 z114 z115 z116 z117 z118 z119 z120 z121 z122 z123 z124 z125 z126 z127 z128 z129 z130 z131 z132 z133 z134 z135 z136 z137 z138 z139 z140 z141 z142 z143 z144 z145 z146 z147 z148 z149 z150 z151 z152 z153 z154 z155 z156 z157 z158 z159 : Value} {A Aa Ax Ay : Option Addr} {b_ wa : Addr} {cap ca cb cw cx cy p : Nat} {ak as_ : Addr} {ck cs : Nat} (hys : (allS m ts).1 = ys) (hm : MapA W p ak as_ ck cs m) (hok : MapOk m) (hT : RtS W A ts) (hR : ∀ t ∈ ts, R64 t) (hb : KnA W b_ m.knots) (hw : KnA W wa m.knots) (hy : RtS W Ay ys) (hl : ts.length ≤ 300) (hB : Below w.heap.size w W) :
    ownT16.wp Try.prog (bodyPost Try.prog Try.f6 (fun e w' => e = .returned (.bool true) ∧ Below w.heap.size w w')) ⟨#[z0, .slice A ts.length cap, z2, z3, z4, z5, .pointer (some ⟨p, 0, none⟩), z7, z8, .slice Aa (m.knots.length + 1) ca, .slice (some b_) m.knots.length cb, .slice (some wa) m.knots.length cw, .slice Ax (ys.length + 1) cx, z13, .int .i64 (allS m ts).2.2, .slice Ay ys.length cy, z16, z17, z18, z19, z20, z21, z22, z23, z24, z25, z26, z27, z28, z29, z30, z31, z32, z33, z34, z35, z36, z37, z38, z39, z40, z41, z42, z43, z44, z45, z46, z47, z48, z49, z50, z51, z52, z53, z54, z55, z56, z57, z58, z59, z60, z61, z62, z63, z64, z65, z66, z67, z68, z69, z70, z71, z72, z73, z74, z75, z76, z77, z78, z79, z80, z81, z82, z83, z84, z85, z86, z87, z88, z89, z90, z91, z92, z93, z94, z95, z96, z97, z98, z99, z100, z101, z102, z103, z104, z105, z106, z107, z108, z109, z110, z111, z112, z113, z114, z115, z116, z117, z118, z119, z120, z121, z122, z123, z124, z125, z126, z127, z128, z129, z130, z131, z132, z133, z134, z135, z136, z137, z138, z139, z140, z141, z142, z143, z144, z145, z146, z147, z148, z149, z150, z151, z152, z153, z154, z155, z156, z157, z158, z159], []⟩ W := by
  have hyl : ys.length ≤ 300 := by have := allF_le m ts 0 []; unfold allS at hys; rw [hys] at this; simp at this; omega
  have hfl : (allS m ts).2.2 = 0 → ys.length = ts.length := fun h => by have := allF_len m ts 0 [] h; unfold allS at hys; rw [hys] at this; simpa using this
  have ML := Lib.hid (all_any p ak as_ ck cs m A ts cap W hm hok hT hR (by omega))
  rw [hys] at ML
  have M1 := Lib.hid (fun (u : World) (h : MapA u p ak as_ ck cs m) => knots_any p ak as_ ck cs m u h hok.k0 hok.k1)
  have MK := Lib.hid (fun (u : World) (a b : Addr) (c d : Nat) (h1 : KnA u a m.knots) (h2 : KnA u b m.knots) => lknots_some a b m.knots m.knots.length c d u rfl h1 h2 (by have := hok.k1; omega))
  have hk66 := hok.k1
  obtain ⟨nk, hnk⟩ : ∃ n, m.knots.length = n := ⟨_, rfl⟩
  rw [hnk] at M1 MK hk66 ⊢
  obtain ⟨n, hn⟩ : ∃ n, ts.length = n := ⟨_, rfl⟩
  rw [hn] at ML hl hfl ⊢
  obtain ⟨ny, hny⟩ : ∃ n, ys.length = n := ⟨_, rfl⟩
  rw [hny] at ML hfl ⊢
  have hyl2 : ny ≤ 300 := by omega
  obtain ⟨ei, ef, hal⟩ : ∃ ei ef, (allS m ts).2 = (ei, ef) := ⟨_, _, rfl⟩
  rw [hal] at ML hfl ⊢
  dsimp only at ML hfl ⊢
  have HM := Lib.hid hm
  have HB_ := Lib.hid hb
  have HW := Lib.hid hw
  have HY := Lib.hid hy
  have HB := Lib.hid hB
  have HNY := Lib.hid hny
  have HFL := Lib.hid hfl
  clear hm hb hw hy hB hny hnk hn hal hys hok hT hR hfl hyl
  have wk : IntKind.i64.wrap ((nk : Int) + 1) = (nk : Int) + 1 := by rw [IntKind.wrap_i64]; omega
  have wn : IntKind.i64.wrap ((n : Int) + 1) = (n : Int) + 1 := by rw [IntKind.wrap_i64]; omega
  rw [ownE16]
  refine wp_seq_k (fun K16 hK16 => ?_)
  have HK16 := Lib.hid hK16
  clear hK16
  conv => arg 2; whnf
  go_wp2_with fail
  with_reducible refine (ML.out).mono ?_
  rintro e_ w1 ⟨vz, rfl, hoz, hb1⟩
  obtain ⟨Az, cz, rfl, _, hZ, _⟩ := own_rts hoz
  have hZ2 := Lib.hid hZ
  rw [HNY.out]
  have HB1 := Lib.hid hb1
  clear hoz hZ hb1
  go_wp2
  refine HK16.out _ _ ?_
  rw [ownE17]
  refine wp_seq_k (fun K17 hK17 => ?_)
  have HK17 := Lib.hid hK17
  clear hK17
  conv => arg 2; whnf
  go_wp2_with fail
  with_reducible refine (MK.out _ _ _ _ _ (HB_.out.below HB1.out) (HW.out.below HB1.out)).mono ?_
  rintro e_ w2 ⟨rfl, hb2⟩
  have hB2 := Hand.stepB hb2 HB1.out (Nat.le_refl _)
  have HZ3 := Lib.hid (hZ2.out.below hb2)
  clear hb2
  go_wp2_with fail
  with_reducible refine (M1.out _ (HM.out.below hB2)).mono ?_
  rintro e_ w3 ⟨gc, cc, rfl, hoc, hb3⟩
  have hkc := own_kna hoc
  have hB3 := Hand.stepB hb3 hB2 (Nat.le_refl _)
  have HZ4 := Lib.hid (HZ3.out.below hb3)
  clear hoc hb3 hB2
  go_wp2_with fail
  with_reducible refine (MK.out _ _ _ _ _ hkc (HW.out.below hB3)).mono ?_
  rintro e_ w4 ⟨rfl, hb4⟩
  have HB4 := Lib.hid (Hand.stepB hb4 hB3 (Nat.le_refl _))
  have HZ5 := Lib.hid (HZ4.out.below hb4)
  clear hb4 hB3 hkc
  by_cases he : ef = 0
  · have j1 : (ef == 0) = true := by simpa using he
    have F1 := Lib.hid (fun (u : World) => (by have := fine6_any ef u; rw [j1] at this; exact this : Calls Try.prog 14 #[.int .i64 ef] u fun r w' => r = .returned (.bool true) ∧ w' = u))
    have hnn : ny = n := by rw [← HFL.out he]
    clear he j1 HFL
    go_wp2_with fail
    with_reducible refine (F1.out _).mono ?_
    rintro e_ w5 ⟨rfl, rfl⟩
    subst hnn
    go_wp2
    refine HK17.out _ _ ?_
    try rw [← HNY.out]
    exact own_f w _ ys (HY.out.below HB4.out) HZ5.out (by rw [HNY.out]; exact hyl2) (HB.out.trans (Below.mono HB4.out HB.out.size))
  · have j1 : (ef == 0) = false := by simpa using he
    have F1 := Lib.hid (fun (u : World) => (by have := fine6_any ef u; rw [j1] at this; exact this : Calls Try.prog 14 #[.int .i64 ef] u fun r w' => r = .returned (.bool false) ∧ w' = u))
    clear he j1 HFL
    go_wp2_with fail
    with_reducible refine (F1.out _).mono ?_
    rintro e_ w5 ⟨rfl, rfl⟩
    go_wp2
    refine HK17.out _ _ ?_
    try rw [← HNY.out]
    exact own_f w _ ys (HY.out.below HB4.out) HZ5.out (by rw [HNY.out]; exact hyl2) (HB.out.trans (Below.mono HB4.out HB.out.size))
set_option maxHeartbeats 4000000 in
set_option maxRecDepth 100000 in
theorem own_d (w W : World) (m : MapV) (ts ys : List Rt) {z0 z2 z3 z4 z5 z7 z8 z13 z16 z17 z18 z19 z20 z21 z22 z23 z24 z25 z26 z27 z28 z29 z30 z31 z32 z33 z34 z35 z36 z37 z38 z39 z40 z41 z42 z43 z44 z45 z46 z47 z48 z49 z50 z51 z52 z53 z54 z55 z56 z57 z58 z59 z60 z61 z62 z63 z64 z65 z66 z67 z68 z69 z70 z71 z72 z73 z74 z75 z76 z77 z78 z79 z80 z81 z82 z83 z84 z85 z86 z87 z88 z89 z90 z91 z92 z93 z94 z95 z96 z97 z98 z99 z100 z101 z102 z103 z104 z105 z106 z107 z108 z109 z110 z111 z112 z113 z114 z115 z116 z117 z118 z119 z120 z121 z122 z123 z124 z125 z126 z127 z128 z129 z130 z131 z132 z133 z134 z135 z136 z137 z138 z139 z140 z141 z142 z143 z144 z145 z146 z147 z148 z149 z150 z151 z152 z153 z154 z155 z156 z157 z158 z159 vx : Value} {A Aa Ay : Option Addr} {b_ wa : Addr} {cap ca cb cw cy p : Nat} {ak as_ : Addr} {ck cs : Nat} (hys : (allS m ts).1 = ys) (hok : MapOk m) (hR : ∀ t ∈ ts, R64 t) (hl : ts.length ≤ 300) (hB : Below w.heap.size w W) (gx : Nat) (hx : (ys = [] ∧ vx = .slice none 0 0) ∨ ∃ cx, vx = .slice (some ⟨gx, 0, none⟩) ys.length cx ∧ VR W gx ys.length cx 2 31) (hgx : w.heap.size ≤ gx) (hK : ∀ V', F2 gx gx W V' → MapA V' p ak as_ ck cs m ∧ RtS V' A ts ∧ KnA V' b_ m.knots ∧ KnA V' wa m.knots ∧ RtS V' Ay ys) :
    ownT14.wp Try.prog (bodyPost Try.prog Try.f6 (fun e w' => e = .returned (.bool true) ∧ Below w.heap.size w w')) ⟨#[z0, .slice A ts.length cap, z2, z3, z4, z5, .pointer (some ⟨p, 0, none⟩), z7, z8, .slice Aa (m.knots.length + 1) ca, .slice (some b_) m.knots.length cb, .slice (some wa) m.knots.length cw, vx, z13, .int .i64 (allS m ts).2.2, .slice Ay ys.length cy, z16, z17, z18, z19, z20, z21, z22, z23, z24, z25, z26, z27, z28, z29, z30, z31, z32, z33, z34, z35, z36, z37, z38, z39, z40, z41, z42, z43, z44, z45, z46, z47, z48, z49, z50, z51, z52, z53, z54, z55, z56, z57, z58, z59, z60, z61, z62, z63, z64, z65, z66, z67, z68, z69, z70, z71, z72, z73, z74, z75, z76, z77, z78, z79, z80, z81, z82, z83, z84, z85, z86, z87, z88, z89, z90, z91, z92, z93, z94, z95, z96, z97, z98, z99, z100, z101, z102, z103, z104, z105, z106, z107, z108, z109, z110, z111, z112, z113, z114, z115, z116, z117, z118, z119, z120, z121, z122, z123, z124, z125, z126, z127, z128, z129, z130, z131, z132, z133, z134, z135, z136, z137, z138, z139, z140, z141, z142, z143, z144, z145, z146, z147, z148, z149, z150, z151, z152, z153, z154, z155, z156, z157, z158, z159], []⟩ W := by
  have hyl : ys.length ≤ 300 := by have := allF_le m ts 0 []; unfold allS at hys; rw [hys] at this; simp at this; omega
  obtain ⟨ek, hek⟩ : ∃ e, (allS m ts).2.2 = e := ⟨_, rfl⟩
  rw [hek]
  have HEK := Lib.hid hek
  clear hek
  obtain ⟨nk, hnk⟩ : ∃ n, m.knots.length = n := ⟨_, rfl⟩
  rw [hnk]
  have HNK := Lib.hid hnk
  clear hnk
  obtain ⟨nt, hnt⟩ : ∃ n, ts.length = n := ⟨_, rfl⟩
  rw [hnt] at hl ⊢
  have HNT := Lib.hid hnt
  clear hnt
  have HYS := Lib.hid hys
  have HOK := Lib.hid hok
  have HR := Lib.hid hR
  have HB := Lib.hid hB
  have HKP := Lib.hid hK
  have M5 := Lib.hid (show ∀ u : World, Calls Try.prog 23 #[.int .i64 (-5)] u fun e w' => e = .returned (.agg #[.int .i64 (-5), .int .i64 1]) ∧ Below u.heap.size u w' from fun u => lwhole_any (-5) u)
  have M3 := Lib.hid (show ∀ u : World, Calls Try.prog 23 #[.int .i64 3] u fun e w' => e = .returned (.agg #[.int .i64 3, .int .i64 1]) ∧ Below u.heap.size u w' from fun u => lwhole_any 3 u)
  clear hys hok hR hB hK
  rcases hx with ⟨rfl, rfl⟩ | ⟨cx, rfl, hvr⟩
  · rw [ownE14]
    refine wp_seq_k (fun K14 hK14 => ?_)
    have HK14 := Lib.hid hK14
    clear hK14
    conv => arg 2; whnf
    go_wp2_with fail
    go_loopw [19] (fun i wr => i = .int .i64 0 ∧ W = wr) (fun _ _ => 0)
    case atStart => exact ⟨rfl, rfl⟩
    case round =>
      obtain ⟨rfl, rfl⟩ := hrel
      go_wp2
      refine HK14.out _ _ ?_
      rw [ownE15]
      refine wp_seq_k (fun K15 hK15 => ?_)
      have HK15 := Lib.hid hK15
      clear hK15
      conv => arg 2; whnf
      go_wp2_with fail
      with_reducible refine (M3.out _).mono ?_
      rintro e_ w1 ⟨rfl, hb1⟩
      go_wp2_with (at_builtin; refine wpList_append_lies _ rfl _ _ 23 rfl 0 31 _ (.agg #[.int .i64 0, .int .i64 0]) 2 16 Try.underlying23 rfl rfl rfl rfl rfl (by decide) _ 0 _ rfl (World.ownsRow_nil _ _ _ _) ⟨w1.heap.size, 0, none⟩ 1 1 [.int .i64 3, .int .i64 1] rfl rfl (World.news_of_block (by first | exact Hand.q3 _ _ _ rfl | exact Hand.q3 _ _ _ (by simp))) (by intro u hu; simp at hu; rcases hu with rfl | rfl <;> rfl) (by decide) (by unfold maxLen; omega) (by omega) (Nat.zero_le _) _ rfl ?_)
      intro g3 c3 w3 hown3 hgrow3 hat3 hlt3
      have hF : F2 gx gx W w3 := F2.grown ((F2.of_below gx gx hb1).alloc _) hgrow3 (fun q hq => (by cases hq))
      go_wp2
      refine HK15.out _ _ ?_
      obtain ⟨k1, k2, k3, k4, k5⟩ := HKP.out _ hF
      rw [← HEK.out, ← HNK.out, ← HNT.out]
      exact own_e w w3 m ts [] (Ax := some ⟨g3, 0, none⟩) (cx := c3) HYS.out k1 HOK.out k2 HR.out k3 k4 k5 (by rw [HNT.out]; exact hl) (hF.below HB.out hgx hgx HB.out.size)
  · obtain ⟨n, hn⟩ : ∃ n, ys.length = n := ⟨_, rfl⟩
    rw [hn] at hvr hyl ⊢
    have HN := Lib.hid hn
    clear hn
    rw [ownE14]
    refine wp_seq_k (fun K14 hK14 => ?_)
    have HK14 := Lib.hid hK14
    clear hK14
    conv => arg 2; whnf
    go_wp2_with fail
    go_loopw [19] (fun i wr => ∃ j : Nat, j ≤ n ∧ i = .int .i64 (j : Int) ∧ F2 gx gx W wr ∧ VR wr gx n cx 2 31) (fun i _ => n - (intOf i).toNat)
    case atStart => exact ⟨0, Nat.zero_le _, rfl, F2.refl _ _ _, hvr⟩
    case round =>
      obtain ⟨j, hj, rfl, hF, hV⟩ := hrel
      by_cases hjn : j < n
      · have p1 : ((j : Int) < (n : Int)) = True := eq_true (by omega)
        have p6 : (j < n) = True := eq_true (by omega)
        have p5 : (0 : Int) ≤ (j : Int) := by omega
        have w2 : IntKind.i64.wrap (j : Int) = (j : Int) := by rw [IntKind.wrap_i64]; omega
        go_wp2_with fail
        with_reducible refine (M5.out _).mono ?_
        rintro e_ w1 ⟨rfl, hb1⟩
        have hV1 := hV.below hb1
        have hcx := hV1.1
        obtain ⟨y0, c0, f0⟩ := hV1.cell (j * 2) (by omega)
        obtain ⟨y1, c1, f1⟩ := hV1.cell (j * 2 + 1) (by omega)
        have HF1 := Lib.hid (hF.trans (F2.of_below gx gx hb1))
        have HV1 := Lib.hid hV1
        clear hF hV hb1 hV1
        go_wp2
        go_roundw
        case rel => exact ⟨j + 1, by omega, by rw [Int.natCast_add]; rfl, ((HF1.out.set _ _ _ (Or.inl rfl)).set _ _ _ (Or.inl rfl)), (HV1.out.set _ _).set _ _⟩
        case measure => simp [intOf]; omega
      · have p1 : ((j : Int) < (n : Int)) = False := eq_false (by omega)
        have HF1 := Lib.hid hF
        have HV1 := Lib.hid hV
        clear hF hV
        go_wp2
        refine HK14.out _ _ ?_
        rw [ownE15]
        refine wp_seq_k (fun K15 hK15 => ?_)
        have HK15 := Lib.hid hK15
        clear hK15
        conv => arg 2; whnf
        go_wp2_with fail
        with_reducible refine (M3.out _).mono ?_
        rintro e_ w1 ⟨rfl, hb1⟩
        obtain ⟨xs, hxs⟩ := (HV1.out.below hb1).own (Nat.zero_le gx)
        have HXS := Lib.hid hxs
        clear hxs
        go_wp2_with (at_builtin; refine wpList_append_lies _ rfl _ _ 23 rfl 0 31 _ (.agg #[.int .i64 0, .int .i64 0]) 2 16 Try.underlying23 rfl rfl rfl rfl rfl (by decide) _ n _ rfl (own_below HXS.out ((Below.refl _ _).alloc (Nat.le_refl _) _)) ⟨w1.heap.size, 0, none⟩ 1 1 [.int .i64 3, .int .i64 1] rfl rfl (World.news_of_block (by first | exact Hand.q3 _ _ _ rfl | exact Hand.q3 _ _ _ (by simp))) (by intro u hu; simp at hu; rcases hu with rfl | rfl <;> rfl) (by decide) (by unfold maxLen; omega) (by omega) (Nat.zero_le _) _ rfl ?_)
        intro g3 c3 w3 hown3 hgrow3 hat3 hlt3
        have hF3 : F2 gx gx W w3 := F2.grown ((HF1.out.trans (F2.of_below gx gx hb1)).alloc _) hgrow3 (fun q hq => (by cases hq; exact Or.inl rfl))
        go_wp2
        refine HK15.out _ _ ?_
        obtain ⟨k1, k2, k3, k4, k5⟩ := HKP.out _ hF3
        rw [← HEK.out, ← HNK.out, ← HNT.out, ← HN.out]
        exact own_e w w3 m ts ys (Ax := some ⟨g3, 0, none⟩) (cx := c3) HYS.out k1 HOK.out k2 HR.out k3 k4 k5 (by rw [HNT.out]; exact hl) (hF3.below HB.out hgx hgx HB.out.size)
set_option maxHeartbeats 4000000 in
set_option maxRecDepth 100000 in
theorem own_c (w W : World) (m : MapV) (ts ys : List Rt) {z0 z2 z3 z4 z5 z7 z8 z13 z16 z17 z18 z19 z20 z21 z22 z23 z24 z25 z26 z27 z28 z29 z30 z31 z32 z33 z34 z35 z36 z37 z38 z39 z40 z41 z42 z43 z44 z45 z46 z47 z48 z49 z50 z51 z52 z53 z54 z55 z56 z57 z58 z59 z60 z61 z62 z63 z64 z65 z66 z67 z68 z69 z70 z71 z72 z73 z74 z75 z76 z77 z78 z79 z80 z81 z82 z83 z84 z85 z86 z87 z88 z89 z90 z91 z92 z93 z94 z95 z96 z97 z98 z99 z100 z101 z102 z103 z104 z105 z106 z107 z108 z109 z110 z111 z112 z113 z114 z115 z116 z117 z118 z119 z120 z121 z122 z123 z124 z125 z126 z127 z128 z129 z130 z131 z132 z133 z134 z135 z136 z137 z138 z139 z140 z141 z142 z143 z144 z145 z146 z147 z148 z149 z150 z151 z152 z153 z154 z155 z156 z157 z158 z159 vx : Value} {A Ay : Option Addr} {b_ wa : Addr} {cap ca cb cw cy p : Nat} {ak as_ : Addr} {ck cs : Nat} (hys : (allS m ts).1 = ys) (hok : MapOk m) (hR : ∀ t ∈ ts, R64 t) (hl : ts.length ≤ 300) (hB : Below w.heap.size w W) (ga gx : Nat) (hva : VR W ga m.knots.length ca 4 35) (hx : (ys = [] ∧ vx = .slice none 0 0) ∨ ∃ cx, vx = .slice (some ⟨gx, 0, none⟩) ys.length cx ∧ VR W gx ys.length cx 2 31) (hne : gx ≠ ga) (hga : w.heap.size ≤ ga) (hgx : w.heap.size ≤ gx) (hK : ∀ V', F2 ga gx W V' → MapA V' p ak as_ ck cs m ∧ RtS V' A ts ∧ KnA V' b_ m.knots ∧ KnA V' wa m.knots ∧ RtS V' Ay ys) :
    ownT12.wp Try.prog (bodyPost Try.prog Try.f6 (fun e w' => e = .returned (.bool true) ∧ Below w.heap.size w w')) ⟨#[z0, .slice A ts.length cap, z2, z3, z4, z5, .pointer (some ⟨p, 0, none⟩), z7, z8, .slice (some ⟨ga, 0, none⟩) m.knots.length ca, .slice (some b_) m.knots.length cb, .slice (some wa) m.knots.length cw, vx, z13, .int .i64 (allS m ts).2.2, .slice Ay ys.length cy, z16, z17, z18, z19, z20, z21, z22, z23, z24, z25, z26, z27, z28, z29, z30, z31, z32, z33, z34, z35, z36, z37, z38, z39, z40, z41, z42, z43, z44, z45, z46, z47, z48, z49, z50, z51, z52, z53, z54, z55, z56, z57, z58, z59, z60, z61, z62, z63, z64, z65, z66, z67, z68, z69, z70, z71, z72, z73, z74, z75, z76, z77, z78, z79, z80, z81, z82, z83, z84, z85, z86, z87, z88, z89, z90, z91, z92, z93, z94, z95, z96, z97, z98, z99, z100, z101, z102, z103, z104, z105, z106, z107, z108, z109, z110, z111, z112, z113, z114, z115, z116, z117, z118, z119, z120, z121, z122, z123, z124, z125, z126, z127, z128, z129, z130, z131, z132, z133, z134, z135, z136, z137, z138, z139, z140, z141, z142, z143, z144, z145, z146, z147, z148, z149, z150, z151, z152, z153, z154, z155, z156, z157, z158, z159], []⟩ W := by
  have hk66 := hok.k1
  obtain ⟨ek, hek⟩ : ∃ e, (allS m ts).2.2 = e := ⟨_, rfl⟩
  rw [hek]
  have HEK := Lib.hid hek
  clear hek
  obtain ⟨nk, hnk⟩ : ∃ n, m.knots.length = n := ⟨_, rfl⟩
  rw [hnk] at hva hk66 ⊢
  have HNK := Lib.hid hnk
  clear hnk
  have HYS := Lib.hid hys
  have HOK := Lib.hid hok
  have HR := Lib.hid hR
  have HB := Lib.hid hB
  have HKP := Lib.hid hK
  have HX := Lib.hid hx
  have HVR := Lib.hid hva
  have M9 := Lib.hid (show ∀ u : World, Calls Try.prog 23 #[.int .i64 9] u fun e w' => e = .returned (.agg #[.int .i64 9, .int .i64 1]) ∧ Below u.heap.size u w' from fun u => lwhole_any 9 u)
  clear hys hok hR hB hK hx hva
  rw [ownE12]
  refine wp_seq_k (fun K12 hK12 => ?_)
  have HK12 := Lib.hid hK12
  clear hK12
  conv => arg 2; whnf
  go_wp2_with fail
  go_loopw [18] (fun i wr => ∃ j : Nat, j ≤ nk ∧ i = .int .i64 (j : Int) ∧ F2 ga ga W wr ∧ VR wr ga nk ca 4 35) (fun i _ => nk - (intOf i).toNat)
  case atStart => exact ⟨0, Nat.zero_le _, rfl, F2.refl _ _ _, HVR.out⟩
  case round =>
    obtain ⟨j, hj, rfl, hF, hV⟩ := hrel
    by_cases hjn : j < nk
    · have p1 : ((j : Int) < (nk : Int)) = True := eq_true (by omega)
      have p6 : (j < nk) = True := eq_true (by omega)
      have p5 : (0 : Int) ≤ (j : Int) := by omega
      have w2 : IntKind.i64.wrap (j : Int) = (j : Int) := by rw [IntKind.wrap_i64]; omega
      have hcx := hV.1
      obtain ⟨y0, c0, f0⟩ := hV.cell (j * 4) (by omega)
      obtain ⟨y1, c1, f1⟩ := hV.cell (j * 4 + 1) (by omega)
      obtain ⟨y2, c2, f2⟩ := hV.cell (j * 4 + 2) (by omega)
      obtain ⟨y3, c3, f3⟩ := hV.cell (j * 4 + 3) (by omega)
      have HF1 := Lib.hid hF
      have HV1 := Lib.hid hV
      clear hF hV
      go_wp2
      go_roundw
      case rel => exact ⟨j + 1, by omega, by rw [Int.natCast_add]; rfl, ((((HF1.out.set _ _ _ (Or.inl rfl)).set _ _ _ (Or.inl rfl)).set _ _ _ (Or.inl rfl)).set _ _ _ (Or.inl rfl)), (((HV1.out.set _ _).set _ _).set _ _).set _ _⟩
      case measure => simp [intOf]; omega
    · have p1 : ((j : Int) < (nk : Int)) = False := eq_false (by omega)
      have HF1 := Lib.hid hF
      have HV1 := Lib.hid hV
      clear hF hV
      go_wp2
      refine HK12.out _ _ ?_
      rw [ownE13]
      refine wp_seq_k (fun K13 hK13 => ?_)
      have HK13 := Lib.hid hK13
      clear hK13
      conv => arg 2; whnf
      go_wp2_with fail
      with_reducible refine (M9.out _).mono ?_
      rintro e_ w1 ⟨rfl, hb1⟩
      obtain ⟨xs, hxs⟩ := (HV1.out.below hb1).own (Nat.zero_le ga)
      have HXS := Lib.hid hxs
      clear hxs
      go_wp2_with (at_builtin; refine wpList_append_lies _ rfl _ _ 22 rfl 0 35 _ (.agg #[.int .i64 0, .int .i64 0, .int .i64 0, .int .i64 0]) 4 32 Try.underlying22 rfl rfl rfl rfl rfl (by decide) _ nk _ rfl (own_below HXS.out ((Below.refl _ _).alloc (Nat.le_refl _) _)) ⟨w1.heap.size, 0, none⟩ 1 1 [.int .i64 9, .int .i64 1, .int .i64 0, .int .i64 0] rfl rfl (World.news_of_block (by first | exact Hand.q3 _ _ _ rfl | exact Hand.q3 _ _ _ (by simp))) (by intro u hu; simp at hu; rcases hu with rfl | rfl | rfl | rfl <;> rfl) (by decide) (by unfold maxLen; omega) (by omega) (Nat.zero_le _) _ rfl ?_)
      intro g3 c3 w3 hown3 hgrow3 hat3 hlt3
      have hF3 : F2 ga ga W w3 := F2.grown ((HF1.out.trans (F2.of_below ga ga hb1)).alloc _) hgrow3 (fun q hq => (by cases hq; exact Or.inl rfl))
      go_wp2
      refine HK13.out _ _ ?_
      rw [← HEK.out, ← HNK.out]
      exact own_d w w3 m ts ys (Aa := some ⟨g3, 0, none⟩) (ca := c3) HYS.out HOK.out HR.out hl (hF3.below HB.out hga hga HB.out.size) gx (by rcases HX.out with h | ⟨cx, h1, h2⟩; exact Or.inl h; exact Or.inr ⟨cx, h1, h2.keep (hF3.block gx h2.lt hne hne)⟩) hgx (fun V' hV' => HKP.out V' ((hF3.wide gx).trans (hV'.widel ga)))
end Go.Proofs.Ythlpaglldhgmfaa.PA
