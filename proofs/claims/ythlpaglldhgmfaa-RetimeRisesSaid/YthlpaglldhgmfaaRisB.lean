/- Chapter 6: RetimeRises, walked: own knots; the knots. -/
import Derived.Test.YthlpaglldhgmfaaRis6
namespace Go.Proofs.Ythlpaglldhgmfaa.PA
open Go Go.RowKit Go.Proofs.YthlpaglldhgmfaaW.PrintWords Go.Proofs.YthlpaglldhgmfaaW.PrintLast Go.Proofs.YthlpaglldhgmfaaW.PrintMore
attribute [local go_sem high] eqA31 eqA35
set_option linter.unusedSimpArgs false
set_option linter.unusedVariables false
set_option maxHeartbeats 4000000 in
set_option maxRecDepth 100000 in
theorem ris_b (w W : World) (l : List Kn) (m : MapV) (ts : List Rt) {z0 z2 z3 z4 z6 z7 z8 z9 z10 z11 z12 z13 z14 z15 z16 z17 z18 z19 z20 z21 z22 z23 z24 z25 z26 z27 z28 z29 z30 z31 z32 z33 z34 z35 z36 z37 z38 z39 z40 z41 z42 z43 z44 z45 z46 z47 z48 z49 z50 z51 z52 z53 z54 z55 z56 z57 z58 z59 z60 z61 z62 z63 z64 z65 z66 z67 z68 z69 z70 z71 z72 z73 z74 z75 z76 z77 z78 z79 z80 z81 z82 z83 z84 z85 z86 z87 z88 z89 z90 z91 z92 z93 z94 z95 z96 z97 z98 z99 z100 z101 z102 z103 z104 z105 z106 z107 z108 z109 z110 z111 z112 z113 z114 z115 z116 z117 z118 z119 z120 z121 z122 z123 z124 z125 z126 z127 z128 z129 z130 z131 z132 z133 z134 z135 z136 z137 z138 z139 z140 : Value} {A Al : Option Addr} {cap capl : Nat} {p : Nat} {ak as_ : Addr} {ck cs : Nat} (hm : MapA W p ak as_ ck cs m) (hq : MapQ l m) (hT : RtS W A ts) (hR : ∀ t ∈ ts, R64 t) (hN : ts.length ≤ 300) (hB : Below w.heap.size w W) :
    risT6.wp Try.prog (bodyPost Try.prog Try.f3 (fun e w' => e = .returned (.bool true) ∧ Below w.heap.size w w')) ⟨#[z0, .slice A ts.length cap, z2, z3, z4, .pointer (some ⟨p, 0, none⟩), z6, z7, z8, z9, z10, z11, z12, z13, z14, z15, z16, z17, z18, z19, z20, z21, z22, z23, z24, z25, z26, z27, z28, z29, z30, z31, z32, z33, z34, z35, z36, z37, z38, z39, z40, z41, z42, z43, z44, z45, z46, z47, z48, z49, z50, z51, z52, z53, z54, z55, z56, z57, z58, z59, z60, z61, z62, z63, z64, z65, z66, z67, z68, z69, z70, z71, z72, z73, z74, z75, z76, z77, z78, z79, z80, z81, z82, z83, z84, z85, z86, z87, z88, z89, z90, z91, z92, z93, z94, z95, z96, z97, z98, z99, z100, z101, z102, z103, z104, z105, z106, z107, z108, z109, z110, z111, z112, z113, z114, z115, z116, z117, z118, z119, z120, z121, z122, z123, z124, z125, z126, z127, z128, z129, z130, z131, z132, z133, z134, z135, z136, z137, z138, z139, z140], []⟩ W := by
  have hok := hq.ok
  have MK := Lib.hid (fun (u : World) (h : MapA u p ak as_ ck cs m) => knots_any p ak as_ ck cs m u h hok.k0 hok.k1)
  obtain ⟨nk, hnk⟩ : ∃ n, m.knots.length = n := ⟨_, rfl⟩
  rw [hnk] at MK
  have HNK := Lib.hid hnk
  have hnk66 : nk ≤ 66 := by have := hok.k1; omega
  clear hnk hok
  have HM := Lib.hid hm
  have HQ := Lib.hid hq
  have HR := Lib.hid hR
  have HB := Lib.hid hB
  have HF := Lib.hid fine6_any
  have HT := Lib.hid hT
  have HNT := Lib.hid hN
  clear hm hq hR hB hT hN
  have F0 := Lib.hid (fun (u : World) => (by have := fine6_any 0 u; rw [show ((0 : Int) == 0) = true from rfl] at this; exact this : Calls Try.prog 14 #[.int .i64 0] u fun r w' => r = .returned (.bool true) ∧ w' = u))
  rw [risE6]
  refine wp_seq_k (fun K6 hK6 => ?_)
  have HK6 := Lib.hid hK6
  clear hK6
  conv => arg 2; whnf
  go_wp2_with fail
  with_reducible refine (MK.out _ HM.out).mono ?_
  rintro e_ w1 ⟨g, c, rfl, hown, hb1⟩
  obtain ⟨ga, hga⟩ : ∃ a : Addr, (⟨g, 0, none⟩ : Addr) = a := ⟨_, rfl⟩
  have hkn := own_kna hown
  rw [hga] at hkn ⊢
  have HG := Lib.hid hkn
  have HM1 := Lib.hid (HM.out.below hb1)
  have HB1 := Lib.hid (Hand.stepB hb1 HB.out (Nat.le_refl _))
  have HT1 := Lib.hid (HT.out.below hb1)
  clear hkn hown hga hb1
  go_wp2
  refine HK6.out _ _ ?_
  rw [risE7]
  refine wp_seq_k (fun K7 hK7 => ?_)
  have HK7 := Lib.hid hK7
  clear hK7
  conv => arg 2; whnf
  go_wp2_with fail
  go_loopw [11] (fun i wr => ∃ j : Nat, j ≤ nk ∧ i = .int .i64 (j : Int) ∧ Below w1.heap.size w1 wr) (fun i _ => nk - (intOf i).toNat)
  case atStart => exact ⟨0, Nat.zero_le _, rfl, Below.refl _ _⟩
  case round =>
    obtain ⟨j, hj, rfl, hBr⟩ := hrel
    by_cases hjn : j < nk
    · have p1 : ((j : Int) < (nk : Int)) = True := eq_true (by omega)
      have p6 : (j < nk) = True := eq_true (by omega)
      have p5 : (0 : Int) ≤ (j : Int) := by omega
      have w2 : IntKind.i64.wrap (j : Int) = (j : Int) := by rw [IntKind.wrap_i64]; omega
      have hjl : j < m.knots.length := by have := HNK.out; omega
      have happ := HQ.out.app_own (List.getElem_mem hjl)
      have hrt := HQ.out.kr _ (List.getElem_mem hjl)
      obtain ⟨⟨⟨i1, i2⟩, o1, o2⟩, hk⟩ : ∃ k, m.knots[j] = k := ⟨_, rfl⟩
      have CK := Lib.hid (fun (w_ : World) (h : Below w1.heap.size w1 w_) => (by have k := (HG.out.below h) j hjl; rw [hk] at k; exact k : w_.cell? (ga.add (j * 4)) = some (.int .i64 i1) ∧ w_.cell? ⟨(ga.add (j * 4)).block, (ga.add (j * 4)).off + 1, none⟩ = some (.int .i64 i2) ∧ w_.cell? ⟨(ga.add (j * 4)).block, (ga.add (j * 4)).off + 2, none⟩ = some (.int .i64 o1) ∧ w_.cell? ⟨(ga.add (j * 4)).block, (ga.add (j * 4)).off + 3, none⟩ = some (.int .i64 o2)))
      rw [hk] at happ hrt
      dsimp only at happ hrt
      clear hk
      have MAt := Lib.hid (fun (u : World) (h : Below w.heap.size w u) (hmu : MapA u p ak as_ ck cs m) => (by have := app_any p ak as_ ck cs m (i1, i2) u hmu HQ.out.ok (right_R64 hrt.1); rw [happ] at this; exact this : Calls Try.prog 15 #[.pointer (some ⟨p, 0, none⟩), .agg #[.int .i64 i1, .int .i64 i2]] u fun e w' => e = .returned (.tuple #[.agg #[.int .i64 o1, .int .i64 o2], .int .i64 0]) ∧ Below u.heap.size u w'))
      have MR := Lib.hid (fun u => (by have := right_k (o1, o2) u (right_R64 hrt.2); rw [hrt.2] at this; exact this : Calls Try.prog 17 #[.agg #[.int .i64 o1, .int .i64 o2]] u fun e w' => e = .returned (.bool true) ∧ Below u.heap.size u w'))
      clear happ hrt
      obtain ⟨c0, c1, _, _⟩ := CK.out _ hBr
      go_wp2_with fail
      with_reducible refine (MAt.out _ (HB1.out.trans (Below.mono hBr HB1.out.size)) (HM1.out.below hBr)).mono ?_
      rintro e_ w2 ⟨rfl, hb2⟩
      obtain ⟨V, hV⟩ : ∃ V_, V_ = w2.alloc (.cells #[.int .i64 o1, .int .i64 o2] 31) := ⟨_, rfl⟩
      have gx : V.heap[w2.heap.size]? = some (.cells #[.int .i64 o1, .int .i64 o2] 31 (0, 0)) := by rw [hV]; exact Hand.q3 _ _ _ rfl
      have hBV : Below w1.heap.size w1 V := by rw [hV]; exact (Hand.stepB hb2 hBr (Nat.le_refl _)).alloc (Hand.stepB hb2 hBr (Nat.le_refl _)).size _
      have gxz := (Hand.hz gx).1
      obtain ⟨a0, fa0, a1, fa1⟩ := Hand.hc2 gx
      have HBV := Lib.hid hBV
      have HC := Lib.hid (fun (w_ : World) (h : Below V.heap.size V w_) => (by obtain ⟨_, _, k2, k3⟩ := CK.out _ (Hand.stepB h HBV.out (Nat.le_refl _)); exact ⟨h, (h.cell gxz).trans a0, (h.cell gxz).trans a1, k2, k3⟩ : Below V.heap.size V w_ ∧ w_.cell? ⟨w2.heap.size, 0, none⟩ = some (.int .i64 o1) ∧ w_.cell? ⟨w2.heap.size, 1, none⟩ = some (.int .i64 o2) ∧ w_.cell? ⟨(ga.add (j * 4)).block, (ga.add (j * 4)).off + 2, none⟩ = some (.int .i64 o1) ∧ w_.cell? ⟨(ga.add (j * 4)).block, (ga.add (j * 4)).off + 3, none⟩ = some (.int .i64 o2)))
      have BR : Below V.heap.size V V := Below.refl _ _
      clear hb2 hBV gx hBr c0 c1
      go_wp2_with fail
      rw [← hV]
      clear hV
      go_region_held3 (fun w_ => Below V.heap.size V w_ ∧ w_.cell? ⟨w2.heap.size, 0, none⟩ = some (.int .i64 o1) ∧ w_.cell? ⟨w2.heap.size, 1, none⟩ = some (.int .i64 o2) ∧ w_.cell? ⟨(ga.add (j * 4)).block, (ga.add (j * 4)).off + 2, none⟩ = some (.int .i64 o1) ∧ w_.cell? ⟨(ga.add (j * 4)).block, (ga.add (j * 4)).off + 3, none⟩ = some (.int .i64 o2)) (first | (refine HC.out _ ?_; repeat (with_reducible first | assumption | apply Below.drew | refine Below.alloc ?_ (by first | omega | (simp only [World.size_alloc, World.size_drew, World.size_setCell]; omega)) _))) (first | (go_at_call 14; ((with_reducible refine (F0.out _).mono ?_); rintro e_ w5 ⟨rfl, rfl⟩)) | (go_at_call 17; ((with_reducible refine (MR.out _).mono ?_); rintro e_ w6 ⟨rfl, hb_w6⟩; have BB : Below V.heap.size V w6 := Hand.stepB hb_w6 (by repeat (with_reducible first | assumption | apply Below.drew | refine Below.alloc ?_ (by first | omega | (simp only [World.size_alloc, World.size_drew, World.size_setCell]; omega)) _)) (Nat.le_refl _); have zBB := BB.size)))
      all_goals (go_wp2; go_roundw)
      all_goals (first | (simp [intOf]; omega) | exact ⟨j + 1, by omega, by rw [Int.natCast_add]; rfl, Hand.stepB (by first | exact BB | exact BB.drew) HBV.out (Nat.le_refl _)⟩)
    · have p1 : ((j : Int) < (nk : Int)) = False := eq_false (by omega)
      go_wp2
      refine HK7.out _ _ ?_
      exact ris_c w _ l m ts (Al := Al) (capl := capl) (HM1.out.below hBr) HQ.out (HT1.out.below hBr) HR.out HNT.out (HB1.out.trans (Below.mono hBr HB1.out.size))
set_option maxHeartbeats 4000000 in
set_option maxRecDepth 100000 in
theorem ris_a (w W : World) (l : List Kn) (m : MapV) (ts : List Rt) {z2 z3 z4 z6 z7 z8 z9 z10 z11 z12 z13 z14 z15 z16 z17 z18 z19 z20 z21 z22 z23 z24 z25 z26 z27 z28 z29 z30 z31 z32 z33 z34 z35 z36 z37 z38 z39 z40 z41 z42 z43 z44 z45 z46 z47 z48 z49 z50 z51 z52 z53 z54 z55 z56 z57 z58 z59 z60 z61 z62 z63 z64 z65 z66 z67 z68 z69 z70 z71 z72 z73 z74 z75 z76 z77 z78 z79 z80 z81 z82 z83 z84 z85 z86 z87 z88 z89 z90 z91 z92 z93 z94 z95 z96 z97 z98 z99 z100 z101 z102 z103 z104 z105 z106 z107 z108 z109 z110 z111 z112 z113 z114 z115 z116 z117 z118 z119 z120 z121 z122 z123 z124 z125 z126 z127 z128 z129 z130 z131 z132 z133 z134 z135 z136 z137 z138 z139 z140 : Value} {A Al : Option Addr} {cap capl : Nat} {p : Nat} {ak as_ : Addr} {ck cs : Nat} (hm : MapA W p ak as_ ck cs m) (hq : MapQ l m) (hT : RtS W A ts) (hR : ∀ t ∈ ts, R64 t) (hN : ts.length ≤ 300) (hB : Below w.heap.size w W) {al : Addr} (hKL : KnA W al l) :
    risT5.wp Try.prog (bodyPost Try.prog Try.f3 (fun e w' => e = .returned (.bool true) ∧ Below w.heap.size w w')) ⟨#[.slice (some al) l.length capl, .slice A ts.length cap, z2, z3, z4, .pointer (some ⟨p, 0, none⟩), z6, z7, z8, z9, z10, z11, z12, z13, z14, z15, z16, z17, z18, z19, z20, z21, z22, z23, z24, z25, z26, z27, z28, z29, z30, z31, z32, z33, z34, z35, z36, z37, z38, z39, z40, z41, z42, z43, z44, z45, z46, z47, z48, z49, z50, z51, z52, z53, z54, z55, z56, z57, z58, z59, z60, z61, z62, z63, z64, z65, z66, z67, z68, z69, z70, z71, z72, z73, z74, z75, z76, z77, z78, z79, z80, z81, z82, z83, z84, z85, z86, z87, z88, z89, z90, z91, z92, z93, z94, z95, z96, z97, z98, z99, z100, z101, z102, z103, z104, z105, z106, z107, z108, z109, z110, z111, z112, z113, z114, z115, z116, z117, z118, z119, z120, z121, z122, z123, z124, z125, z126, z127, z128, z129, z130, z131, z132, z133, z134, z135, z136, z137, z138, z139, z140], []⟩ W := by
  obtain ⟨n, hn⟩ : ∃ n, l.length = n := ⟨_, rfl⟩
  rw [hn]
  have HNL := Lib.hid hn
  have hn64 : n ≤ 64 := by have := hq.le; omega
  clear hn
  have HM := Lib.hid hm
  have HQ := Lib.hid hq
  have HR := Lib.hid hR
  have HB := Lib.hid hB
  have HF := Lib.hid fine6_any
  have HT := Lib.hid hT
  have HNT := Lib.hid hN
  have HKL := Lib.hid hKL
  clear hm hq hR hB hT hN hKL
  rw [risE5]
  refine wp_seq_k (fun K5 hK5 => ?_)
  have HK5 := Lib.hid hK5
  clear hK5
  conv => arg 2; whnf
  go_wp2_with fail
  go_loopw [7] (fun i wr => ∃ j : Nat, j ≤ n ∧ i = .int .i64 (j : Int) ∧ Below W.heap.size W wr) (fun i _ => n - (intOf i).toNat)
  case atStart => exact ⟨0, Nat.zero_le _, rfl, Below.refl _ _⟩
  case round =>
    obtain ⟨j, hj, rfl, hBr⟩ := hrel
    by_cases hjn : j < n
    · have p1 : ((j : Int) < (n : Int)) = True := eq_true (by omega)
      have p6 : (j < n) = True := eq_true (by omega)
      have p5 : (0 : Int) ≤ (j : Int) := by omega
      have w2 : IntKind.i64.wrap (j : Int) = (j : Int) := by rw [IntKind.wrap_i64]; omega
      have hjl : j < l.length := by have := HNL.out; omega
      have hmem := List.getElem_mem hjl
      have hrt := HQ.out.lr _ hmem
      obtain ⟨⟨⟨i1, i2⟩, o1, o2⟩, hk⟩ : ∃ k, l[j] = k := ⟨_, rfl⟩
      have CK := Lib.hid (fun (w_ : World) (h : Below W.heap.size W w_) => (by have k := (HKL.out.below h) j hjl; rw [hk] at k; exact k : w_.cell? (al.add (j * 4)) = some (.int .i64 i1) ∧ w_.cell? ⟨(al.add (j * 4)).block, (al.add (j * 4)).off + 1, none⟩ = some (.int .i64 i2) ∧ w_.cell? ⟨(al.add (j * 4)).block, (al.add (j * 4)).off + 2, none⟩ = some (.int .i64 o1) ∧ w_.cell? ⟨(al.add (j * 4)).block, (al.add (j * 4)).off + 3, none⟩ = some (.int .i64 o2)))
      rw [hk] at hmem hrt
      dsimp only at hrt
      clear hk
      obtain ⟨⟨⟨x1, x2⟩, e1⟩, hX⟩ : ∃ X, m.app (i1, i2) = X := ⟨_, rfl⟩
      have MAt := Lib.hid (fun (u : World) (h : Below w.heap.size w u) (hmu : MapA u p ak as_ ck cs m) => (by have := app_any p ak as_ ck cs m (i1, i2) u hmu HQ.out.ok (right_R64 hrt.1); rw [hX] at this; exact this : Calls Try.prog 15 #[.pointer (some ⟨p, 0, none⟩), .agg #[.int .i64 i1, .int .i64 i2]] u fun e w' => e = .returned (.tuple #[.agg #[.int .i64 x1, .int .i64 x2], .int .i64 e1]) ∧ Below u.heap.size u w'))
      have HAT := Lib.hid (fun (h : e1 = 0) => HQ.out.app_at hmem (hX.trans (by rw [h])))
      clear hX hmem hrt
      obtain ⟨c0, c1, _, _⟩ := CK.out _ hBr
      go_wp2_with fail
      with_reducible refine (MAt.out _ (HB.out.trans (Below.mono hBr HB.out.size)) (HM.out.below hBr)).mono ?_
      rintro e_ w2 ⟨rfl, hb2⟩
      have hB2 := Hand.stepB hb2 hBr (Nat.le_refl _)
      clear hb2 hBr c0 c1
      by_cases h1 : e1 = 0
      · have j1 : (e1 == 0) = true := by simpa using h1
        have F1 := Lib.hid (fun (u : World) => (by have := fine6_any e1 u; rw [j1] at this; exact this : Calls Try.prog 14 #[.int .i64 e1] u fun r w' => r = .returned (.bool true) ∧ w' = u))
        have hx := HAT.out h1
        cases hx
        clear h1 j1 HAT
        obtain ⟨V, hV⟩ : ∃ V_, V_ = w2.alloc (.cells #[.int .i64 o1, .int .i64 o2] 31) := ⟨_, rfl⟩
        have gx : V.heap[w2.heap.size]? = some (.cells #[.int .i64 o1, .int .i64 o2] 31 (0, 0)) := by rw [hV]; exact Hand.q3 _ _ _ rfl
        have hBV : Below W.heap.size W V := by rw [hV]; exact hB2.alloc hB2.size _
        obtain ⟨a0, fa0, a1, fa1⟩ := Hand.hc2 gx
        obtain ⟨_, _, k2, k3⟩ := CK.out _ hBV
        have HBV := Lib.hid hBV
        clear gx hBV hB2
        go_wp2_with fail
        rw [← hV]
        clear hV
        go_quiet ((first | (go_at_call 14; exact Calls.quiet_of_same (F1.out _))))
        go_wp2
        go_roundw
        case rel => exact ⟨j + 1, by omega, by rw [Int.natCast_add]; rfl, by apply pw_below_drewN; exact HBV.out⟩
        case measure => simp [intOf]; omega
      · have j1 : (e1 == 0) = false := by simpa using h1
        have F1 := Lib.hid (fun (u : World) => (by have := fine6_any e1 u; rw [j1] at this; exact this : Calls Try.prog 14 #[.int .i64 e1] u fun r w' => r = .returned (.bool false) ∧ w' = u))
        clear h1 j1 HAT
        obtain ⟨V, hV⟩ : ∃ V_, V_ = w2.alloc (.cells #[.int .i64 x1, .int .i64 x2] 31) := ⟨_, rfl⟩
        have gx : V.heap[w2.heap.size]? = some (.cells #[.int .i64 x1, .int .i64 x2] 31 (0, 0)) := by rw [hV]; exact Hand.q3 _ _ _ rfl
        have hBV : Below W.heap.size W V := by rw [hV]; exact hB2.alloc hB2.size _
        obtain ⟨a0, fa0, a1, fa1⟩ := Hand.hc2 gx
        obtain ⟨_, _, k2, k3⟩ := CK.out _ hBV
        have HBV := Lib.hid hBV
        clear gx hBV hB2
        go_wp2_with fail
        rw [← hV]
        clear hV
        go_quiet ((first | (go_at_call 14; exact Calls.quiet_of_same (F1.out _))))
        go_wp2
        go_roundw
        case rel => exact ⟨j + 1, by omega, by rw [Int.natCast_add]; rfl, by apply pw_below_drewN; exact HBV.out⟩
        case measure => simp [intOf]; omega
    · have p1 : ((j : Int) < (n : Int)) = False := eq_false (by omega)
      go_wp2
      refine HK5.out _ _ ?_
      exact ris_b w _ l m ts (Al := Al) (capl := capl) (HM.out.below hBr) HQ.out (HT.out.below hBr) HR.out HNT.out (HB.out.trans (Below.mono hBr HB.out.size))
end Go.Proofs.Ythlpaglldhgmfaa.PA
