/- Chapter 6: RetimeInverts, walked from its head. -/
import Derived.Test.YthlpaglldhgmfaaIvA
namespace Go.Proofs.Ythlpaglldhgmfaa.PA
open Go Go.RowKit Go.Proofs.YthlpaglldhgmfaaW.PrintWords Go.Proofs.YthlpaglldhgmfaaW.PrintLast Go.Proofs.YthlpaglldhgmfaaW.PrintMore
attribute [local go_sem high] eqA31 eqA35
set_option linter.unusedSimpArgs false
set_option linter.unusedVariables false
theorem kna2 {w : World} {g : Nat} (h : w.heap[g]? = some (.cells #[.int .i64 0, .int .i64 1, .int .i64 0, .int .i64 1, .int .i64 1, .int .i64 1, .int .i64 1, .int .i64 1] 35 (0, 0))) : KnA w ⟨g, 0, none⟩ [((0, 1), (0, 1)), ((1, 1), (1, 1))] := by
  have c : ∀ i v, (#[.int .i64 0, .int .i64 1, .int .i64 0, .int .i64 1, .int .i64 1, .int .i64 1, .int .i64 1, .int .i64 1] : Array Value)[i]? = some v → w.cell? ⟨g, i, none⟩ = some v := fun i v e => Hand.cell_of h i v e
  intro j hj
  rw [add0]
  match j, hj with
  | 0, _ => exact ⟨c _ _ rfl, c _ _ rfl, c _ _ rfl, c _ _ rfl⟩
  | 1, _ => exact ⟨c _ _ rfl, c _ _ rfl, c _ _ rfl, c _ _ rfl⟩
set_option maxHeartbeats 4000000 in
set_option maxRecDepth 100000 in
theorem inv_b (w W : World) (m v : MapV) (ts : List Rt) {z0 z2 z3 z4 z6 z8 z9 z10 z11 z12 z13 z14 z15 z16 z17 z18 z19 z20 z21 z22 z23 z24 z25 z26 z27 z28 z29 z30 z31 z32 z33 z34 z35 z36 z37 z38 z39 z40 z41 z42 z43 z44 z45 z46 z47 z48 z49 z50 z51 z52 z53 z54 z55 z56 z57 z58 z59 z60 z61 z62 z63 z64 z65 z66 z67 z68 z69 z70 z71 z72 z73 z74 z75 z76 z77 z78 z79 z80 z81 z82 z83 z84 z85 z86 z87 z88 z89 z90 z91 z92 z93 z94 z95 z96 z97 z98 z99 z100 z101 z102 z103 z104 z105 z106 z107 z108 z109 z110 z111 z112 z113 z114 z115 z116 z117 z118 z119 z120 z121 z122 z123 z124 z125 z126 z127 z128 z129 z130 : Value} {A : Option Addr} {cap p q : Nat} {ak as_ bk bs : Addr} {ck cs dk ds : Nat} (hm : MapA W p ak as_ ck cs m) (hv : MapA W q bk bs dk ds v) (hM : Mk m) (hI : invS m = (some v, 0)) (hT : RtS W A ts) (hR : ∀ t ∈ ts, R64 t) (hN : ts.length ≤ 2000) (hB : Below w.heap.size w W) :
    invT9.wp Try.prog (bodyPost Try.prog Try.f9 (fun e w' => e = .returned (.bool true) ∧ Below w.heap.size w w')) ⟨#[z0, .slice A ts.length cap, z2, z3, z4, .pointer (some ⟨p, 0, none⟩), z6, .pointer (some ⟨q, 0, none⟩), z8, z9, z10, z11, z12, z13, z14, z15, z16, z17, z18, z19, z20, z21, z22, z23, z24, z25, z26, z27, z28, z29, z30, z31, z32, z33, z34, z35, z36, z37, z38, z39, z40, z41, z42, z43, z44, z45, z46, z47, z48, z49, z50, z51, z52, z53, z54, z55, z56, z57, z58, z59, z60, z61, z62, z63, z64, z65, z66, z67, z68, z69, z70, z71, z72, z73, z74, z75, z76, z77, z78, z79, z80, z81, z82, z83, z84, z85, z86, z87, z88, z89, z90, z91, z92, z93, z94, z95, z96, z97, z98, z99, z100, z101, z102, z103, z104, z105, z106, z107, z108, z109, z110, z111, z112, z113, z114, z115, z116, z117, z118, z119, z120, z121, z122, z123, z124, z125, z126, z127, z128, z129, z130], []⟩ W := by
  have H_hm := Lib.hid hm
  have H_hv := Lib.hid hv
  have H_hM := Lib.hid hM
  have H_hI := Lib.hid hI
  have H_hT := Lib.hid hT
  have H_hR := Lib.hid hR
  have H_hN := Lib.hid hN
  have H_hB := Lib.hid hB
  have hvM := (hM.inv hI).1
  have MT := Lib.hid (thn_any m v W hm hv hM hvM)
  clear hm hv hM hI hT hR hN hB hvM
  obtain ⟨⟨mo, er⟩, hr⟩ : ∃ r, thenS m v = r := ⟨_, rfl⟩
  rw [hr] at MT
  have HRK := Lib.hid hr
  clear hr
  rw [invE9]
  refine wp_seq_k (fun K9 hK9 => ?_)
  have HK9 := Lib.hid hK9
  clear hK9
  conv => arg 2; whnf
  go_wp2_with fail
  with_reducible refine (MT.out).mono ?_
  rintro e_ w2 ⟨vv, rfl, hv, hb2⟩
  have HV := Lib.hid hv
  have HB2 := Lib.hid hb2
  clear hv hb2
  go_wp2
  refine HK9.out _ _ ?_
  rw [invE10]
  refine wp_seq_k (fun K10 hK10 => ?_)
  have HK10 := Lib.hid hK10
  clear hK10
  conv => arg 2; whnf
  by_cases he : er = 0
  · have j1 : (er == 0) = true := by simpa using he
    have F1 := Lib.hid (fun (u : World) => (by have := fine6_any er u; rw [j1] at this; exact this : Calls Try.prog 14 #[.int .i64 er] u fun r w' => r = .returned (.bool true) ∧ w' = u))
    have HE := Lib.hid he
    clear j1 he
    obtain ⟨s, rfl⟩ : ∃ s, mo = some s := by cases mo with | none => (exfalso; have h := HV.out; have := HRK.out; have hE := HE.out; unfold thenS at this; split at this; (rename_i hz; cases this; exact hz hE); split at this; (rename_i hz; cases this; exact hz hE); (rcases newK_cases (thrF m v (ptsS m v).1 []).1 with ⟨z, hz⟩ | ⟨e, h1, h2⟩; rw [hz] at this; cases this; rw [h2] at this; cases this; exact h1 hE)) | some s => exact ⟨s, rfl⟩
    have hs : thenS m v = (some s, 0) := by rw [HRK.out, HE.out]
    have hsM := (H_hM.out.thn (H_hM.out.inv H_hI.out).1 hs).1
    have hsk := inv_still H_hM.out H_hI.out hs
    have hsok := hsM.q.ok
    have MK := Lib.hid (fun (u : World) (p : Nat) (a b : Addr) (c d : Nat) (h : MapA u p a b c d s) => knots_any p a b c d s u h hsok.k0 hsok.k1)
    rw [hsk] at MK
    obtain ⟨ps, a1, a2, a3, a4, rfl, hMS, _, _, _⟩ := HV.out
    have MW := Lib.hid (fun n u => lwhole_any n u)
    dsimp only [rv] at MW
    have ML := Lib.hid (fun (u : World) (a b : Addr) (c d : Nat) (h1 : KnA u a [((0, 1), (0, 1)), ((1, 1), (1, 1))]) (h2 : KnA u b [((0, 1), (0, 1)), ((1, 1), (1, 1))]) => lknots_some a b _ 2 c d u rfl h1 h2 (by decide))
    clear hs hsM hsk hsok
    go_wp2_with fail
    with_reducible refine (F1.out _).mono ?_
    rintro e_ w3 ⟨rfl, rfl⟩
    go_wp2_with fail
    with_reducible refine (MK.out _ _ _ _ _ _ hMS).mono ?_
    rintro e_ w4 ⟨ga, ca, rfl, hoa, hb4⟩
    have hka := own_kna hoa
    have hB4 := Hand.stepB hb4 HB2.out (Nat.le_refl _)
    clear hoa hb4 hMS
    go_wp2_with fail
    with_reducible refine (MW.out _ _).mono ?_
    rintro e_ w5 ⟨rfl, hb5⟩
    have hB5 := Hand.stepB hb5 hB4 (Nat.le_refl _)
    have hk5 := KnA.below hka hb5
    clear hb5 hB4 hka
    go_wp2_with fail
    with_reducible refine (MW.out _ _).mono ?_
    rintro e_ w6 ⟨rfl, hb6⟩
    have hB6 := Hand.stepB hb6 hB5 (Nat.le_refl _)
    have hk6 := KnA.below hk5 hb6
    clear hb6 hB5 hk5
    go_wp2_with fail
    with_reducible refine (MW.out _ _).mono ?_
    rintro e_ w7 ⟨rfl, hb7⟩
    have hB7 := Hand.stepB hb7 hB6 (Nat.le_refl _)
    have hk7 := KnA.below hk6 hb7
    clear hb7 hB6 hk6
    go_wp2_with fail
    with_reducible refine (MW.out _ _).mono ?_
    rintro e_ w8 ⟨rfl, hb8⟩
    have hB8 := Hand.stepB hb8 hB7 (Nat.le_refl _)
    have hk8 := KnA.below hk7 hb8
    clear hb8 hB7 hk7
    obtain ⟨V, hV⟩ : ∃ V, V = w8.alloc (.cells #[.int .i64 0, .int .i64 1, .int .i64 0, .int .i64 1, .int .i64 1, .int .i64 1, .int .i64 1, .int .i64 1] 35) := ⟨_, rfl⟩
    have hBV : Below W.heap.size W V := by rw [hV]; exact hB8.alloc hB8.size _
    have hBw8 : Below w8.heap.size w8 V := by rw [hV]; exact (Below.refl _ _).alloc (Nat.le_refl _) _
    have hkV := hk8.below hBw8
    have hkB : KnA V ⟨w8.heap.size, 0, none⟩ [((0, 1), (0, 1)), ((1, 1), (1, 1))] := by rw [hV]; exact kna2 (Hand.q3 _ _ _ rfl)
    clear hB8 hk8
    go_wp2_with fail
    rw [← hV]
    clear hV
    with_reducible refine (ML.out _ _ _ _ _ hkV hkB).mono ?_
    rintro e_ w9 ⟨rfl, hb9⟩
    have hB9 := Hand.stepB hb9 hBV (Nat.le_refl _)
    clear hb9 hBV hkV hkB
    go_wp2
    refine HK10.out _ _ ?_
    exact inv_c w _ m v ts (H_hm.out.below hB9) (H_hv.out.below hB9) H_hM.out H_hI.out (H_hT.out.below hB9) H_hR.out H_hN.out (H_hB.out.trans (Below.mono hB9 H_hB.out.size))
  · have j1 : (er == 0) = false := by simpa using he
    have F1 := Lib.hid (fun (u : World) => (by have := fine6_any er u; rw [j1] at this; exact this : Calls Try.prog 14 #[.int .i64 er] u fun r w' => r = .returned (.bool false) ∧ w' = u))
    clear j1 he
    go_wp2_with fail
    with_reducible refine (F1.out _).mono ?_
    rintro e_ w3 ⟨rfl, rfl⟩
    go_wp2
    refine HK10.out _ _ ?_
    exact inv_c w _ m v ts (H_hm.out.below HB2.out) (H_hv.out.below HB2.out) H_hM.out H_hI.out (H_hT.out.below HB2.out) H_hR.out H_hN.out (H_hB.out.trans (Below.mono HB2.out H_hB.out.size))
set_option maxHeartbeats 4000000 in
set_option maxRecDepth 100000 in
theorem inv_a (w W : World) (m v : MapV) (ts : List Rt) {z0 z2 z3 z4 z6 z8 z9 z10 z11 z12 z13 z14 z15 z16 z17 z18 z19 z20 z21 z22 z23 z24 z25 z26 z27 z28 z29 z30 z31 z32 z33 z34 z35 z36 z37 z38 z39 z40 z41 z42 z43 z44 z45 z46 z47 z48 z49 z50 z51 z52 z53 z54 z55 z56 z57 z58 z59 z60 z61 z62 z63 z64 z65 z66 z67 z68 z69 z70 z71 z72 z73 z74 z75 z76 z77 z78 z79 z80 z81 z82 z83 z84 z85 z86 z87 z88 z89 z90 z91 z92 z93 z94 z95 z96 z97 z98 z99 z100 z101 z102 z103 z104 z105 z106 z107 z108 z109 z110 z111 z112 z113 z114 z115 z116 z117 z118 z119 z120 z121 z122 z123 z124 z125 z126 z127 z128 z129 z130 : Value} {A : Option Addr} {cap p q : Nat} {ak as_ bk bs : Addr} {ck cs dk ds : Nat} (hm : MapA W p ak as_ ck cs m) (hv : MapA W q bk bs dk ds v) (hM : Mk m) (hI : invS m = (some v, 0)) (hT : RtS W A ts) (hR : ∀ t ∈ ts, R64 t) (hN : ts.length ≤ 2000) (hB : Below w.heap.size w W) :
    invT7.wp Try.prog (bodyPost Try.prog Try.f9 (fun e w' => e = .returned (.bool true) ∧ Below w.heap.size w w')) ⟨#[z0, .slice A ts.length cap, z2, z3, z4, .pointer (some ⟨p, 0, none⟩), z6, .pointer (some ⟨q, 0, none⟩), z8, z9, z10, z11, z12, z13, z14, z15, z16, z17, z18, z19, z20, z21, z22, z23, z24, z25, z26, z27, z28, z29, z30, z31, z32, z33, z34, z35, z36, z37, z38, z39, z40, z41, z42, z43, z44, z45, z46, z47, z48, z49, z50, z51, z52, z53, z54, z55, z56, z57, z58, z59, z60, z61, z62, z63, z64, z65, z66, z67, z68, z69, z70, z71, z72, z73, z74, z75, z76, z77, z78, z79, z80, z81, z82, z83, z84, z85, z86, z87, z88, z89, z90, z91, z92, z93, z94, z95, z96, z97, z98, z99, z100, z101, z102, z103, z104, z105, z106, z107, z108, z109, z110, z111, z112, z113, z114, z115, z116, z117, z118, z119, z120, z121, z122, z123, z124, z125, z126, z127, z128, z129, z130], []⟩ W := by
  have H_hm := Lib.hid hm
  have H_hv := Lib.hid hv
  have H_hM := Lib.hid hM
  have H_hI := Lib.hid hI
  have H_hT := Lib.hid hT
  have H_hR := Lib.hid hR
  have H_hN := Lib.hid hN
  have H_hB := Lib.hid hB
  have hvM := (hM.inv hI).1
  have hok := hM.q.ok
  have MT := Lib.hid (inv_any q bk bs dk ds v W hv hvM.q.ok)
  have M2 := Lib.hid (fun (u : World) (p : Nat) (a b : Addr) (c d : Nat) (h : MapA u p a b c d m) => knots_any p a b c d m u h hok.k0 hok.k1)
  have ML := Lib.hid (fun (u : World) (a b : Addr) (c d : Nat) (h1 : KnA u a m.knots) (h2 : KnA u b m.knots) => lknots_some a b m.knots m.knots.length c d u rfl h1 h2 (by have := hok.k1; omega))
  clear hm hv hM hI hT hR hN hB hvM hok
  obtain ⟨⟨mo, er⟩, hr⟩ : ∃ r, invS v = r := ⟨_, rfl⟩
  rw [hr] at MT
  have HRK := Lib.hid hr
  clear hr
  rw [invE7]
  refine wp_seq_k (fun K7 hK7 => ?_)
  have HK7 := Lib.hid hK7
  clear hK7
  conv => arg 2; whnf
  go_wp2_with fail
  with_reducible refine (MT.out).mono ?_
  rintro e_ w2 ⟨vv, rfl, hv, hb2⟩
  have HV := Lib.hid hv
  have HB2 := Lib.hid hb2
  clear hv hb2
  go_wp2
  refine HK7.out _ _ ?_
  rw [invE8]
  refine wp_seq_k (fun K8 hK8 => ?_)
  have HK8 := Lib.hid hK8
  clear hK8
  conv => arg 2; whnf
  by_cases he : er = 0
  · have j1 : (er == 0) = true := by simpa using he
    have F1 := Lib.hid (fun (u : World) => (by have := fine6_any er u; rw [j1] at this; exact this : Calls Try.prog 14 #[.int .i64 er] u fun r w' => r = .returned (.bool true) ∧ w' = u))
    have HE := Lib.hid he
    clear j1 he
    obtain ⟨s, rfl⟩ : ∃ s, mo = some s := by cases mo with | none => (exfalso; have := HRK.out; have hE := HE.out; unfold invS at this; rcases newK_cases (swapK v.knots) with ⟨z, hz⟩ | ⟨e, h1, h2⟩; rw [hz] at this; cases this; rw [h2] at this; cases this; exact h1 hE) | some s => exact ⟨s, rfl⟩
    have hs : invS v = (some s, 0) := by rw [HRK.out, HE.out]
    have hsM := ((H_hM.out.inv H_hI.out).1.inv hs).1
    have hsk := inv_knots H_hM.out H_hI.out hs
    have hsok := hsM.q.ok
    have MK := Lib.hid (fun (u : World) (p : Nat) (a b : Addr) (c d : Nat) (h : MapA u p a b c d s) => knots_any p a b c d s u h hsok.k0 hsok.k1)
    rw [hsk] at MK
    obtain ⟨ps, a1, a2, a3, a4, rfl, hMS, _, _, _⟩ := HV.out
    obtain ⟨nk, hnk⟩ : ∃ n, m.knots.length = n := ⟨_, rfl⟩
    rw [hnk] at MK M2 ML
    clear hs hsM hsk hsok hnk
    go_wp2_with fail
    with_reducible refine (F1.out _).mono ?_
    rintro e_ w3 ⟨rfl, rfl⟩
    go_wp2_with fail
    with_reducible refine (MK.out _ _ _ _ _ _ hMS).mono ?_
    rintro e_ w4 ⟨ga, ca, rfl, hoa, hb4⟩
    have hka := own_kna hoa
    have hB4 := Hand.stepB hb4 HB2.out (Nat.le_refl _)
    clear hoa hb4 hMS
    go_wp2_with fail
    with_reducible refine (M2.out _ _ _ _ _ _ (H_hm.out.below hB4)).mono ?_
    rintro e_ w5 ⟨gb, cb, rfl, hob, hb5⟩
    have hkb := own_kna hob
    have hka5 := hka.below hb5
    have hB5 := Hand.stepB hb5 hB4 (Nat.le_refl _)
    clear hob hb5 hka hB4
    go_wp2_with fail
    with_reducible refine (ML.out _ _ _ _ _ hka5 hkb).mono ?_
    rintro e_ w9 ⟨rfl, hb9⟩
    have hB9 := Hand.stepB hb9 hB5 (Nat.le_refl _)
    clear hb9 hB5 hka5 hkb
    go_wp2
    refine HK8.out _ _ ?_
    exact inv_b w _ m v ts (H_hm.out.below hB9) (H_hv.out.below hB9) H_hM.out H_hI.out (H_hT.out.below hB9) H_hR.out H_hN.out (H_hB.out.trans (Below.mono hB9 H_hB.out.size))
  · have j1 : (er == 0) = false := by simpa using he
    have F1 := Lib.hid (fun (u : World) => (by have := fine6_any er u; rw [j1] at this; exact this : Calls Try.prog 14 #[.int .i64 er] u fun r w' => r = .returned (.bool false) ∧ w' = u))
    clear j1 he
    go_wp2_with fail
    with_reducible refine (F1.out _).mono ?_
    rintro e_ w3 ⟨rfl, rfl⟩
    go_wp2
    refine HK8.out _ _ ?_
    exact inv_b w _ m v ts (H_hm.out.below HB2.out) (H_hv.out.below HB2.out) H_hM.out H_hI.out (H_hT.out.below HB2.out) H_hR.out H_hN.out (H_hB.out.trans (Below.mono HB2.out H_hB.out.size))
set_option maxHeartbeats 4000000 in
set_option maxRecDepth 100000 in
theorem inv_t1 (w : World) (l : List Kn) (ts : List Rt) {z2 z3 z4 z5 z6 z7 z8 z9 z10 z11 z12 z13 z14 z15 z16 z17 z18 z19 z20 z21 z22 z23 z24 z25 z26 z27 z28 z29 z30 z31 z32 z33 z34 z35 z36 z37 z38 z39 z40 z41 z42 z43 z44 z45 z46 z47 z48 z49 z50 z51 z52 z53 z54 z55 z56 z57 z58 z59 z60 z61 z62 z63 z64 z65 z66 z67 z68 z69 z70 z71 z72 z73 z74 z75 z76 z77 z78 z79 z80 z81 z82 z83 z84 z85 z86 z87 z88 z89 z90 z91 z92 z93 z94 z95 z96 z97 z98 z99 z100 z101 z102 z103 z104 z105 z106 z107 z108 z109 z110 z111 z112 z113 z114 z115 z116 z117 z118 z119 z120 z121 z122 z123 z124 z125 z126 z127 z128 z129 z130 : Value} {A Al : Option Addr} {cap capl : Nat} (hK : KnS w Al l) (hKR : KnR l) (hT : RtS w A ts) (hR : ∀ t ∈ ts, R64 t) :
    invT1.wp Try.prog (bodyPost Try.prog Try.f9 (fun e w' => e = .returned (.bool true) ∧ Below w.heap.size w w')) ⟨#[.slice Al l.length capl, .slice A ts.length cap, z2, z3, z4, z5, z6, z7, z8, z9, z10, z11, z12, z13, z14, z15, z16, z17, z18, z19, z20, z21, z22, z23, z24, z25, z26, z27, z28, z29, z30, z31, z32, z33, z34, z35, z36, z37, z38, z39, z40, z41, z42, z43, z44, z45, z46, z47, z48, z49, z50, z51, z52, z53, z54, z55, z56, z57, z58, z59, z60, z61, z62, z63, z64, z65, z66, z67, z68, z69, z70, z71, z72, z73, z74, z75, z76, z77, z78, z79, z80, z81, z82, z83, z84, z85, z86, z87, z88, z89, z90, z91, z92, z93, z94, z95, z96, z97, z98, z99, z100, z101, z102, z103, z104, z105, z106, z107, z108, z109, z110, z111, z112, z113, z114, z115, z116, z117, z118, z119, z120, z121, z122, z123, z124, z125, z126, z127, z128, z129, z130], []⟩ w := by
  have MKN := Lib.hid known6_any
  have H_hK := Lib.hid hK
  have H_hKR := Lib.hid hKR
  have H_hT := Lib.hid hT
  have H_hR := Lib.hid hR
  clear hK hKR hT hR
  obtain ⟨n, hn⟩ : ∃ n, ts.length = n := ⟨_, rfl⟩
  rw [hn]
  have HN := Lib.hid hn
  clear hn
  have MN := Lib.hid (fun (u : World) (h : KnS u Al l) => newm_any u l Al capl h H_hKR.out)
  obtain ⟨nl, hnl⟩ : ∃ n, l.length = n := ⟨_, rfl⟩
  rw [hnl]
  obtain ⟨⟨mo, er⟩, hr⟩ : ∃ r, newK l = r := ⟨_, rfl⟩
  rw [hnl, hr] at MN
  have HNL := Lib.hid hnl
  have HRK := Lib.hid hr
  clear hnl hr
  rw [invE1]
  refine wp_seq_k (fun K1 hK1 => ?_)
  have HK1 := Lib.hid hK1
  clear hK1
  conv => arg 2; whnf
  go_wp2_with fail
  with_reducible refine (MKN.out _).mono ?_
  rintro e_ w1 ⟨rfl, hb1⟩
  go_wp2
  refine HK1.out _ _ ?_
  rw [invE2]
  refine wp_seq_k (fun K2 hK2 => ?_)
  have HK2 := Lib.hid hK2
  clear hK2
  conv => arg 2; whnf
  by_cases h2000 : n ≤ 2000
  · have q1 : ((2000 : Int) < (n : Int)) = False := eq_false (by omega)
    go_wp2
    refine HK2.out _ _ ?_
    rw [invE3]
    refine wp_seq_k (fun K3 hK3 => ?_)
    have HK3 := Lib.hid hK3
    clear hK3
    conv => arg 2; whnf
    go_wp2_with fail
    with_reducible refine (MN.out _ (H_hK.out.below hb1)).mono ?_
    rintro e_ w2 ⟨vv, rfl, hv, hb2⟩
    have HV := Lib.hid hv
    have HB2 := Lib.hid (Hand.stepB hb2 hb1 (Nat.le_refl _))
    clear hv hb1 hb2
    go_wp2
    refine HK3.out _ _ ?_
    by_cases he : er = 0
    · have j1 : (er == 0) = true := by simpa using he
      have F1 := Lib.hid (fun (u : World) => (by have := fine6_any er u; rw [j1] at this; exact this : Calls Try.prog 14 #[.int .i64 er] u fun r w' => r = .returned (.bool true) ∧ w' = u))
      have HE := Lib.hid he
      clear j1 he
      rw [invE4]
      refine wp_seq_k (fun K4 hK4 => ?_)
      have HK4 := Lib.hid hK4
      clear hK4
      conv => arg 2; whnf
      go_wp2_with fail
      with_reducible refine (F1.out _).mono ?_
      rintro e_ w3 ⟨rfl, rfl⟩
      go_wp2
      refine HK4.out _ _ ?_
      obtain ⟨m, hm⟩ : ∃ m, newK l = (some m, 0) := by rcases newK_cases l with h | ⟨e, h1, h2⟩; exact h; rw [HRK.out] at h2; cases h2; exact absurd HE.out h1
      have hmo := HRK.out
      rw [hm] at hmo
      cases hmo
      have hM := mk_of hm
      obtain ⟨p, ak, as_, ck, cs, rfl, hMA, _, _, _⟩ := HV.out
      have MI := Lib.hid (inv_any p ak as_ ck cs m _ hMA hM.q.ok)
      obtain ⟨⟨vo, ev⟩, hvr⟩ : ∃ r, invS m = r := ⟨_, rfl⟩
      rw [hvr] at MI
      have HVR := Lib.hid hvr
      have HMA := Lib.hid hMA
      have HMk := Lib.hid hM
      clear hvr hMA hM hm
      rw [invE5]
      refine wp_seq_k (fun K5 hK5 => ?_)
      have HK5 := Lib.hid hK5
      clear hK5
      conv => arg 2; whnf
      go_wp2_with fail
      with_reducible refine (MI.out).mono ?_
      rintro e_ w4 ⟨v2, rfl, hv, hb4⟩
      have HV2 := Lib.hid hv
      have HB4 := Lib.hid hb4
      clear hv hb4
      go_wp2
      refine HK5.out _ _ ?_
      by_cases he : ev = 0
      · have j1 : (ev == 0) = true := by simpa using he
        have F2 := Lib.hid (fun (u : World) => (by have := fine6_any ev u; rw [j1] at this; exact this : Calls Try.prog 14 #[.int .i64 ev] u fun r w' => r = .returned (.bool true) ∧ w' = u))
        have HE2 := Lib.hid he
        clear j1 he
        obtain ⟨v, rfl⟩ : ∃ s, vo = some s := by cases vo with | none => (exfalso; have := HVR.out; have hE := HE2.out; unfold invS at this; rcases newK_cases (swapK m.knots) with ⟨z, hz⟩ | ⟨e, h1, h2⟩; rw [hz] at this; cases this; rw [h2] at this; cases this; exact h1 hE) | some s => exact ⟨s, rfl⟩
        have hI : invS m = (some v, 0) := by rw [HVR.out, HE2.out]
        obtain ⟨q, b1, b2, b3, b4, rfl, hMV, _, _, _⟩ := HV2.out
        rw [invE6]
        refine wp_seq_k (fun K6 hK6 => ?_)
        have HK6 := Lib.hid hK6
        clear hK6
        conv => arg 2; whnf
        go_wp2_with fail
        with_reducible refine (F2.out _).mono ?_
        rintro e_ w5 ⟨rfl, rfl⟩
        go_wp2
        refine HK6.out _ _ ?_
        rw [← HN.out]
        exact inv_a w _ m v ts (HMA.out.below HB4.out) hMV HMk.out hI ((H_hT.out.below HB2.out).below HB4.out) H_hR.out (by rw [HN.out]; exact h2000) (Hand.stepB HB4.out HB2.out (Nat.le_refl _))
      · have j1 : (ev == 0) = false := by simpa using he
        have F2 := Lib.hid (fun (u : World) => (by have := fine6_any ev u; rw [j1] at this; exact this : Calls Try.prog 14 #[.int .i64 ev] u fun r w' => r = .returned (.bool false) ∧ w' = u))
        have HE2 := Lib.hid he
        clear j1 he
        obtain rfl : vo = none := by cases vo with | none => rfl | some s => (exfalso; have := HVR.out; have hE := HE2.out; unfold invS at this; rcases newK_cases (swapK m.knots) with ⟨z, hz⟩ | ⟨e, h1, h2⟩; rw [hz] at this; cases this; exact hE rfl; rw [h2] at this; cases this)
        obtain rfl : v2 = .pointer none := HV2.out
        rw [invE6]
        refine wp_seq_k (fun K6 hK6 => ?_)
        have HK6 := Lib.hid hK6
        clear hK6
        conv => arg 2; whnf
        go_wp2_with fail
        with_reducible refine (F2.out _).mono ?_
        rintro e_ w5 ⟨rfl, rfl⟩
        go_wp2
        go_ret
        exact ⟨rfl, Hand.stepB HB4.out HB2.out (Nat.le_refl _)⟩
    · have j1 : (er == 0) = false := by simpa using he
      have F1 := Lib.hid (fun (u : World) => (by have := fine6_any er u; rw [j1] at this; exact this : Calls Try.prog 14 #[.int .i64 er] u fun r w' => r = .returned (.bool false) ∧ w' = u))
      have HE := Lib.hid he
      clear j1 he
      obtain rfl : mo = none := by cases mo with | none => rfl | some s => (exfalso; have := HRK.out; have hE := HE.out; rcases newK_cases l with ⟨z, hz⟩ | ⟨e, h1, h2⟩; rw [hz] at this; cases this; exact hE rfl; rw [h2] at this; cases this)
      obtain rfl : vv = .pointer none := HV.out
      rw [invE4]
      refine wp_seq_k (fun K4 hK4 => ?_)
      have HK4 := Lib.hid hK4
      clear hK4
      conv => arg 2; whnf
      go_wp2_with fail
      with_reducible refine (F1.out _).mono ?_
      rintro e_ w3 ⟨rfl, rfl⟩
      go_wp2
      go_ret
      exact ⟨rfl, HB2.out⟩
  · have q1 : ((2000 : Int) < (n : Int)) = True := eq_true (by omega)
    go_wp2
    go_ret
    exact ⟨rfl, hb1⟩
set_option maxHeartbeats 4000000 in
set_option maxRecDepth 100000 in
theorem inverts6 (l : List Kn) (ts : List Rt) (w : World) {A Al : Option Addr} {cap capl : Nat} (hK : KnS w Al l) (hKR : KnR l) (hT : RtS w A ts) (hR : ∀ t ∈ ts, R64 t) :
    Calls Try.prog 9 #[.slice Al l.length capl, .slice A ts.length cap] w fun e w' => e = .returned (.bool true) ∧ Below w.heap.size w w' := by
  have H_hK := Lib.hid hK
  have H_hKR := Lib.hid hKR
  have H_hT := Lib.hid hT
  have H_hR := Lib.hid hR
  clear hK hKR hT hR
  go_enter Try.func9, Try.ntmps9
  refine wp_seq_k (fun K0 hK0 => ?_)
  have HK0 := Lib.hid hK0
  clear hK0
  go_wp2
  refine HK0.out _ _ ?_
  exact inv_t1 w l ts H_hK.out H_hKR.out H_hT.out H_hR.out
end Go.Proofs.Ythlpaglldhgmfaa.PA
