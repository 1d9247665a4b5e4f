/- Chapter 6: RetimeOnly, walked from its head. -/
import Derived.Test.YthlpaglldhgmfaaOnlB
import Derived.Test.YthlpaglldhgmfaaOp6
namespace Go.Proofs.Ythlpaglldhgmfaa.PA
open Go Go.RowKit Go.Proofs.YthlpaglldhgmfaaW.PrintWords Go.Proofs.YthlpaglldhgmfaaW.PrintLast Go.Proofs.YthlpaglldhgmfaaW.PrintMore
attribute [local go_sem high] eqA31 eqA35
set_option linter.unusedSimpArgs false
set_option linter.unusedVariables false
set_option maxHeartbeats 4000000 in
set_option maxRecDepth 100000 in
theorem onl_b (w W : World) (l : List Kn) (m : MapV) (t : Rt) {z1 z2 z4 z6 z7 z8 z9 z10 z11 z12 z13 z14 z15 z16 z17 z18 z19 z20 z21 z22 z23 z24 z25 z26 z27 z28 z29 z30 z31 z32 z33 z34 z35 z36 z37 z38 z39 z40 z41 z42 z43 z44 z45 z46 z47 z48 z49 z50 z51 z52 z53 z54 z55 z56 z57 z58 z59 z60 z61 z62 z63 z64 z65 z66 z67 z68 z69 z70 z71 z72 z73 z74 z75 z76 z77 z78 z79 z80 z81 z82 z83 z84 z85 z86 z87 z88 z89 z90 z91 z92 z93 z94 z95 z96 z97 z98 z99 z100 z101 z102 z103 z104 z105 z106 z107 z108 z109 z110 z111 z112 z113 z114 z115 z116 : Value} {al : Addr} {n capl p gt : Nat} {ak as_ : Addr} {ck cs : Nat} (hn : n = l.length) (hnew : newK l = (some m, 0)) (hm : MapA W p ak as_ ck cs m) (hK : KnA W al l) (ht : R64 t) (gT : W.heap[gt]? = some (.cells #[.int .i64 t.1, .int .i64 t.2] 31 (0, 0))) (hB : Below w.heap.size w W) :
    onlT4.wp Try.prog (bodyPost Try.prog Try.f4 (fun e w' => e = .returned (.bool true) ∧ Below w.heap.size w w')) ⟨#[.slice (some al) n capl, z1, z2, .pointer (some ⟨gt, 0, none⟩), z4, .pointer (some ⟨p, 0, none⟩), z6, z7, z8, z9, z10, z11, z12, z13, z14, z15, z16, z17, z18, z19, z20, z21, z22, z23, z24, z25, z26, z27, z28, z29, z30, z31, z32, z33, z34, z35, z36, z37, z38, z39, z40, z41, z42, z43, z44, z45, z46, z47, z48, z49, z50, z51, z52, z53, z54, z55, z56, z57, z58, z59, z60, z61, z62, z63, z64, z65, z66, z67, z68, z69, z70, z71, z72, z73, z74, z75, z76, z77, z78, z79, z80, z81, z82, z83, z84, z85, z86, z87, z88, z89, z90, z91, z92, z93, z94, z95, z96, z97, z98, z99, z100, z101, z102, z103, z104, z105, z106, z107, z108, z109, z110, z111, z112, z113, z114, z115, z116], []⟩ W := by
  obtain ⟨t1, t2⟩ := t
  have hQ := newK_Q hnew
  have hok := hQ.ok
  have hag := own_again hnew
  have M1 := Lib.hid (fun (u : World) (q : Nat) (a b : Addr) (c d : Nat) (h : MapA u q a b c d m) => knots_any q a b c d m u h hok.k0 hok.k1)
  have MN := Lib.hid (fun (u : World) (a : Addr) (c : Nat) (h : KnA u a m.knots) => (by have := newm_any u m.knots (some a) c (.inr ⟨_, rfl, h⟩) hok.kr; rw [hag] at this; exact this : Calls Try.prog 13 #[.slice (some a) m.knots.length c] u (NewQ u (some m, 0))))
  have MK := Lib.hid (fun (u : World) (a b : Addr) (c d : Nat) (h1 : KnA u a m.knots) (h2 : KnA u b m.knots) => lknots_some a b m.knots m.knots.length c d u rfl h1 h2 (by have := hok.k1; omega))
  obtain ⟨⟨⟨x1, x2⟩, e1⟩, hX⟩ : ∃ X, m.app (t1, t2) = X := ⟨_, rfl⟩
  have MA := Lib.hid (fun (u : World) (h : MapA u p ak as_ ck cs m) => (by have := app_any p ak as_ ck cs m (t1, t2) u h hok ht; rw [hX] at this; exact this : Calls Try.prog 15 #[.pointer (some ⟨p, 0, none⟩), .agg #[.int .i64 t1, .int .i64 t2]] u fun e w' => e = .returned (.tuple #[.agg #[.int .i64 x1, .int .i64 x2], .int .i64 e1]) ∧ Below u.heap.size u w'))
  obtain ⟨nk, hnk⟩ : ∃ n, m.knots.length = n := ⟨_, rfl⟩
  rw [hnk] at M1 MN MK
  have F0 := Lib.hid (fun (u : World) => (by have := fine6_any 0 u; rw [show ((0 : Int) == 0) = true from rfl] at this; exact this : Calls Try.prog 14 #[.int .i64 0] u fun r w' => r = .returned (.bool true) ∧ w' = u))
  have HN := Lib.hid hn
  have HQ := Lib.hid hQ
  have HNEW := Lib.hid hnew
  have HM := Lib.hid hm
  have HK := Lib.hid hK
  have HX := Lib.hid hX
  have HT := Lib.hid ht
  have GT := Lib.hid gT
  have HB := Lib.hid hB
  clear hn hQ hnew hm hK hX ht gT hB hag hok hnk
  rw [onlE4]
  refine wp_seq_k (fun K4 hK4 => ?_)
  have HK4 := Lib.hid hK4
  clear hK4
  conv => arg 2; whnf
  go_wp2_with fail
  with_reducible refine (M1.out _ _ _ _ _ _ HM.out).mono ?_
  rintro e_ w1 ⟨ga, ca, rfl, hoa, hb1⟩
  have hka := own_kna hoa
  clear hoa
  go_wp2_with fail
  with_reducible refine (MN.out _ _ _ hka).mono ?_
  rintro e_ w2 ⟨v, rfl, ⟨p2, a2, b2, c2, d2, rfl, hM2, _, _, _⟩, hb2⟩
  have hB2 : Below W.heap.size W w2 := Hand.stepB hb2 hb1 (Nat.le_refl _)
  clear hb1 hb2 hka
  go_wp2
  refine HK4.out _ _ ?_
  rw [onlE5]
  refine wp_seq_k (fun K5 hK5 => ?_)
  have HK5 := Lib.hid hK5
  clear hK5
  conv => arg 2; whnf
  go_wp2_with fail
  with_reducible refine (F0.out _).mono ?_
  rintro e_ w3 ⟨rfl, rfl⟩
  go_wp2_with fail
  with_reducible refine (M1.out _ _ _ _ _ _ hM2).mono ?_
  rintro e_ w4 ⟨gb, cb, rfl, hob, hb4⟩
  have hkb := own_kna hob
  have hB4 := Hand.stepB hb4 hB2 (Nat.le_refl _)
  clear hob hb4 hB2
  go_wp2_with fail
  with_reducible refine (M1.out _ _ _ _ _ _ (HM.out.below hB4)).mono ?_
  rintro e_ w5 ⟨gc, cc, rfl, hoc, hb5⟩
  have hkc := own_kna hoc
  have hB5 := Hand.stepB hb5 hB4 (Nat.le_refl _)
  have hkb5 := hkb.below hb5
  clear hoc hb5 hB4 hkb
  go_wp2_with fail
  with_reducible refine (MK.out _ _ _ _ _ hkb5 hkc).mono ?_
  rintro e_ w6 ⟨rfl, hb6⟩
  have hB6 := Hand.stepB hb6 hB5 (Nat.le_refl _)
  clear hb6 hB5 hkb5 hkc hM2
  go_wp2
  refine HK5.out _ _ ?_
  have gt6 := Hand.kb hB6 GT.out
  obtain ⟨c0, fc0, c1, fc1⟩ := Hand.hc2 gt6
  rw [onlE6]
  refine wp_seq_k (fun K6 hK6 => ?_)
  have HK6 := Lib.hid hK6
  clear hK6
  conv => arg 2; whnf
  go_wp2_with fail
  with_reducible refine (MA.out _ (HM.out.below hB6)).mono ?_
  rintro e_ w7 ⟨rfl, hb7⟩
  have hB7 := Hand.stepB hb7 hB6 (Nat.le_refl _)
  clear hb7 hB6 gt6 c0 fc0 c1 fc1
  obtain ⟨V, hV⟩ : ∃ V_, V_ = w7.alloc (.cells #[.int .i64 x1, .int .i64 x2] 31) := ⟨_, rfl⟩
  have gx : V.heap[w7.heap.size]? = some (.cells #[.int .i64 x1, .int .i64 x2] 31 (0, 0)) := by rw [hV]; exact Hand.q3 _ _ _ rfl
  have hBV : Below W.heap.size W V := by rw [hV]; exact hB7.alloc hB7.size _
  have GX := Lib.hid gx
  have HBV := Lib.hid hBV
  clear hB7 gx hBV
  go_wp2
  refine HK6.out _ _ ?_
  rw [← hV]
  clear hV
  rw [onlE7]
  refine wp_seq_k (fun K7 hK7 => ?_)
  have HK7 := Lib.hid hK7
  clear hK7
  conv => arg 2; whnf
  by_cases h1 : e1 = 0
  · have j1 : (e1 == 0) = true := by simpa using h1
    have F1 := Lib.hid (fun (u : World) => (by have := fine6_any e1 u; rw [j1] at this; exact this : Calls Try.prog 14 #[.int .i64 e1] u fun r w' => r = .returned (.bool true) ∧ w' = u))
    have H1 := Lib.hid h1
    clear h1 j1
    go_wp2_with fail
    with_reducible refine (F1.out _).mono ?_
    rintro e_ w8 ⟨rfl, rfl⟩
    by_cases hn64 : 64 ≤ n
    · have q1 : ((64 : Int) ≤ (n : Int)) = True := eq_true (by omega)
      go_wp2
      go_ret
      exact ⟨rfl, HB.out.trans (Below.mono HBV.out HB.out.size)⟩
    · have q1 : ((64 : Int) ≤ (n : Int)) = False := eq_false (by omega)
      by_cases hn2 : n < 2
      · have q2 : ((n : Int) < 2) = True := eq_true (by omega)
        go_wp2
        go_ret
        exact ⟨rfl, HB.out.trans (Below.mono HBV.out HB.out.size)⟩
      · have q2 : ((n : Int) < 2) = False := eq_false (by omega)
        go_wp2
        refine HK7.out _ _ ?_
        rw [onlE8]
        refine wp_seq_k (fun K8 hK8 => ?_)
        have HK8 := Lib.hid hK8
        clear hK8
        conv => arg 2; whnf
        go_wp2
        refine HK8.out _ _ ?_
        rw [onlE9]
        refine wp_seq_k (fun K9 hK9 => ?_)
        have HK9 := Lib.hid hK9
        clear hK9
        conv => arg 2; whnf
        go_wp2
        refine HK9.out _ _ ?_
        exact onl_c w _ l m (t1, t2) (x1, x2) HN.out HQ.out HNEW.out (HM.out.below HBV.out) (HK.out.below HBV.out) (HX.out.trans (by rw [H1.out])) (by omega) (by omega) HT.out (Hand.kb HBV.out GT.out) GX.out (HB.out.trans (Below.mono HBV.out HB.out.size))
  · have j1 : (e1 == 0) = false := by simpa using h1
    have F1 := Lib.hid (fun (u : World) => (by have := fine6_any e1 u; rw [j1] at this; exact this : Calls Try.prog 14 #[.int .i64 e1] u fun r w' => r = .returned (.bool false) ∧ w' = u))
    clear h1 j1
    go_wp2_with fail
    with_reducible refine (F1.out _).mono ?_
    rintro e_ w8 ⟨rfl, rfl⟩
    go_wp2
    go_ret
    exact ⟨rfl, HB.out.trans (Below.mono HBV.out HB.out.size)⟩
set_option maxHeartbeats 4000000 in
set_option maxRecDepth 100000 in
theorem onl_t1 (w W : World) (l : List Kn) (t : Rt) {z1 z2 z4 z5 z6 z7 z8 z9 z10 z11 z12 z13 z14 z15 z16 z17 z18 z19 z20 z21 z22 z23 z24 z25 z26 z27 z28 z29 z30 z31 z32 z33 z34 z35 z36 z37 z38 z39 z40 z41 z42 z43 z44 z45 z46 z47 z48 z49 z50 z51 z52 z53 z54 z55 z56 z57 z58 z59 z60 z61 z62 z63 z64 z65 z66 z67 z68 z69 z70 z71 z72 z73 z74 z75 z76 z77 z78 z79 z80 z81 z82 z83 z84 z85 z86 z87 z88 z89 z90 z91 z92 z93 z94 z95 z96 z97 z98 z99 z100 z101 z102 z103 z104 z105 z106 z107 z108 z109 z110 z111 z112 z113 z114 z115 z116 : Value} {gt : Nat} {Al : Option Addr} {capl : Nat} (hK : KnS W Al l) (hKR : KnR l) (ht : R64 t) (gT : W.heap[gt]? = some (.cells #[.int .i64 t.1, .int .i64 t.2] 31 (0, 0))) (hB : Below w.heap.size w W) :
    onlT1.wp Try.prog (bodyPost Try.prog Try.f4 (fun e w' => e = .returned (.bool true) ∧ Below w.heap.size w w')) ⟨#[.slice Al l.length capl, z1, z2, .pointer (some ⟨gt, 0, none⟩), z4, z5, z6, z7, z8, z9, z10, z11, z12, z13, z14, z15, z16, z17, z18, z19, z20, z21, z22, z23, z24, z25, z26, z27, z28, z29, z30, z31, z32, z33, z34, z35, z36, z37, z38, z39, z40, z41, z42, z43, z44, z45, z46, z47, z48, z49, z50, z51, z52, z53, z54, z55, z56, z57, z58, z59, z60, z61, z62, z63, z64, z65, z66, z67, z68, z69, z70, z71, z72, z73, z74, z75, z76, z77, z78, z79, z80, z81, z82, z83, z84, z85, z86, z87, z88, z89, z90, z91, z92, z93, z94, z95, z96, z97, z98, z99, z100, z101, z102, z103, z104, z105, z106, z107, z108, z109, z110, z111, z112, z113, z114, z115, z116], []⟩ W := by
  have MKN := Lib.hid known6_any
  have HK := Lib.hid hK
  have HKR := Lib.hid hKR
  have HT := Lib.hid ht
  have GT := Lib.hid gT
  have HB := Lib.hid hB
  clear hK hKR ht gT hB
  obtain ⟨nl, hnl⟩ : ∃ n, l.length = n := ⟨_, rfl⟩
  have MN := Lib.hid (fun (u : World) (h : KnS u Al l) => newm_any u l Al capl h HKR.out)
  rw [hnl]
  obtain ⟨⟨mo, er⟩, hr⟩ : ∃ r, newK l = r := ⟨_, rfl⟩
  rw [hnl, hr] at MN
  have HNL := Lib.hid hnl
  have HRK := Lib.hid hr
  clear hnl hr
  rw [onlE1]
  refine wp_seq_k (fun K1 hK1 => ?_)
  have HK1 := Lib.hid hK1
  clear hK1
  conv => arg 2; whnf
  go_wp2_with fail
  with_reducible refine (MKN.out _).mono ?_
  rintro e_ w1 ⟨rfl, hb1⟩
  go_wp2
  refine HK1.out _ _ ?_
  rw [onlE2]
  refine wp_seq_k (fun K2 hK2 => ?_)
  have HK2 := Lib.hid hK2
  clear hK2
  conv => arg 2; whnf
  go_wp2_with fail
  with_reducible refine (MN.out _ (HK.out.below hb1)).mono ?_
  rintro e_ w2 ⟨v, rfl, hv, hb2⟩
  have hB2 := Hand.stepB hb2 hb1 (Nat.le_refl _)
  have hK2 := (HK.out.below hb1).below hb2
  have HV := Lib.hid hv
  have HB2 := Lib.hid hB2
  have HK2_ := Lib.hid hK2
  clear hv hb1 hb2 hB2 hK2
  go_wp2
  refine HK2.out _ _ ?_
  rw [onlE3]
  refine wp_seq_k (fun K3 hK3 => ?_)
  have HK3 := Lib.hid hK3
  clear hK3
  conv => arg 2; whnf
  by_cases he : er = 0
  · have j1 : (er == 0) = true := by simpa using he
    have F1 := Lib.hid (fun (u : World) => (by have := fine6_any er u; rw [j1] at this; exact this : Calls Try.prog 14 #[.int .i64 er] u fun r w' => r = .returned (.bool true) ∧ w' = u))
    have HE := Lib.hid he
    clear j1 he
    go_wp2_with fail
    with_reducible refine (F1.out _).mono ?_
    rintro e_ w3 ⟨rfl, rfl⟩
    go_wp2
    refine HK3.out _ _ ?_
    obtain ⟨m, hm⟩ : ∃ m, newK l = (some m, 0) := by rcases newK_cases l with h | ⟨e, h1, h2⟩; exact h; rw [HRK.out] at h2; cases h2; exact absurd HE.out h1
    have hmo := HRK.out
    rw [hm] at hmo
    cases hmo
    have hq := newK_Q hm
    obtain ⟨p, ak, as_, ck, cs, rfl, hMA, _, _, _⟩ := HV.out
    obtain ⟨al, rfl, hKL⟩ : ∃ al, Al = some al ∧ KnA _ al l := HK2_.out.resolve_left hq.ne
    exact onl_b w _ l m t HNL.out.symm hm hMA hKL HT.out (Hand.kb HB2.out GT.out) (HB.out.trans (Below.mono HB2.out HB.out.size))
  · have j1 : (er == 0) = false := by simpa using he
    have F1 := Lib.hid (fun (u : World) => (by have := fine6_any er u; rw [j1] at this; exact this : Calls Try.prog 14 #[.int .i64 er] u fun r w' => r = .returned (.bool false) ∧ w' = u))
    clear j1 he
    go_wp2_with fail
    with_reducible refine (F1.out _).mono ?_
    rintro e_ w3 ⟨rfl, rfl⟩
    go_wp2
    go_ret
    exact ⟨rfl, HB.out.trans (Below.mono HB2.out HB.out.size)⟩
set_option maxHeartbeats 4000000 in
set_option maxRecDepth 100000 in
theorem only6 (l : List Kn) (t1 t2 : Int) (w : World) {Al : Option Addr} {capl : Nat} (hK : KnS w Al l) (hKR : KnR l) (ht : R64 (t1, t2)) :
    Calls Try.prog 4 #[.slice Al l.length capl, .agg #[.int .i64 t1, .int .i64 t2]] w fun e w' => e = .returned (.bool true) ∧ Below w.heap.size w w' := by
  have HK := Lib.hid hK
  have HKR := Lib.hid hKR
  have HT := Lib.hid ht
  clear hK hKR ht
  go_enter Try.func4, Try.ntmps4
  refine wp_seq_k (fun K0 hK0 => ?_)
  have HK0 := Lib.hid hK0
  clear hK0
  go_wp2
  refine HK0.out _ _ ?_
  exact onl_t1 w _ l (t1, t2) (HK.out.below ((Below.refl _ _).alloc (Nat.le_refl _) _)) HKR.out HT.out (Hand.q3 _ _ _ rfl) ((Below.refl _ _).alloc (Nat.le_refl _) _)
theorem only6r (l : List Kn) (t1 t2 : Int) (w : World) {Al : Option Addr} {capl : Nat} (hK : KnS w Al l) (hKR : KnR l) (h1 : (Lit.int .i64 t1).wf = true) (h2 : (Lit.int .i64 t2).wf = true) :
    Calls Try.prog 4 #[.slice Al l.length capl, .agg #[.int .i64 t1, .int .i64 t2]] w fun e w' => e = .returned (.bool true) ∧ Below w.heap.size w w' :=
  only6 l t1 t2 w hK hKR (wf_R64 h1 h2)
end Go.Proofs.Ythlpaglldhgmfaa.PA
