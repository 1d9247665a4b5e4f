/- Chapter 6: RetimeRises, walked from its head. -/
import Derived.Test.YthlpaglldhgmfaaRisB
namespace Go.Proofs.Ythlpaglldhgmfaa.PA
open Go Go.RowKit Go.Proofs.YthlpaglldhgmfaaW.PrintWords Go.Proofs.YthlpaglldhgmfaaW.PrintLast Go.Proofs.YthlpaglldhgmfaaW.PrintMore
attribute [local go_sem high] eqA31 eqA35
set_option linter.unusedSimpArgs false
set_option linter.unusedVariables false
set_option maxHeartbeats 4000000 in
set_option maxRecDepth 100000 in
theorem ris_t1 (w : World) (l : List Kn) (ts : List Rt) {z2 z3 z4 z5 z6 z7 z8 z9 z10 z11 z12 z13 z14 z15 z16 z17 z18 z19 z20 z21 z22 z23 z24 z25 z26 z27 z28 z29 z30 z31 z32 z33 z34 z35 z36 z37 z38 z39 z40 z41 z42 z43 z44 z45 z46 z47 z48 z49 z50 z51 z52 z53 z54 z55 z56 z57 z58 z59 z60 z61 z62 z63 z64 z65 z66 z67 z68 z69 z70 z71 z72 z73 z74 z75 z76 z77 z78 z79 z80 z81 z82 z83 z84 z85 z86 z87 z88 z89 z90 z91 z92 z93 z94 z95 z96 z97 z98 z99 z100 z101 z102 z103 z104 z105 z106 z107 z108 z109 z110 z111 z112 z113 z114 z115 z116 z117 z118 z119 z120 z121 z122 z123 z124 z125 z126 z127 z128 z129 z130 z131 z132 z133 z134 z135 z136 z137 z138 z139 z140 : Value} {A Al : Option Addr} {cap capl : Nat} (hK : KnS w Al l) (hKR : KnR l) (hT : RtS w A ts) (hR : ∀ t ∈ ts, R64 t) :
    risT1.wp Try.prog (bodyPost Try.prog Try.f3 (fun e w' => e = .returned (.bool true) ∧ Below w.heap.size w w')) ⟨#[.slice Al l.length capl, .slice A ts.length cap, z2, z3, z4, z5, z6, z7, z8, z9, z10, z11, z12, z13, z14, z15, z16, z17, z18, z19, z20, z21, z22, z23, z24, z25, z26, z27, z28, z29, z30, z31, z32, z33, z34, z35, z36, z37, z38, z39, z40, z41, z42, z43, z44, z45, z46, z47, z48, z49, z50, z51, z52, z53, z54, z55, z56, z57, z58, z59, z60, z61, z62, z63, z64, z65, z66, z67, z68, z69, z70, z71, z72, z73, z74, z75, z76, z77, z78, z79, z80, z81, z82, z83, z84, z85, z86, z87, z88, z89, z90, z91, z92, z93, z94, z95, z96, z97, z98, z99, z100, z101, z102, z103, z104, z105, z106, z107, z108, z109, z110, z111, z112, z113, z114, z115, z116, z117, z118, z119, z120, z121, z122, z123, z124, z125, z126, z127, z128, z129, z130, z131, z132, z133, z134, z135, z136, z137, z138, z139, z140], []⟩ w := by
  have MKN := Lib.hid known6_any
  have HK := Lib.hid hK
  have HKR := Lib.hid hKR
  have HT := Lib.hid hT
  have HR := Lib.hid hR
  clear hK hKR hT hR
  obtain ⟨n, hn⟩ : ∃ n, ts.length = n := ⟨_, rfl⟩
  rw [hn]
  have HN := Lib.hid hn
  clear hn
  obtain ⟨nl, hnl⟩ : ∃ n, l.length = n := ⟨_, rfl⟩
  have MN := Lib.hid (fun (u : World) (h : KnS u Al l) => newm_any u l Al capl h HKR.out)
  rw [hnl]
  obtain ⟨⟨mo, er⟩, hr⟩ : ∃ r, newK l = r := ⟨_, rfl⟩
  rw [hnl, hr] at MN
  have HNL := Lib.hid hnl
  have HRK := Lib.hid hr
  clear hnl hr
  rw [risE1]
  refine wp_seq_k (fun K1 hK1 => ?_)
  have HK1 := Lib.hid hK1
  clear hK1
  conv => arg 2; whnf
  go_wp2_with fail
  with_reducible refine (MKN.out _).mono ?_
  rintro e_ w1 ⟨rfl, hb1⟩
  go_wp2
  refine HK1.out _ _ ?_
  rw [risE2]
  refine wp_seq_k (fun K2 hK2 => ?_)
  have HK2 := Lib.hid hK2
  clear hK2
  conv => arg 2; whnf
  by_cases h300 : n ≤ 300
  · have q1 : ((300 : Int) < (n : Int)) = False := eq_false (by omega)
    go_wp2
    refine HK2.out _ _ ?_
    rw [risE3]
    refine wp_seq_k (fun K3 hK3 => ?_)
    have HK3 := Lib.hid hK3
    clear hK3
    conv => arg 2; whnf
    go_wp2_with fail
    with_reducible refine (MN.out _ (HK.out.below hb1)).mono ?_
    rintro e_ w2 ⟨v, rfl, hv, hb2⟩
    have hB2 := Hand.stepB hb2 hb1 (Nat.le_refl _)
    have hT2 := (HT.out.below hb1).below hb2
    have hK2 := (HK.out.below hb1).below hb2
    have HV := Lib.hid hv
    have HB2 := Lib.hid hB2
    have HT2 := Lib.hid hT2
    have HK2_ := Lib.hid hK2
    clear hv hb1 hb2 hB2 hT2 hK2
    go_wp2
    refine HK3.out _ _ ?_
    by_cases he : er = 0
    · have j1 : (er == 0) = true := by simpa using he
      have F1 := Lib.hid (fun (u : World) => (by have := fine6_any er u; rw [j1] at this; exact this : Calls Try.prog 14 #[.int .i64 er] u fun r w' => r = .returned (.bool true) ∧ w' = u))
      have HE := Lib.hid he
      clear j1 he
      rw [risE4]
      refine wp_seq_k (fun K4 hK4 => ?_)
      have HK4 := Lib.hid hK4
      clear hK4
      conv => arg 2; whnf
      go_wp2_with fail
      with_reducible refine (F1.out _).mono ?_
      rintro e_ w3 ⟨rfl, rfl⟩
      go_wp2
      refine HK4.out _ _ ?_
      obtain ⟨m, hm⟩ : ∃ m, newK l = (some m, 0) := by rcases newK_cases l with h | ⟨e, h1, h2⟩; exact h; rw [HRK.out] at h2; cases h2; exact absurd HE.out h1
      have hmo := HRK.out
      rw [hm] at hmo
      cases hmo
      have hq := newK_Q hm
      obtain ⟨p, ak, as_, ck, cs, rfl, hMA, _, _, _⟩ := HV.out
      obtain ⟨al, rfl, hKL⟩ : ∃ al, Al = some al ∧ KnA _ al l := HK2_.out.resolve_left hq.ne
      rw [← HN.out, ← HNL.out]
      exact ris_a w _ l m ts (Al := some al) hMA hq HT2.out HR.out (by rw [HN.out]; exact h300) HB2.out hKL
    · have j1 : (er == 0) = false := by simpa using he
      have F1 := Lib.hid (fun (u : World) => (by have := fine6_any er u; rw [j1] at this; exact this : Calls Try.prog 14 #[.int .i64 er] u fun r w' => r = .returned (.bool false) ∧ w' = u))
      clear j1 he
      rw [risE4]
      refine wp_seq_k (fun K4 hK4 => ?_)
      have HK4 := Lib.hid hK4
      clear hK4
      conv => arg 2; whnf
      go_wp2_with fail
      with_reducible refine (F1.out _).mono ?_
      rintro e_ w3 ⟨rfl, rfl⟩
      go_wp2
      go_ret
      exact ⟨rfl, HB2.out⟩
  · have q1 : ((300 : Int) < (n : Int)) = True := eq_true (by omega)
    go_wp2
    go_ret
    exact ⟨rfl, hb1⟩
set_option maxHeartbeats 4000000 in
set_option maxRecDepth 100000 in
theorem rises_true (w : World) (l : List Kn) (ts : List Rt) {A Al : Option Addr} {cap capl : Nat} (hK : KnS w Al l) (hKR : KnR l) (hT : RtS w A ts) (hR : ∀ t ∈ ts, R64 t) :
    Calls Try.prog 3 #[.slice Al l.length capl, .slice A ts.length cap] w fun e w' => e = .returned (.bool true) ∧ Below w.heap.size w w' := by
  have HK := Lib.hid hK
  have HKR := Lib.hid hKR
  have HT := Lib.hid hT
  have HR := Lib.hid hR
  clear hK hKR hT hR
  go_enter Try.func3, Try.ntmps3
  refine wp_seq_k (fun K0 hK0 => ?_)
  have HK0 := Lib.hid hK0
  clear hK0
  go_wp2
  refine HK0.out _ _ ?_
  exact ris_t1 w l ts HK.out HKR.out HT.out HR.out
theorem rises6 (l : List Kn) (ts : List Rt) (w : World) {A Al : Option Addr} {cap capl : Nat} (hK : KnS w Al l) (hKR : KnR l) (hT : RtS w A ts) (hR : ∀ t ∈ ts, R64 t) :
    Calls Try.prog 3 #[.slice Al l.length capl, .slice A ts.length cap] w fun e w' => e = .returned (.bool true) ∧ Below w.heap.size w w' := rises_true w l ts hK hKR hT hR
end Go.Proofs.Ythlpaglldhgmfaa.PA
