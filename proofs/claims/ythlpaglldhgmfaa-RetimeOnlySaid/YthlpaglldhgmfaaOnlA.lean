/- Chapter 6: RetimeOnly, walked: the last look. -/
import Derived.Test.YthlpaglldhgmfaaPo6
import Derived.Deep.RegionHeld3
import Derived.StillTailTactics
import Derived.Deep.AppendLies
namespace Go.Proofs.Ythlpaglldhgmfaa.PA
open Go Go.RowKit Go.Proofs.YthlpaglldhgmfaaW.PrintWords Go.Proofs.YthlpaglldhgmfaaW.PrintLast Go.Proofs.YthlpaglldhgmfaaW.PrintMore
attribute [local go_sem high] eqA31 eqA35
set_option linter.unusedSimpArgs false
set_option linter.unusedVariables false
noncomputable def onlT1 : Code := sndC (Try.f4.body.getD .skip)
noncomputable def onlT2 : Code := sndC onlT1
noncomputable def onlT3 : Code := sndC onlT2
noncomputable def onlT4 : Code := sndC onlT3
noncomputable def onlT5 : Code := sndC onlT4
noncomputable def onlT6 : Code := sndC onlT5
noncomputable def onlT7 : Code := sndC onlT6
noncomputable def onlT8 : Code := sndC onlT7
noncomputable def onlT9 : Code := sndC onlT8
noncomputable def onlT10 : Code := sndC onlT9
noncomputable def onlT11 : Code := sndC onlT10
noncomputable def onlT12 : Code := sndC onlT11
noncomputable def onlT13 : Code := sndC onlT12
theorem onlE1 : onlT1 = .seq (fstC onlT1) onlT2 := by kernel_rfl
theorem onlE2 : onlT2 = .seq (fstC onlT2) onlT3 := by kernel_rfl
theorem onlE3 : onlT3 = .seq (fstC onlT3) onlT4 := by kernel_rfl
theorem onlE4 : onlT4 = .seq (fstC onlT4) onlT5 := by kernel_rfl
theorem onlE5 : onlT5 = .seq (fstC onlT5) onlT6 := by kernel_rfl
theorem onlE6 : onlT6 = .seq (fstC onlT6) onlT7 := by kernel_rfl
theorem onlE7 : onlT7 = .seq (fstC onlT7) onlT8 := by kernel_rfl
theorem onlE8 : onlT8 = .seq (fstC onlT8) onlT9 := by kernel_rfl
theorem onlE9 : onlT9 = .seq (fstC onlT9) onlT10 := by kernel_rfl
theorem onlE10 : onlT10 = .seq (fstC onlT10) onlT11 := by kernel_rfl
theorem onlE11 : onlT11 = .seq (fstC onlT11) onlT12 := by kernel_rfl
theorem onlE12 : onlT12 = .seq (fstC onlT12) onlT13 := by kernel_rfl
theorem onlE0 : Try.f4.body.getD .skip = .seq (fstC (Try.f4.body.getD .skip)) onlT1 := by kernel_rfl
set_option maxHeartbeats 4000000 in
set_option maxRecDepth 100000 in
theorem onl_d (w W : World) (m : MapV) (mr : List Kn) {z0 z1 z2 z3 z4 z6 z7 z8 z10 z11 z12 z13 z14 z15 z16 z17 z18 z19 z20 z21 z22 z23 z24 z25 z26 z27 z28 z29 z30 z31 z32 z33 z34 z35 z36 z37 z38 z39 z40 z41 z42 z43 z44 z45 z46 z47 z48 z49 z50 z51 z52 z53 z54 z55 z56 z57 z58 z59 z60 z61 z62 z63 z64 z65 z66 z67 z68 z69 z70 z71 z72 z73 z74 z75 z76 z77 z78 z79 z80 z81 z82 z83 z84 z85 z86 z87 z88 z89 z90 z91 z92 z93 z94 z95 z96 z97 z98 z99 z100 z101 z102 z103 z104 z105 z106 z107 z108 z109 z110 z111 z112 z113 z114 z115 z116 : Value} {Av : Option Addr} {capv p : Nat} {ak as_ : Addr} {ck cs : Nat} (hm : MapA W p ak as_ ck cs m) (hok : MapOk m) (hK : KnS W Av mr) (hKR : KnR mr) (hS : ∀ o, newK mr = (some o, 0) → o.knots = m.knots) (hB : Below w.heap.size w W) :
    onlT12.wp Try.prog (bodyPost Try.prog Try.f4 (fun e w' => e = .returned (.bool true) ∧ Below w.heap.size w w')) ⟨#[z0, z1, z2, z3, z4, .pointer (some ⟨p, 0, none⟩), z6, z7, z8, .slice Av mr.length capv, z10, z11, z12, z13, z14, z15, z16, z17, z18, z19, z20, z21, z22, z23, z24, z25, z26, z27, z28, z29, z30, z31, z32, z33, z34, z35, z36, z37, z38, z39, z40, z41, z42, z43, z44, z45, z46, z47, z48, z49, z50, z51, z52, z53, z54, z55, z56, z57, z58, z59, z60, z61, z62, z63, z64, z65, z66, z67, z68, z69, z70, z71, z72, z73, z74, z75, z76, z77, z78, z79, z80, z81, z82, z83, z84, z85, z86, z87, z88, z89, z90, z91, z92, z93, z94, z95, z96, z97, z98, z99, z100, z101, z102, z103, z104, z105, z106, z107, z108, z109, z110, z111, z112, z113, z114, z115, z116], []⟩ W := by
  obtain ⟨nr, hnr⟩ : ∃ n, mr.length = n := ⟨_, rfl⟩
  have MN := Lib.hid (newm_any W mr Av capv hK hKR)
  rw [hnr] at MN ⊢
  obtain ⟨⟨mo, er⟩, hr⟩ : ∃ r, newK mr = r := ⟨_, rfl⟩
  rw [hr] at MN
  have HR := Lib.hid hr
  have HS := Lib.hid hS
  have HM := Lib.hid hm
  have HOK := Lib.hid hok
  have HB := Lib.hid hB
  clear hr hS hm hok hB hK hnr hKR
  rw [onlE12]
  refine wp_seq_k (fun K12 hK12 => ?_)
  have HK12 := Lib.hid hK12
  clear hK12
  conv => arg 2; whnf
  go_wp2_with fail
  with_reducible refine (MN.out).mono ?_
  rintro e_ w2 ⟨v, rfl, hv, hb2⟩
  have HV := Lib.hid hv
  have HB2 := Lib.hid hb2
  have HBw := Lib.hid (Hand.stepB hb2 HB.out (Nat.le_refl _))
  clear hv hb2
  go_wp2
  refine HK12.out _ _ ?_
  conv => arg 2; whnf
  by_cases he : er = 0
  · have j1 : (er == 0) = true := by simpa using he
    have F1 := Lib.hid (fun (u : World) => (by have := fine6_any er u; rw [j1] at this; exact this : Calls Try.prog 14 #[.int .i64 er] u fun r w' => r = .returned (.bool true) ∧ w' = u))
    have HE := Lib.hid he
    clear j1 he
    obtain ⟨o, ho⟩ : ∃ o, newK mr = (some o, 0) := by rcases newK_cases mr with h | ⟨e, h1, h2⟩; exact h; rw [HR.out] at h2; cases h2; exact absurd HE.out h1
    have hko := HS.out o ho
    have hoO := (newK_Q ho).ok
    have hmo := HR.out
    rw [ho] at hmo
    cases hmo
    obtain ⟨po, ao, bo, co, do_, rfl, hMO, _, _, _⟩ := HV.out
    have M1 := Lib.hid (fun (u : World) (h : MapA u po ao bo co do_ o) => knots_any po ao bo co do_ o u h hoO.k0 hoO.k1)
    have M2 := Lib.hid (fun (u : World) (h : MapA u p ak as_ ck cs m) => knots_any p ak as_ ck cs m u h HOK.out.k0 HOK.out.k1)
    rw [hko] at M1
    have MK := Lib.hid (fun (u : World) (a b : Addr) (c d : Nat) (h1 : KnA u a m.knots) (h2 : KnA u b m.knots) => lknots_some a b m.knots m.knots.length c d u rfl h1 h2 (by have := HOK.out.k1; omega))
    obtain ⟨nk, hnk⟩ : ∃ n, m.knots.length = n := ⟨_, rfl⟩
    rw [hnk] at M1 M2 MK
    clear hko hnk hoO ho
    go_wp2_with fail
    with_reducible refine (F1.out _).mono ?_
    rintro e_ w3 ⟨rfl, rfl⟩
    go_wp2_with fail
    with_reducible refine (M1.out _ hMO).mono ?_
    rintro e_ w4 ⟨ga, ca, rfl, hoa, hb4⟩
    have hka := own_kna hoa
    clear hoa
    go_wp2_with fail
    with_reducible refine (M2.out _ ((HM.out.below HB2.out).below hb4)).mono ?_
    rintro e_ w5 ⟨gb, cb, rfl, hob, hb5⟩
    have hkb := own_kna hob
    clear hob
    go_wp2_with fail
    with_reducible refine (MK.out _ _ _ _ _ (hka.below hb5) hkb).mono ?_
    rintro e_ w6 ⟨rfl, hb6⟩
    go_wp2
    go_ret
    exact ⟨rfl, Hand.stepB hb6 (Hand.stepB hb5 (Hand.stepB hb4 HBw.out (Nat.le_refl _)) (Nat.le_refl _)) (Nat.le_refl _)⟩
  · have j1 : (er == 0) = false := by simpa using he
    have F1 := Lib.hid (fun (u : World) => (by have := fine6_any er u; rw [j1] at this; exact this : Calls Try.prog 14 #[.int .i64 er] u fun r w' => r = .returned (.bool false) ∧ w' = u))
    clear j1 he
    go_wp2_with fail
    with_reducible refine (F1.out _).mono ?_
    rintro e_ w3 ⟨rfl, rfl⟩
    go_wp2
    go_ret
    exact ⟨rfl, HBw.out⟩
end Go.Proofs.Ythlpaglldhgmfaa.PA
