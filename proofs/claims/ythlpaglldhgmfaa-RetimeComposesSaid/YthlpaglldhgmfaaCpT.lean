/- Chapter 6: RetimeComposes, walked from its head. -/
import Derived.Test.YthlpaglldhgmfaaCpA
namespace Go.Proofs.Ythlpaglldhgmfaa.PA
open Go Go.RowKit Go.Proofs.YthlpaglldhgmfaaW.PrintWords Go.Proofs.YthlpaglldhgmfaaW.PrintLast Go.Proofs.YthlpaglldhgmfaaW.PrintMore
attribute [local go_sem high] eqA31 eqA35
set_option linter.unusedSimpArgs false
set_option linter.unusedVariables false
theorem then_some {m n : MapV} {mo : Option MapV} (h : thenS m n = (mo, 0)) : ∃ s, mo = some s := by
  cases mo with
  | some s => exact ⟨s, rfl⟩
  | none =>
    exfalso
    unfold thenS at h
    split at h
    · rename_i hz; exact hz (congrArg Prod.snd h)
    · split at h
      · rename_i hz; exact hz (congrArg Prod.snd h)
      · rcases newK_cases (thrF m n (ptsS m n).1 []).1 with ⟨z, hz⟩ | ⟨e, h1, h2⟩
        · rw [hz] at h; cases h
        · rw [h2] at h; cases h; exact h1 rfl
theorem NewR.below {B : Nat} {w w' : World} {v : Value} {r : Option MapV} (h : NewR B w v r) (hb : Below w.heap.size w w') : NewR B w' v r := by
  cases r with
  | none => exact h
  | some m =>
    obtain ⟨p, ak, as_, ck, cs, h1, h2, h3⟩ := h
    exact ⟨p, ak, as_, ck, cs, h1, h2.below hb, h3⟩
set_option maxHeartbeats 4000000 in
set_option maxRecDepth 100000 in
theorem cmp_b (w W : World) (m n o : MapV) (ts : List Rt) {z0 z1 z2 z4 z5 z6 z7 z8 z10 z12 z14 z15 z16 z17 z18 z19 z20 z21 z22 z23 z24 z25 z26 z27 z28 z29 z30 z31 z32 z33 z34 z35 z36 z37 z38 z39 z40 z41 z42 z43 z44 z45 z46 z47 z48 z49 z50 z51 z52 z53 z54 z55 z56 z57 z58 z59 z60 z61 z62 z63 z64 z65 z66 z67 z68 z69 z70 z71 z72 z73 z74 z75 z76 z77 z78 z79 z80 z81 z82 z83 z84 z85 z86 z87 z88 z89 z90 z91 z92 z93 z94 z95 z96 z97 z98 z99 z100 z101 z102 z103 z104 z105 z106 z107 z108 z109 z110 z111 z112 z113 z114 z115 z116 z117 z118 z119 z120 z121 z122 z123 z124 z125 z126 z127 z128 z129 z130 z131 z132 z133 z134 z135 z136 z137 z138 z139 z140 z141 z142 z143 z144 z145 z146 z147 z148 z149 z150 z151 z152 z153 z154 z155 z156 z157 z158 z159 z160 z161 z162 z163 z164 z165 z166 z167 z168 z169 z170 z171 z172 z173 z174 z175 z176 z177 z178 z179 : Value} {A : Option Addr} {cap p q : Nat} {ak as_ bk bs : Addr} {ck cs dk ds : Nat} {r : Nat} {o0 o1 : Addr} {o2 o3 : Nat} (hm : MapA W p ak as_ ck cs m) (hn : MapA W q bk bs dk ds n) (hM : Mk m) (hN : Mk n) (ho : MapA W r o0 o1 o2 o3 o) (hO : Mk o) (hT : RtS W A ts) (hR : ∀ t ∈ ts, R64 t) (hL : ts.length ≤ 2000) (hB : Below w.heap.size w W) :
    cmpT7.wp Try.prog (bodyPost Try.prog Try.f8 (fun e w' => e = .returned (.bool true) ∧ Below w.heap.size w w')) ⟨#[z0, z1, z2, .slice A ts.length cap, z4, z5, z6, z7, z8, .pointer (some ⟨p, 0, none⟩), z10, .pointer (some ⟨q, 0, none⟩), z12, .pointer (some ⟨r, 0, none⟩), z14, z15, z16, z17, z18, z19, z20, z21, z22, z23, z24, z25, z26, z27, z28, z29, z30, z31, z32, z33, z34, z35, z36, z37, z38, z39, z40, z41, z42, z43, z44, z45, z46, z47, z48, z49, z50, z51, z52, z53, z54, z55, z56, z57, z58, z59, z60, z61, z62, z63, z64, z65, z66, z67, z68, z69, z70, z71, z72, z73, z74, z75, z76, z77, z78, z79, z80, z81, z82, z83, z84, z85, z86, z87, z88, z89, z90, z91, z92, z93, z94, z95, z96, z97, z98, z99, z100, z101, z102, z103, z104, z105, z106, z107, z108, z109, z110, z111, z112, z113, z114, z115, z116, z117, z118, z119, z120, z121, z122, z123, z124, z125, z126, z127, z128, z129, z130, z131, z132, z133, z134, z135, z136, z137, z138, z139, z140, z141, z142, z143, z144, z145, z146, z147, z148, z149, z150, z151, z152, z153, z154, z155, z156, z157, z158, z159, z160, z161, z162, z163, z164, z165, z166, z167, z168, z169, z170, z171, z172, z173, z174, z175, z176, z177, z178, z179], []⟩ W := by
  have H_hm := Lib.hid hm
  have H_hn := Lib.hid hn
  have H_hM := Lib.hid hM
  have H_hN := Lib.hid hN
  have H_ho := Lib.hid ho
  have H_hO := Lib.hid hO
  have H_hT := Lib.hid hT
  have H_hR := Lib.hid hR
  have H_hL := Lib.hid hL
  have H_hB := Lib.hid hB
  have T1 := Lib.hid (fun (u : World) (p q : Nat) (a0 a1 b0 b1 : Addr) (a2 a3 b2 b3 : Nat) (h : MapA u p a0 a1 a2 a3 m) (h2 : MapA u q b0 b1 b2 b3 n) => thn_any m n u h h2 hM hN)
  have T2 := Lib.hid (fun (u : World) (p q : Nat) (a0 a1 b0 b1 : Addr) (a2 a3 b2 b3 : Nat) (h : MapA u p a0 a1 a2 a3 n) (h2 : MapA u q b0 b1 b2 b3 o) => thn_any n o u h h2 hN hO)
  have HBW := Lib.hid (Below.refl W.heap.size W)
  clear hm hn hM hN ho hO hT hR hL hB
  obtain ⟨⟨u1, e_u1⟩, h_u1⟩ : ∃ r, thenS m n = r := ⟨_, rfl⟩
  rw [h_u1] at T1
  have H_u1 := Lib.hid h_u1
  clear h_u1
  obtain ⟨⟨u2, e_u2⟩, h_u2⟩ : ∃ r, thenS n o = r := ⟨_, rfl⟩
  rw [h_u2] at T2
  have H_u2 := Lib.hid h_u2
  clear h_u2
  rw [cmpE7]
  refine wp_seq_k (fun K7 hK7 => ?_)
  have HK7 := Lib.hid hK7
  clear hK7
  conv => arg 2; whnf
  go_wp2_with fail
  with_reducible refine (T1.out _ _ _ _ _ _ _ _ _ _ _ H_hm.out H_hn.out).mono ?_
  rintro e_ w1 ⟨v1, rfl, hv, hb⟩
  have N_v1 := Lib.hid hv
  have nB := Lib.hid (Hand.stepB hb HBW.out (Nat.le_refl _))
  have n_H_hm := Lib.hid (H_hm.out.below hb)
  have n_H_hn := Lib.hid (H_hn.out.below hb)
  have n_H_ho := Lib.hid (H_ho.out.below hb)
  have n_H_hT := Lib.hid (H_hT.out.below hb)
  clear hv hb HBW H_hm H_hn H_ho H_hT
  have HBW := nB
  clear nB
  have H_hm := n_H_hm
  clear n_H_hm
  have H_hn := n_H_hn
  clear n_H_hn
  have H_ho := n_H_ho
  clear n_H_ho
  have H_hT := n_H_hT
  clear n_H_hT
  go_wp2
  refine HK7.out _ _ ?_
  rw [cmpE8]
  refine wp_seq_k (fun K8 hK8 => ?_)
  have HK8 := Lib.hid hK8
  clear hK8
  conv => arg 2; whnf
  go_wp2_with fail
  with_reducible refine (T2.out _ _ _ _ _ _ _ _ _ _ _ H_hn.out H_ho.out).mono ?_
  rintro e_ w2 ⟨v2, rfl, hv, hb⟩
  have n_1 := Lib.hid (NewR.below N_v1.out hb)
  have N_v2 := Lib.hid hv
  clear N_v1
  have N_v1 := n_1
  have nB := Lib.hid (Hand.stepB hb HBW.out (Nat.le_refl _))
  have n_H_hm := Lib.hid (H_hm.out.below hb)
  have n_H_hn := Lib.hid (H_hn.out.below hb)
  have n_H_ho := Lib.hid (H_ho.out.below hb)
  have n_H_hT := Lib.hid (H_hT.out.below hb)
  clear hv hb HBW H_hm H_hn H_ho H_hT
  have HBW := nB
  clear nB
  have H_hm := n_H_hm
  clear n_H_hm
  have H_hn := n_H_hn
  clear n_H_hn
  have H_ho := n_H_ho
  clear n_H_ho
  have H_hT := n_H_hT
  clear n_H_hT
  go_wp2
  refine HK8.out _ _ ?_
  rw [cmpE9]
  refine wp_seq_k (fun K9 hK9 => ?_)
  have HK9 := Lib.hid hK9
  clear hK9
  conv => arg 2; whnf
  by_cases h_e1 : e_u1 = 0
  · have j1 : (e_u1 == 0) = true := by simpa using h_e1
    have F1 := Lib.hid (fun (u : World) => (by have := fine6_any e_u1 u; rw [j1] at this; exact this : Calls Try.prog 14 #[.int .i64 e_u1] u fun r w' => r = .returned (.bool true) ∧ w' = u))
    clear j1
    subst h_e1
    obtain ⟨mn, rfl⟩ := then_some H_u1.out
    obtain ⟨r1, a0, a1, a2, a3, rfl, hmn, _, _, _⟩ := N_v1.out
    have H_mn := Lib.hid hmn
    clear hmn
    by_cases h_e2 : e_u2 = 0
    · have j2 : (e_u2 == 0) = true := by simpa using h_e2
      have F2 := Lib.hid (fun (u : World) => (by have := fine6_any e_u2 u; rw [j2] at this; exact this : Calls Try.prog 14 #[.int .i64 e_u2] u fun r w' => r = .returned (.bool true) ∧ w' = u))
      clear j2
      subst h_e2
      obtain ⟨no, rfl⟩ := then_some H_u2.out
      obtain ⟨r2, b0, b1, b2, b3, rfl, hno, _, _, _⟩ := N_v2.out
      have H_no := Lib.hid hno
      clear hno
      have hmM := Lib.hid (H_hM.out.thn H_hN.out H_u1.out).1
      have hnM := Lib.hid (H_hN.out.thn H_hO.out H_u2.out).1
      have T3 := Lib.hid (fun (u : World) (p q : Nat) (a0 a1 b0 b1 : Addr) (a2 a3 b2 b3 : Nat) (h : MapA u p a0 a1 a2 a3 mn) (h2 : MapA u q b0 b1 b2 b3 o) => thn_any mn o u h h2 hmM.out H_hO.out)
      have T4 := Lib.hid (fun (u : World) (p q : Nat) (a0 a1 b0 b1 : Addr) (a2 a3 b2 b3 : Nat) (h : MapA u p a0 a1 a2 a3 m) (h2 : MapA u q b0 b1 b2 b3 no) => thn_any m no u h h2 H_hM.out hnM.out)
      obtain ⟨⟨u3, e_u3⟩, h_u3⟩ : ∃ r, thenS mn o = r := ⟨_, rfl⟩
      rw [h_u3] at T3
      have H_u3 := Lib.hid h_u3
      clear h_u3
      obtain ⟨⟨u4, e_u4⟩, h_u4⟩ : ∃ r, thenS m no = r := ⟨_, rfl⟩
      rw [h_u4] at T4
      have H_u4 := Lib.hid h_u4
      clear h_u4
      go_wp2_with fail
      with_reducible refine (F1.out _).mono ?_
      rintro e_ v1 ⟨rfl, rfl⟩
      go_wp2_with fail
      with_reducible refine (F2.out _).mono ?_
      rintro e_ v2 ⟨rfl, rfl⟩
      go_wp2_with fail
      with_reducible refine (T3.out _ _ _ _ _ _ _ _ _ _ _ H_mn.out H_ho.out).mono ?_
      rintro e_ w3 ⟨v3, rfl, hv, hb⟩
      have N_v3 := Lib.hid hv
      have nB := Lib.hid (Hand.stepB hb HBW.out (Nat.le_refl _))
      have n_H_hm := Lib.hid (H_hm.out.below hb)
      have n_H_hn := Lib.hid (H_hn.out.below hb)
      have n_H_ho := Lib.hid (H_ho.out.below hb)
      have n_H_hT := Lib.hid (H_hT.out.below hb)
      have n_H_mn := Lib.hid (H_mn.out.below hb)
      have n_H_no := Lib.hid (H_no.out.below hb)
      clear hv hb HBW H_hm H_hn H_ho H_hT H_mn H_no
      have HBW := nB
      clear nB
      have H_hm := n_H_hm
      clear n_H_hm
      have H_hn := n_H_hn
      clear n_H_hn
      have H_ho := n_H_ho
      clear n_H_ho
      have H_hT := n_H_hT
      clear n_H_hT
      have H_mn := n_H_mn
      clear n_H_mn
      have H_no := n_H_no
      clear n_H_no
      go_wp2_with fail
      with_reducible refine (T4.out _ _ _ _ _ _ _ _ _ _ _ H_hm.out H_no.out).mono ?_
      rintro e_ w4 ⟨v4, rfl, hv, hb⟩
      have n_3 := Lib.hid (NewR.below N_v3.out hb)
      have N_v4 := Lib.hid hv
      have nB := Lib.hid (Hand.stepB hb HBW.out (Nat.le_refl _))
      have n_H_hm := Lib.hid (H_hm.out.below hb)
      have n_H_hn := Lib.hid (H_hn.out.below hb)
      have n_H_ho := Lib.hid (H_ho.out.below hb)
      have n_H_hT := Lib.hid (H_hT.out.below hb)
      have n_H_mn := Lib.hid (H_mn.out.below hb)
      have n_H_no := Lib.hid (H_no.out.below hb)
      clear hv hb HBW H_hm H_hn H_ho H_hT H_mn H_no
      have HBW := nB
      clear nB
      have H_hm := n_H_hm
      clear n_H_hm
      have H_hn := n_H_hn
      clear n_H_hn
      have H_ho := n_H_ho
      clear n_H_ho
      have H_hT := n_H_hT
      clear n_H_hT
      have H_mn := n_H_mn
      clear n_H_mn
      have H_no := n_H_no
      clear n_H_no
      clear N_v3
      have N_v3 := n_3
      by_cases h_e3 : e_u3 = 0
      · have j3 : (e_u3 == 0) = true := by simpa using h_e3
        have F3 := Lib.hid (fun (u : World) => (by have := fine6_any e_u3 u; rw [j3] at this; exact this : Calls Try.prog 14 #[.int .i64 e_u3] u fun r w' => r = .returned (.bool true) ∧ w' = u))
        clear j3
        subst h_e3
        by_cases h_e4 : e_u4 = 0
        · have j4 : (e_u4 == 0) = true := by simpa using h_e4
          have F4 := Lib.hid (fun (u : World) => (by have := fine6_any e_u4 u; rw [j4] at this; exact this : Calls Try.prog 14 #[.int .i64 e_u4] u fun r w' => r = .returned (.bool true) ∧ w' = u))
          clear j4
          subst h_e4
          obtain ⟨x, rfl⟩ := then_some H_u3.out
          obtain ⟨y, rfl⟩ := then_some H_u4.out
          obtain ⟨r3, x0, x1, x2, x3, rfl, hx, _, _, _⟩ := N_v3.out
          obtain ⟨r4, y0, y1, y2, y3, rfl, hy, _, _, _⟩ := N_v4.out
          have hxok := (hmM.out.thn H_hO.out H_u3.out).1.q.ok
          have hyok := (H_hM.out.thn hnM.out H_u4.out).1.q.ok
          have hxy := then_then H_hM.out H_hN.out H_hO.out H_u1.out H_u2.out H_u3.out H_u4.out
          have MX := Lib.hid (fun (u : World) (p : Nat) (a b : Addr) (c d : Nat) (h : MapA u p a b c d x) => knots_any p a b c d x u h hxok.k0 hxok.k1)
          have MY := Lib.hid (fun (u : World) (p : Nat) (a b : Addr) (c d : Nat) (h : MapA u p a b c d y) => knots_any p a b c d y u h hyok.k0 hyok.k1)
          rw [hxy] at MX
          have ML := Lib.hid (fun (u : World) (a b : Addr) (c d : Nat) (h1 : KnA u a y.knots) (h2 : KnA u b y.knots) => lknots_some a b y.knots y.knots.length c d u rfl h1 h2 (by have := hyok.k1; omega))
          obtain ⟨nk, hnk⟩ : ∃ n, y.knots.length = n := ⟨_, rfl⟩
          rw [hnk] at MX MY ML
          clear hxok hyok hxy hnk
          go_wp2_with fail
          with_reducible refine (F3.out _).mono ?_
          rintro e_ v3 ⟨rfl, rfl⟩
          go_wp2_with fail
          with_reducible refine (F4.out _).mono ?_
          rintro e_ v4 ⟨rfl, rfl⟩
          go_wp2_with fail
          with_reducible refine (MX.out _ _ _ _ _ _ hx).mono ?_
          rintro e_ w5 ⟨ga, ca, rfl, hoa, hb5⟩
          have hka := own_kna hoa
          have hy5 := hy.below hb5
          have HB5 := Lib.hid hb5
          clear hoa hb5 hx hy
          go_wp2_with fail
          with_reducible refine (MY.out _ _ _ _ _ _ hy5).mono ?_
          rintro e_ w6 ⟨gb, cb, rfl, hob, hb6⟩
          have hkb := own_kna hob
          have hka6 := hka.below hb6
          have HB6 := Lib.hid hb6
          clear hob hb6 hka hy5
          go_wp2_with fail
          with_reducible refine (ML.out _ _ _ _ _ hka6 hkb).mono ?_
          rintro e_ w7 ⟨rfl, hb7⟩
          have HB7 := Lib.hid (Hand.stepB hb7 (Hand.stepB HB6.out HB5.out (Nat.le_refl _)) (Nat.le_refl _))
          clear hb7 hka6 hkb
          have HBZ := Lib.hid (Hand.stepB HB7.out HBW.out (Nat.le_refl _))
          go_wp2
          refine HK9.out _ _ ?_
          exact cmp_c1 w _ m n mn ts 0 (H_hm.out.below HB7.out) (H_hn.out.below HB7.out) H_hM.out H_hN.out (H_mn.out.below HB7.out) H_u1.out rfl (H_hT.out.below HB7.out) H_hR.out H_hL.out (H_hB.out.trans (Below.mono HBZ.out H_hB.out.size))
        · have j4 : (e_u4 == 0) = false := by simpa using h_e4
          have F4 := Lib.hid (fun (u : World) => (by have := fine6_any e_u4 u; rw [j4] at this; exact this : Calls Try.prog 14 #[.int .i64 e_u4] u fun r w' => r = .returned (.bool false) ∧ w' = u))
          clear j4 h_e4
          go_wp2_with fail
          with_reducible refine (F3.out _).mono ?_
          rintro e_ v3 ⟨rfl, rfl⟩
          go_wp2_with fail
          with_reducible refine (F4.out _).mono ?_
          rintro e_ v4 ⟨rfl, rfl⟩
          go_wp2
          refine HK9.out _ _ ?_
          exact cmp_c1 w _ m n mn ts 0 H_hm.out H_hn.out H_hM.out H_hN.out H_mn.out H_u1.out rfl H_hT.out H_hR.out H_hL.out (H_hB.out.trans (Below.mono HBW.out H_hB.out.size))
      · have j3 : (e_u3 == 0) = false := by simpa using h_e3
        have F3 := Lib.hid (fun (u : World) => (by have := fine6_any e_u3 u; rw [j3] at this; exact this : Calls Try.prog 14 #[.int .i64 e_u3] u fun r w' => r = .returned (.bool false) ∧ w' = u))
        clear j3 h_e3
        go_wp2_with fail
        with_reducible refine (F3.out _).mono ?_
        rintro e_ v3 ⟨rfl, rfl⟩
        go_wp2
        refine HK9.out _ _ ?_
        exact cmp_c1 w _ m n mn ts 0 H_hm.out H_hn.out H_hM.out H_hN.out H_mn.out H_u1.out rfl H_hT.out H_hR.out H_hL.out (H_hB.out.trans (Below.mono HBW.out H_hB.out.size))
    · have j2 : (e_u2 == 0) = false := by simpa using h_e2
      have F2 := Lib.hid (fun (u : World) => (by have := fine6_any e_u2 u; rw [j2] at this; exact this : Calls Try.prog 14 #[.int .i64 e_u2] u fun r w' => r = .returned (.bool false) ∧ w' = u))
      clear j2 h_e2
      go_wp2_with fail
      with_reducible refine (F1.out _).mono ?_
      rintro e_ v1 ⟨rfl, rfl⟩
      go_wp2_with fail
      with_reducible refine (F2.out _).mono ?_
      rintro e_ v2 ⟨rfl, rfl⟩
      go_wp2
      refine HK9.out _ _ ?_
      exact cmp_c1 w _ m n mn ts 0 H_hm.out H_hn.out H_hM.out H_hN.out H_mn.out H_u1.out rfl H_hT.out H_hR.out H_hL.out (H_hB.out.trans (Below.mono HBW.out H_hB.out.size))
  · have j1 : (e_u1 == 0) = false := by simpa using h_e1
    have F1 := Lib.hid (fun (u : World) => (by have := fine6_any e_u1 u; rw [j1] at this; exact this : Calls Try.prog 14 #[.int .i64 e_u1] u fun r w' => r = .returned (.bool false) ∧ w' = u))
    have HE := Lib.hid h_e1
    clear j1 h_e1
    go_wp2_with fail
    with_reducible refine (F1.out _).mono ?_
    rintro e_ v1 ⟨rfl, rfl⟩
    go_wp2
    refine HK9.out _ _ ?_
    exact cmp_c0 w _ m n ts e_u1 H_hm.out H_hn.out H_hM.out H_hN.out HE.out H_hT.out H_hR.out H_hL.out (H_hB.out.trans (Below.mono HBW.out H_hB.out.size))
set_option maxHeartbeats 4000000 in
set_option maxRecDepth 100000 in
theorem cmp_t1 (w : World) (l1 l2 l3 : List Kn) (ts : List Rt) {z4 z5 z6 z7 z8 z9 z10 z11 z12 z13 z14 z15 z16 z17 z18 z19 z20 z21 z22 z23 z24 z25 z26 z27 z28 z29 z30 z31 z32 z33 z34 z35 z36 z37 z38 z39 z40 z41 z42 z43 z44 z45 z46 z47 z48 z49 z50 z51 z52 z53 z54 z55 z56 z57 z58 z59 z60 z61 z62 z63 z64 z65 z66 z67 z68 z69 z70 z71 z72 z73 z74 z75 z76 z77 z78 z79 z80 z81 z82 z83 z84 z85 z86 z87 z88 z89 z90 z91 z92 z93 z94 z95 z96 z97 z98 z99 z100 z101 z102 z103 z104 z105 z106 z107 z108 z109 z110 z111 z112 z113 z114 z115 z116 z117 z118 z119 z120 z121 z122 z123 z124 z125 z126 z127 z128 z129 z130 z131 z132 z133 z134 z135 z136 z137 z138 z139 z140 z141 z142 z143 z144 z145 z146 z147 z148 z149 z150 z151 z152 z153 z154 z155 z156 z157 z158 z159 z160 z161 z162 z163 z164 z165 z166 z167 z168 z169 z170 z171 z172 z173 z174 z175 z176 z177 z178 z179 : Value} {A A1 A2 A3 : Option Addr} {cap c1 c2 c3 : Nat} (hK1 : KnS w A1 l1) (hR1 : KnR l1) (hK2 : KnS w A2 l2) (hR2 : KnR l2) (hK3 : KnS w A3 l3) (hR3 : KnR l3) (hT : RtS w A ts) (hR : ∀ t ∈ ts, R64 t) :
    cmpT1.wp Try.prog (bodyPost Try.prog Try.f8 (fun e w' => e = .returned (.bool true) ∧ Below w.heap.size w w')) ⟨#[.slice A1 l1.length c1, .slice A2 l2.length c2, .slice A3 l3.length c3, .slice A ts.length cap, z4, z5, z6, z7, z8, z9, z10, z11, z12, z13, z14, z15, z16, z17, z18, z19, z20, z21, z22, z23, z24, z25, z26, z27, z28, z29, z30, z31, z32, z33, z34, z35, z36, z37, z38, z39, z40, z41, z42, z43, z44, z45, z46, z47, z48, z49, z50, z51, z52, z53, z54, z55, z56, z57, z58, z59, z60, z61, z62, z63, z64, z65, z66, z67, z68, z69, z70, z71, z72, z73, z74, z75, z76, z77, z78, z79, z80, z81, z82, z83, z84, z85, z86, z87, z88, z89, z90, z91, z92, z93, z94, z95, z96, z97, z98, z99, z100, z101, z102, z103, z104, z105, z106, z107, z108, z109, z110, z111, z112, z113, z114, z115, z116, z117, z118, z119, z120, z121, z122, z123, z124, z125, z126, z127, z128, z129, z130, z131, z132, z133, z134, z135, z136, z137, z138, z139, z140, z141, z142, z143, z144, z145, z146, z147, z148, z149, z150, z151, z152, z153, z154, z155, z156, z157, z158, z159, z160, z161, z162, z163, z164, z165, z166, z167, z168, z169, z170, z171, z172, z173, z174, z175, z176, z177, z178, z179], []⟩ w := by
  have MKN := Lib.hid known6_any
  have H_hK1 := Lib.hid hK1
  have H_hR1 := Lib.hid hR1
  have H_hK2 := Lib.hid hK2
  have H_hR2 := Lib.hid hR2
  have H_hK3 := Lib.hid hK3
  have H_hR3 := Lib.hid hR3
  have H_hT := Lib.hid hT
  have H_hR := Lib.hid hR
  clear hK1 hR1 hK2 hR2 hK3 hR3 hT hR
  obtain ⟨n, hn⟩ : ∃ n, ts.length = n := ⟨_, rfl⟩
  rw [hn]
  have HN := Lib.hid hn
  clear hn
  have N1 := Lib.hid (fun (u : World) (h : KnS u A1 l1) => newm_any u l1 A1 c1 h H_hR1.out)
  obtain ⟨n1, hn1⟩ : ∃ n, l1.length = n := ⟨_, rfl⟩
  rw [hn1]
  obtain ⟨⟨u1, e1⟩, hr1⟩ : ∃ r, newK l1 = r := ⟨_, rfl⟩
  rw [hn1, hr1] at N1
  have H_u1 := Lib.hid hr1
  clear hr1 hn1
  have N2 := Lib.hid (fun (u : World) (h : KnS u A2 l2) => newm_any u l2 A2 c2 h H_hR2.out)
  obtain ⟨n2, hn2⟩ : ∃ n, l2.length = n := ⟨_, rfl⟩
  rw [hn2]
  obtain ⟨⟨u2, e2⟩, hr2⟩ : ∃ r, newK l2 = r := ⟨_, rfl⟩
  rw [hn2, hr2] at N2
  have H_u2 := Lib.hid hr2
  clear hr2 hn2
  have N3 := Lib.hid (fun (u : World) (h : KnS u A3 l3) => newm_any u l3 A3 c3 h H_hR3.out)
  obtain ⟨n3, hn3⟩ : ∃ n, l3.length = n := ⟨_, rfl⟩
  rw [hn3]
  obtain ⟨⟨u3, e3⟩, hr3⟩ : ∃ r, newK l3 = r := ⟨_, rfl⟩
  rw [hn3, hr3] at N3
  have H_u3 := Lib.hid hr3
  clear hr3 hn3
  rw [cmpE1]
  refine wp_seq_k (fun K1 hK1 => ?_)
  have HK1 := Lib.hid hK1
  clear hK1
  conv => arg 2; whnf
  go_wp2_with fail
  with_reducible refine (MKN.out _).mono ?_
  rintro e_ w1 ⟨rfl, hb1⟩
  have n_H_hK1 := Lib.hid (H_hK1.out.below hb1)
  have n_H_hK2 := Lib.hid (H_hK2.out.below hb1)
  have n_H_hK3 := Lib.hid (H_hK3.out.below hb1)
  have n_H_hT := Lib.hid (H_hT.out.below hb1)
  have HBW := Lib.hid hb1
  clear hb1 H_hK1 H_hK2 H_hK3 H_hT
  have H_hK1 := n_H_hK1
  have H_hK2 := n_H_hK2
  have H_hK3 := n_H_hK3
  have H_hT := n_H_hT
  clear n_H_hK1 n_H_hK2 n_H_hK3 n_H_hT
  go_wp2
  refine HK1.out _ _ ?_
  rw [cmpE2]
  refine wp_seq_k (fun K2 hK2 => ?_)
  have HK2 := Lib.hid hK2
  clear hK2
  conv => arg 2; whnf
  by_cases h2000 : n ≤ 2000
  · have q1 : ((2000 : Int) < (n : Int)) = False := eq_false (by omega)
    go_wp2
    refine HK2.out _ _ ?_
    rw [cmpE3]
    refine wp_seq_k (fun K3 hK3 => ?_)
    have HK3 := Lib.hid hK3
    clear hK3
    conv => arg 2; whnf
    go_wp2_with fail
    with_reducible refine (N1.out _ H_hK1.out).mono ?_
    rintro e_ x1 ⟨v1, rfl, hv, hb⟩
    have N_v1 := Lib.hid hv
    have nB := Lib.hid (Hand.stepB hb HBW.out (Nat.le_refl _))
    have n_H_hK1 := Lib.hid (H_hK1.out.below hb)
    have n_H_hK2 := Lib.hid (H_hK2.out.below hb)
    have n_H_hK3 := Lib.hid (H_hK3.out.below hb)
    have n_H_hT := Lib.hid (H_hT.out.below hb)
    clear hv hb HBW H_hK1 H_hK2 H_hK3 H_hT
    have HBW := nB
    clear nB
    have H_hK1 := n_H_hK1
    clear n_H_hK1
    have H_hK2 := n_H_hK2
    clear n_H_hK2
    have H_hK3 := n_H_hK3
    clear n_H_hK3
    have H_hT := n_H_hT
    clear n_H_hT
    go_wp2
    refine HK3.out _ _ ?_
    rw [cmpE4]
    refine wp_seq_k (fun K4 hK4 => ?_)
    have HK4 := Lib.hid hK4
    clear hK4
    conv => arg 2; whnf
    go_wp2_with fail
    with_reducible refine (N2.out _ H_hK2.out).mono ?_
    rintro e_ x2 ⟨v2, rfl, hv, hb⟩
    have m_1 := Lib.hid (NewR.below N_v1.out hb)
    have N_v2 := Lib.hid hv
    have nB := Lib.hid (Hand.stepB hb HBW.out (Nat.le_refl _))
    have n_H_hK1 := Lib.hid (H_hK1.out.below hb)
    have n_H_hK2 := Lib.hid (H_hK2.out.below hb)
    have n_H_hK3 := Lib.hid (H_hK3.out.below hb)
    have n_H_hT := Lib.hid (H_hT.out.below hb)
    clear hv hb HBW H_hK1 H_hK2 H_hK3 H_hT
    have HBW := nB
    clear nB
    have H_hK1 := n_H_hK1
    clear n_H_hK1
    have H_hK2 := n_H_hK2
    clear n_H_hK2
    have H_hK3 := n_H_hK3
    clear n_H_hK3
    have H_hT := n_H_hT
    clear n_H_hT
    clear N_v1
    have N_v1 := m_1
    clear m_1
    go_wp2
    refine HK4.out _ _ ?_
    rw [cmpE5]
    refine wp_seq_k (fun K5 hK5 => ?_)
    have HK5 := Lib.hid hK5
    clear hK5
    conv => arg 2; whnf
    go_wp2_with fail
    with_reducible refine (N3.out _ H_hK3.out).mono ?_
    rintro e_ x3 ⟨v3, rfl, hv, hb⟩
    have m_2 := Lib.hid (NewR.below N_v2.out hb)
    have m_1 := Lib.hid (NewR.below N_v1.out hb)
    have N_v3 := Lib.hid hv
    have nB := Lib.hid (Hand.stepB hb HBW.out (Nat.le_refl _))
    have n_H_hK1 := Lib.hid (H_hK1.out.below hb)
    have n_H_hK2 := Lib.hid (H_hK2.out.below hb)
    have n_H_hK3 := Lib.hid (H_hK3.out.below hb)
    have n_H_hT := Lib.hid (H_hT.out.below hb)
    clear hv hb HBW H_hK1 H_hK2 H_hK3 H_hT
    have HBW := nB
    clear nB
    have H_hK1 := n_H_hK1
    clear n_H_hK1
    have H_hK2 := n_H_hK2
    clear n_H_hK2
    have H_hK3 := n_H_hK3
    clear n_H_hK3
    have H_hT := n_H_hT
    clear n_H_hT
    clear N_v1
    have N_v1 := m_1
    clear m_1
    clear N_v2
    have N_v2 := m_2
    clear m_2
    go_wp2
    refine HK5.out _ _ ?_
    rw [cmpE6]
    refine wp_seq_k (fun K6 hK6 => ?_)
    have HK6 := Lib.hid hK6
    clear hK6
    conv => arg 2; whnf
    by_cases h1 : e1 = 0
    · have j1 : (e1 == 0) = true := by simpa using h1
      have F1 := Lib.hid (fun (u : World) => (by have := fine6_any e1 u; rw [j1] at this; exact this : Calls Try.prog 14 #[.int .i64 e1] u fun r w' => r = .returned (.bool true) ∧ w' = u))
      clear j1
      subst h1
      by_cases h2 : e2 = 0
      · have j2 : (e2 == 0) = true := by simpa using h2
        have F2 := Lib.hid (fun (u : World) => (by have := fine6_any e2 u; rw [j2] at this; exact this : Calls Try.prog 14 #[.int .i64 e2] u fun r w' => r = .returned (.bool true) ∧ w' = u))
        clear j2
        subst h2
        by_cases h3 : e3 = 0
        · have j3 : (e3 == 0) = true := by simpa using h3
          have F3 := Lib.hid (fun (u : World) => (by have := fine6_any e3 u; rw [j3] at this; exact this : Calls Try.prog 14 #[.int .i64 e3] u fun r w' => r = .returned (.bool true) ∧ w' = u))
          clear j3
          subst h3
          go_wp2_with fail
          with_reducible refine (F1.out _).mono ?_
          rintro e_ vf1 ⟨rfl, rfl⟩
          go_wp2_with fail
          with_reducible refine (F2.out _).mono ?_
          rintro e_ vf2 ⟨rfl, rfl⟩
          go_wp2_with fail
          with_reducible refine (F3.out _).mono ?_
          rintro e_ vf3 ⟨rfl, rfl⟩
          go_wp2
          refine HK6.out _ _ ?_
          obtain ⟨m1, rfl⟩ : ∃ s, u1 = some s := by rcases newK_cases l1 with ⟨z, hz⟩ | ⟨e, h1, h2⟩; (rw [H_u1.out] at hz; cases hz; exact ⟨_, rfl⟩); (rw [H_u1.out] at h2; cases h2; exact absurd rfl h1)
          obtain ⟨m2, rfl⟩ : ∃ s, u2 = some s := by rcases newK_cases l2 with ⟨z, hz⟩ | ⟨e, h1, h2⟩; (rw [H_u2.out] at hz; cases hz; exact ⟨_, rfl⟩); (rw [H_u2.out] at h2; cases h2; exact absurd rfl h1)
          obtain ⟨m3, rfl⟩ : ∃ s, u3 = some s := by rcases newK_cases l3 with ⟨z, hz⟩ | ⟨e, h1, h2⟩; (rw [H_u3.out] at hz; cases hz; exact ⟨_, rfl⟩); (rw [H_u3.out] at h2; cases h2; exact absurd rfl h1)
          obtain ⟨p1, a1, b1, d1, f1, rfl, hM1, _, _, _⟩ := N_v1.out
          obtain ⟨p2, a2, b2, d2, f2, rfl, hM2, _, _, _⟩ := N_v2.out
          obtain ⟨p3, a3, b3, d3, f3, rfl, hM3, _, _, _⟩ := N_v3.out
          rw [← HN.out]
          exact cmp_b w _ m1 m2 m3 ts hM1 hM2 (mk_of H_u1.out) (mk_of H_u2.out) hM3 (mk_of H_u3.out) H_hT.out H_hR.out (by rw [HN.out]; exact h2000) HBW.out
        · have j3 : (e3 == 0) = false := by simpa using h3
          have F3 := Lib.hid (fun (u : World) => (by have := fine6_any e3 u; rw [j3] at this; exact this : Calls Try.prog 14 #[.int .i64 e3] u fun r w' => r = .returned (.bool false) ∧ w' = u))
          clear j3
          clear h3
          go_wp2_with fail
          with_reducible refine (F1.out _).mono ?_
          rintro e_ vf1 ⟨rfl, rfl⟩
          go_wp2_with fail
          with_reducible refine (F2.out _).mono ?_
          rintro e_ vf2 ⟨rfl, rfl⟩
          go_wp2_with fail
          with_reducible refine (F3.out _).mono ?_
          rintro e_ vf3 ⟨rfl, rfl⟩
          go_wp2
          go_ret
          exact ⟨rfl, HBW.out⟩
      · have j2 : (e2 == 0) = false := by simpa using h2
        have F2 := Lib.hid (fun (u : World) => (by have := fine6_any e2 u; rw [j2] at this; exact this : Calls Try.prog 14 #[.int .i64 e2] u fun r w' => r = .returned (.bool false) ∧ w' = u))
        clear j2
        clear h2
        go_wp2_with fail
        with_reducible refine (F1.out _).mono ?_
        rintro e_ vf1 ⟨rfl, rfl⟩
        go_wp2_with fail
        with_reducible refine (F2.out _).mono ?_
        rintro e_ vf2 ⟨rfl, rfl⟩
        go_wp2
        go_ret
        exact ⟨rfl, HBW.out⟩
    · have j1 : (e1 == 0) = false := by simpa using h1
      have F1 := Lib.hid (fun (u : World) => (by have := fine6_any e1 u; rw [j1] at this; exact this : Calls Try.prog 14 #[.int .i64 e1] u fun r w' => r = .returned (.bool false) ∧ w' = u))
      clear j1
      clear h1
      go_wp2_with fail
      with_reducible refine (F1.out _).mono ?_
      rintro e_ vf1 ⟨rfl, rfl⟩
      go_wp2
      go_ret
      exact ⟨rfl, HBW.out⟩
  · have q1 : ((2000 : Int) < (n : Int)) = True := eq_true (by omega)
    go_wp2
    go_ret
    exact ⟨rfl, HBW.out⟩
set_option maxHeartbeats 4000000 in
set_option maxRecDepth 100000 in
theorem composes6 (l1 l2 l3 : List Kn) (ts : List Rt) (w : World) {A A1 A2 A3 : Option Addr} {cap c1 c2 c3 : Nat} (hK1 : KnS w A1 l1) (hR1 : KnR l1) (hK2 : KnS w A2 l2) (hR2 : KnR l2) (hK3 : KnS w A3 l3) (hR3 : KnR l3) (hT : RtS w A ts) (hR : ∀ t ∈ ts, R64 t) :
    Calls Try.prog 8 #[.slice A1 l1.length c1, .slice A2 l2.length c2, .slice A3 l3.length c3, .slice A ts.length cap] w fun e w' => e = .returned (.bool true) ∧ Below w.heap.size w w' := by
  have H_hK1 := Lib.hid hK1
  have H_hR1 := Lib.hid hR1
  have H_hK2 := Lib.hid hK2
  have H_hR2 := Lib.hid hR2
  have H_hK3 := Lib.hid hK3
  have H_hR3 := Lib.hid hR3
  have H_hT := Lib.hid hT
  have H_hR := Lib.hid hR
  clear hK1 hR1 hK2 hR2 hK3 hR3 hT hR
  go_enter Try.func8, Try.ntmps8
  refine wp_seq_k (fun K0 hK0 => ?_)
  have HK0 := Lib.hid hK0
  clear hK0
  go_wp2
  refine HK0.out _ _ ?_
  exact cmp_t1 w l1 l2 l3 ts H_hK1.out H_hR1.out H_hK2.out H_hR2.out H_hK3.out H_hR3.out H_hT.out H_hR.out
end Go.Proofs.Ythlpaglldhgmfaa.PA
