/- Chapter 6: RetimeOwn, walked from its head. -/
import Derived.Test.YthlpaglldhgmfaaOwnC
import Derived.Lib.AppendZeros
import Derived.Deep.AppendLies
namespace Go.Proofs.Ythlpaglldhgmfaa.PA
open Go Go.RowKit Go.Proofs.YthlpaglldhgmfaaW.PrintWords Go.Proofs.YthlpaglldhgmfaaW.PrintLast Go.Proofs.YthlpaglldhgmfaaW.PrintMore
attribute [local go_sem high] eqA31 eqA35
set_option linter.unusedSimpArgs false
set_option linter.unusedVariables false
set_option maxHeartbeats 4000000 in
set_option maxRecDepth 100000 in
theorem own_b (w W : World) (m : MapV) (ts : List Rt) {z0 z2 z3 z4 z5 z7 z8 z9 z10 z11 z12 z13 z14 z15 z16 z17 z18 z19 z20 z21 z22 z23 z24 z25 z26 z27 z28 z29 z30 z31 z32 z33 z34 z35 z36 z37 z38 z39 z40 z41 z42 z43 z44 z45 z46 z47 z48 z49 z50 z51 z52 z53 z54 z55 z56 z57 z58 z59 z60 z61 z62 z63 z64 z65 z66 z67 z68 z69 z70 z71 z72 z73 z74 z75 z76 z77 z78 z79 z80 z81 z82 z83 z84 z85 z86 z87 z88 z89 z90 z91 z92 z93 z94 z95 z96 z97 z98 z99 z100 z101 z102 z103 z104 z105 z106 z107 z108 z109 z110 z111 z112 z113 z114 z115 z116 z117 z118 z119 z120 z121 z122 z123 z124 z125 z126 z127 z128 z129 z130 z131 z132 z133 z134 z135 z136 z137 z138 z139 z140 z141 z142 z143 z144 z145 z146 z147 z148 z149 z150 z151 z152 z153 z154 z155 z156 z157 z158 z159 : Value} {A : Option Addr} {cap p : Nat} {ak as_ : Addr} {ck cs : Nat} (hm : MapA W p ak as_ ck cs m) (hok : MapOk m) (hT : RtS W A ts) (hR : ∀ t ∈ ts, R64 t) (hl : ts.length ≤ 300) (hB : Below w.heap.size w W) :
    ownT7.wp Try.prog (bodyPost Try.prog Try.f6 (fun e w' => e = .returned (.bool true) ∧ Below w.heap.size w w')) ⟨#[z0, .slice A ts.length cap, z2, z3, z4, z5, .pointer (some ⟨p, 0, none⟩), z7, z8, z9, z10, z11, z12, z13, z14, z15, z16, z17, z18, z19, z20, z21, z22, z23, z24, z25, z26, z27, z28, z29, z30, z31, z32, z33, z34, z35, z36, z37, z38, z39, z40, z41, z42, z43, z44, z45, z46, z47, z48, z49, z50, z51, z52, z53, z54, z55, z56, z57, z58, z59, z60, z61, z62, z63, z64, z65, z66, z67, z68, z69, z70, z71, z72, z73, z74, z75, z76, z77, z78, z79, z80, z81, z82, z83, z84, z85, z86, z87, z88, z89, z90, z91, z92, z93, z94, z95, z96, z97, z98, z99, z100, z101, z102, z103, z104, z105, z106, z107, z108, z109, z110, z111, z112, z113, z114, z115, z116, z117, z118, z119, z120, z121, z122, z123, z124, z125, z126, z127, z128, z129, z130, z131, z132, z133, z134, z135, z136, z137, z138, z139, z140, z141, z142, z143, z144, z145, z146, z147, z148, z149, z150, z151, z152, z153, z154, z155, z156, z157, z158, z159], []⟩ W := by
  have hk0 := hok.k0
  have hk66 := hok.k1
  have hml := hm.lt hok
  have hrt := rts_lt hT
  have M1 := Lib.hid (fun (u : World) (h : MapA u p ak as_ ck cs m) => knots_any p ak as_ ck cs m u h hok.k0 hok.k1)
  have ML := Lib.hid (fun (u : World) (h : MapA u p ak as_ ck cs m) (h2 : RtS u A ts) => all_any p ak as_ ck cs m A ts cap u h hok h2 hR (by omega))
  obtain ⟨nk, hnk⟩ : ∃ n, m.knots.length = n := ⟨_, rfl⟩
  rw [hnk] at M1 hk0 hk66
  have HNK := Lib.hid hnk
  obtain ⟨nt, hnt⟩ : ∃ n, ts.length = n := ⟨_, rfl⟩
  rw [hnt] at ML hl ⊢
  have HNT := Lib.hid hnt
  obtain ⟨ys, hys⟩ : ∃ x, (allS m ts).1 = x := ⟨_, rfl⟩
  rw [hys] at ML
  obtain ⟨ef, hef⟩ : ∃ x, (allS m ts).2.2 = x := ⟨_, rfl⟩
  rw [hef] at ML
  have HEF := Lib.hid hef
  have HM := Lib.hid hm
  have HOK := Lib.hid hok
  have HT := Lib.hid hT
  have HR := Lib.hid hR
  have HB := Lib.hid hB
  have HYS := Lib.hid hys
  have HRT := Lib.hid hrt
  clear hm hok hT hR hB hys hrt hnk hnt hef
  rw [ownE7]
  refine wp_seq_k (fun K7 hK7 => ?_)
  have HK7 := Lib.hid hK7
  clear hK7
  conv => arg 2; whnf
  go_wp2_with fail
  with_reducible refine (M1.out _ HM.out).mono ?_
  rintro e_ w1 ⟨ga, ca, rfl, hoa, hb1⟩
  have HOA := Lib.hid hoa
  have HB1 := Lib.hid hb1
  have hga := hoa.lt ga rfl
  have hs1 := hb1.size
  clear hoa hb1
  go_wp2
  refine HK7.out _ _ ?_
  rw [ownE8]
  refine wp_seq_k (fun K8 hK8 => ?_)
  have HK8 := Lib.hid hK8
  clear hK8
  conv => arg 2; whnf
  go_wp2_with fail
  with_reducible refine (M1.out _ (HM.out.below HB1.out)).mono ?_
  rintro e_ w2 ⟨gb, cb, rfl, hob, hb2⟩
  have HKB := Lib.hid (own_kna hob)
  have HB2 := Lib.hid hb2
  have hgb := hob.lt gb rfl
  have hs2 := hb2.size
  clear hob hb2
  go_wp2
  refine HK8.out _ _ ?_
  rw [ownE9]
  refine wp_seq_k (fun K9 hK9 => ?_)
  have HK9 := Lib.hid hK9
  clear hK9
  conv => arg 2; whnf
  go_wp2_with (at_builtin; refine wpList_append_lies _ rfl _ _ 22 rfl w2.heap.size 35 _ (.agg #[.int .i64 0, .int .i64 0, .int .i64 0, .int .i64 0]) 4 32 Try.underlying22 rfl rfl rfl rfl rfl (by decide) _ _ _ rfl (World.ownsRow_made w2 #[] 0 (Nat.le_refl _) (Nat.zero_le _) rfl) ⟨gb, 0, none⟩ nk cb (flatK m.knots) rfl (by rw [flatK_len, HNK.out]) (kna_flat (HKB.out.below ((Below.refl _ _).alloc (Nat.le_refl _) _))) (flatK_one _) hk0 (by unfold maxLen; omega) (by omega) (by simp) _ rfl ?_)
  intro gw cw w3 how hgrow3 hat3 hlt3
  try simp only [Nat.zero_add, List.nil_append] at how
  have hb3 : Below w2.heap.size w2 w3 := ((Below.refl _ w2).alloc (Nat.le_refl _) _).grown hgrow3 (by simp) (by intro k hk; simp [Value.ownBlock] at hk; omega)
  have HKW := Lib.hid (own_kna how)
  have HB3 := Lib.hid hb3
  have hgw := how.lt gw rfl
  have hs3 := hb3.size
  clear how hgrow3 hat3 hlt3 hb3
  try simp only [Nat.zero_add]
  go_wp2
  refine HK9.out _ _ ?_
  have HB13 := Lib.hid (Hand.stepB HB3.out (Hand.stepB HB2.out HB1.out (Nat.le_refl _)) (Nat.le_refl _))
  rw [ownE10]
  refine wp_seq_k (fun K10 hK10 => ?_)
  have HK10 := Lib.hid hK10
  clear hK10
  conv => arg 2; whnf
  go_wp2_with fail
  with_reducible refine (ML.out _ (HM.out.below HB13.out) (HT.out.below HB13.out)).mono ?_
  rintro e_ w4 ⟨vx, rfl, hox, hb4⟩
  have HOX := Lib.hid (own_rts hox)
  have HB4 := Lib.hid hb4
  have HB14 := Lib.hid (Hand.stepB hb4 HB13.out (Nat.le_refl _))
  have hs4 := hb4.size
  clear hox hb4
  go_wp2
  refine HK10.out _ _ ?_
  rw [ownE11]
  refine wp_seq_k (fun K11 hK11 => ?_)
  have HK11 := Lib.hid hK11
  clear hK11
  conv => arg 2; whnf
  go_wp2_with fail
  with_reducible refine (ML.out _ (HM.out.below HB14.out) (HT.out.below HB14.out)).mono ?_
  rintro e_ w5 ⟨vy, rfl, hoy, hb5⟩
  obtain ⟨Ay, cy, rfl, _, hry, hfy⟩ := own_rts hoy
  have HRY := Lib.hid hry
  have HFY := Lib.hid hfy
  have HB5 := Lib.hid hb5
  have HB15 := Lib.hid (Hand.stepB hb5 HB14.out (Nat.le_refl _))
  have hs5 := hb5.size
  clear hoy hry hfy hb5
  go_wp2
  refine HK11.out _ _ ?_
  have HB25 := Lib.hid (Hand.stepB HB5.out (Hand.stepB HB4.out HB3.out (Nat.le_refl _)) (Nat.le_refl _))
  have HB35 := Lib.hid (Hand.stepB HB5.out HB4.out (Nat.le_refl _))
  have HB1_5 := Lib.hid (Hand.stepB HB25.out HB2.out (Nat.le_refl _))
  obtain ⟨mp, mk, ms⟩ := hml
  have KP := Lib.hid (fun (gx : Nat) (hg : w3.heap.size ≤ gx) (hy : ys = [] ∨ ∀ ad, Ay = some ad → ad.block ≠ gx) (V' : World) (f : F2 ga gx w5 V') => (by refine ⟨(HM.out.below HB15.out).f2 f ⟨by omega, by omega⟩ ⟨by omega, by omega⟩ ⟨by omega, by omega⟩, (HT.out.below HB15.out).f2 f ?_, (HKB.out.below HB25.out).f2 f (by dsimp only; omega) (by dsimp only; omega), (HKW.out.below HB35.out).f2 f (by dsimp only; omega) (by dsimp only; omega), HRY.out.f2 f ?_⟩; (rcases HRT.out with h | ⟨ad, h1, h2, _⟩; exact Or.inl h; exact Or.inr (fun ad' h' => by rw [h1] at h'; cases h'; exact ⟨by omega, by omega⟩)); (rcases hy with hy | hy; exact Or.inl hy; refine Or.inr (fun ad' h' => ⟨?_, hy ad' h'⟩); rcases HFY.out with ⟨_, hv⟩ | ⟨g, hg1, hg2, _⟩; (injection hv with e1; rw [e1] at h'; cases h'); (rw [hg1] at h'; cases h'; dsimp only; omega)) : MapA V' p ak as_ ck cs m ∧ RtS V' A ts ∧ KnA V' ⟨gb, 0, none⟩ m.knots ∧ KnA V' ⟨gw, 0, none⟩ m.knots ∧ RtS V' Ay ys))
  have hva : VR w5 ga nk ca 4 35 := (VR.of_own HOA.out).below HB1_5.out
  have hbf : Below w.heap.size w w5 := HB.out.trans (Below.mono HB15.out HB.out.size)
  have hsw := HB.out.size
  obtain ⟨Ax, cx, hvx, _, _, hfx⟩ := HOX.out
  rw [← HEF.out, ← HNK.out, ← HNT.out]
  rw [← HNK.out] at hva
  rcases hfx with ⟨h0, hv⟩ | ⟨gx, hx1, hx2, hx3, hx4⟩
  · exact own_c w w5 m ts ys HYS.out HOK.out HR.out (by rw [HNT.out]; exact hl) hbf ga w5.heap.size hva (Or.inl ⟨h0, hv⟩) (by omega) (by omega) (by omega) (KP.out _ (by omega) (Or.inl h0))
  · exact own_c w w5 m ts ys HYS.out HOK.out HR.out (by rw [HNT.out]; exact hl) hbf ga gx hva (Or.inr ⟨cx, by rw [hvx, hx1], hx4.below HB5.out⟩) (by omega) (by omega) (by omega) (KP.out gx hx2 (by rcases HFY.out with ⟨h, _⟩ | ⟨g, hg1, hg2, _⟩; exact Or.inl h; exact Or.inr (fun ad h' => by rw [hg1] at h'; cases h'; dsimp only; omega)))
theorem kns_nil {w : World} {A : Option Addr} {l : List Kn} (h : l = []) : KnS w A l := .inl h
theorem kns_some {w : World} {a : Addr} {l : List Kn} (h : KnA w a l) : KnS w (some a) l := .inr ⟨_, rfl, h⟩
set_option maxRecDepth 100000 in
theorem run_append_0 (w : World) (ty : TypeId) (b : Addr) (A : Option Addr) (c : Nat) : (Builtin.append_ #[22, 22] ty #[.slice (some b) 0 0, .slice A 0 c]).run Try.prog w = .ok (.slice (some b) 0 0) w := by
  obtain ⟨i0, hi0⟩ : ∃ i, Try.prog.info? 35 = some i := ⟨_, rfl⟩
  cases A with
  | none => simp [Builtin.append_, run_underlying Try.underlying22, sizeOf, typeInfo, hi0, Builtin.lenOf, Builtin.firstCells, storeCells]
  | some a => simp [Builtin.append_, run_underlying Try.underlying22, sizeOf, typeInfo, hi0, Builtin.lenOf, Builtin.firstCells, storeCells, loadCells, loadCellsFrom]
set_option maxHeartbeats 4000000 in
set_option maxRecDepth 100000 in
theorem own_t1 (w : World) (l : List Kn) (ts : List Rt) {z2 z3 z4 z5 z6 z7 z8 z9 z10 z11 z12 z13 z14 z15 z16 z17 z18 z19 z20 z21 z22 z23 z24 z25 z26 z27 z28 z29 z30 z31 z32 z33 z34 z35 z36 z37 z38 z39 z40 z41 z42 z43 z44 z45 z46 z47 z48 z49 z50 z51 z52 z53 z54 z55 z56 z57 z58 z59 z60 z61 z62 z63 z64 z65 z66 z67 z68 z69 z70 z71 z72 z73 z74 z75 z76 z77 z78 z79 z80 z81 z82 z83 z84 z85 z86 z87 z88 z89 z90 z91 z92 z93 z94 z95 z96 z97 z98 z99 z100 z101 z102 z103 z104 z105 z106 z107 z108 z109 z110 z111 z112 z113 z114 z115 z116 z117 z118 z119 z120 z121 z122 z123 z124 z125 z126 z127 z128 z129 z130 z131 z132 z133 z134 z135 z136 z137 z138 z139 z140 z141 z142 z143 z144 z145 z146 z147 z148 z149 z150 z151 z152 z153 z154 z155 z156 z157 z158 z159 : Value} {A Al : Option Addr} {cap capl : Nat} (hK : KnS w Al l) (hKR : KnR l) (hT : RtS w A ts) (hR : ∀ t ∈ ts, R64 t) (hroom : l.length * 32 ≤ 140737488355328) :
    ownT1.wp Try.prog (bodyPost Try.prog Try.f6 (fun e w' => e = .returned (.bool true) ∧ Below w.heap.size w w')) ⟨#[.slice Al l.length capl, .slice A ts.length cap, z2, z3, z4, z5, z6, z7, z8, z9, z10, z11, z12, z13, z14, z15, z16, z17, z18, z19, z20, z21, z22, z23, z24, z25, z26, z27, z28, z29, z30, z31, z32, z33, z34, z35, z36, z37, z38, z39, z40, z41, z42, z43, z44, z45, z46, z47, z48, z49, z50, z51, z52, z53, z54, z55, z56, z57, z58, z59, z60, z61, z62, z63, z64, z65, z66, z67, z68, z69, z70, z71, z72, z73, z74, z75, z76, z77, z78, z79, z80, z81, z82, z83, z84, z85, z86, z87, z88, z89, z90, z91, z92, z93, z94, z95, z96, z97, z98, z99, z100, z101, z102, z103, z104, z105, z106, z107, z108, z109, z110, z111, z112, z113, z114, z115, z116, z117, z118, z119, z120, z121, z122, z123, z124, z125, z126, z127, z128, z129, z130, z131, z132, z133, z134, z135, z136, z137, z138, z139, z140, z141, z142, z143, z144, z145, z146, z147, z148, z149, z150, z151, z152, z153, z154, z155, z156, z157, z158, z159], []⟩ w := by
  have MKN := Lib.hid known6_any
  have HK := Lib.hid hK
  have HKR := Lib.hid hKR
  have HT := Lib.hid hT
  have HR := Lib.hid hR
  clear hK hKR hT hR
  obtain ⟨n, hn⟩ : ∃ n, ts.length = n := ⟨_, rfl⟩
  rw [hn]
  have HN := Lib.hid hn
  clear hn
  obtain ⟨⟨mo, er⟩, hr⟩ : ∃ r, newK l = r := ⟨_, rfl⟩
  have MN := Lib.hid (fun (u : World) (B : Option Addr) (c : Nat) (h : KnS u B l) => (by have := newm_any u l B c h HKR.out; rw [hr] at this; exact this : Calls Try.prog 13 #[.slice B l.length c] u (NewQ u (mo, er))))
  have HRK := Lib.hid hr
  obtain ⟨nl, hnl⟩ : ∃ n, l.length = n := ⟨_, rfl⟩
  rw [hnl] at MN hroom ⊢
  have HNL := Lib.hid hnl
  clear hr hnl
  rw [ownE1]
  refine wp_seq_k (fun K1 hK1 => ?_)
  have HK1 := Lib.hid hK1
  clear hK1
  conv => arg 2; whnf
  go_wp2_with fail
  with_reducible refine (MKN.out _).mono ?_
  rintro e_ w1 ⟨rfl, hb1⟩
  have HB1 := Lib.hid hb1
  clear hb1
  go_wp2
  refine HK1.out _ _ ?_
  rw [ownE2]
  refine wp_seq_k (fun K2 hK2 => ?_)
  have HK2 := Lib.hid hK2
  clear hK2
  conv => arg 2; whnf
  by_cases h300 : n ≤ 300
  · have q1 : ((300 : Int) < (n : Int)) = False := eq_false (by omega)
    go_wp2
    refine HK2.out _ _ ?_
    rcases HK.out with hnil | ⟨al, rfl, hKA⟩
    · have hnl0 : nl = 0 := by rw [← HNL.out, hnil]; rfl
      subst hnl0
      have he : er ≠ 0 := by have h := HRK.out; rw [hnil] at h; have h2 : newK [] = (none, 1) := rfl; rw [h2] at h; cases h; decide
      rw [ownE3]
      refine wp_seq_k (fun K3 hK3 => ?_)
      have HK3 := Lib.hid hK3
      clear hK3
      conv => arg 2; whnf
      go_wp2_with (at_builtin; refine Lib.wpList_append_run _ rfl _ _ _ _ rfl _ _ rfl rfl _ _ (run_append_0 _ _ _ _ _) ?_)
      go_wp2
      refine HK3.out _ _ ?_
      rw [ownE4]
      refine wp_seq_k (fun K4 hK4 => ?_)
      have HK4 := Lib.hid hK4
      clear hK4
      conv => arg 2; whnf
      go_wp2_with fail
      with_reducible refine (MN.out _ _ _ (kns_nil hnil)).mono ?_
      rintro e_ w3 ⟨v, rfl, hv, hb3⟩
      have hB3 : Below w.heap.size w w3 := Hand.stepB hb3 (HB1.out.alloc HB1.out.size _) (Nat.le_refl _)
      clear hb3 hv
      go_wp2
      refine HK4.out _ _ ?_
      rw [ownE5]
      refine wp_seq_k (fun K5 hK5 => ?_)
      have HK5 := Lib.hid hK5
      clear hK5
      conv => arg 2; whnf
      have j1 : (er == 0) = false := by simpa using he
      have F1 := Lib.hid (fun (u : World) => (by have := fine6_any er u; rw [j1] at this; exact this : Calls Try.prog 14 #[.int .i64 er] u fun r w' => r = .returned (.bool false) ∧ w' = u))
      clear j1 he
      go_wp2_with fail
      with_reducible refine (F1.out _).mono ?_
      rintro e_ w4 ⟨rfl, rfl⟩
      go_wp2
      go_ret
      exact ⟨rfl, hB3⟩
    · have hnl0 : 0 < nl ∨ nl = 0 := by omega
      rcases hnl0 with hnl0 | hnl0
      · have HKA := Lib.hid (hKA.below HB1.out)
        rw [ownE3]
        refine wp_seq_k (fun K3 hK3 => ?_)
        have HK3 := Lib.hid hK3
        clear hK3
        conv => arg 2; whnf
        go_wp2_with (at_builtin; refine wpList_append_lies _ rfl _ _ 22 rfl w1.heap.size 35 _ (.agg #[.int .i64 0, .int .i64 0, .int .i64 0, .int .i64 0]) 4 32 Try.underlying22 rfl rfl rfl rfl rfl (by decide) _ _ _ rfl (World.ownsRow_made w1 #[] 0 (Nat.le_refl _) (Nat.zero_le _) rfl) al nl capl (flatK l) rfl (by rw [flatK_len, HNL.out]) (kna_flat (HKA.out.below ((Below.refl _ _).alloc (Nat.le_refl _) _))) (flatK_one _) hnl0 (by unfold maxLen; omega) (by omega) (by simp) _ rfl ?_)
        intro gm cm w2 hom hgrow2 hat2 hlt2
        try simp only [Nat.zero_add, List.nil_append] at hom
        have hb2 : Below w1.heap.size w1 w2 := ((Below.refl _ w1).alloc (Nat.le_refl _) _).grown hgrow2 (by simp) (by intro k hk; simp [Value.ownBlock] at hk; omega)
        have HKM := Lib.hid (own_kna hom)
        have HOM := Lib.hid (VR.of_own hom)
        have HB2 := Lib.hid (Hand.stepB hb2 HB1.out (Nat.le_refl _))
        have hgm := hom.lt gm rfl
        have hs1 := HB1.out.size
        clear hom hgrow2 hat2 hlt2 hb2
        try simp only [Nat.zero_add]
        go_wp2
        refine HK3.out _ _ ?_
        rw [ownE4]
        refine wp_seq_k (fun K4 hK4 => ?_)
        have HK4 := Lib.hid hK4
        clear hK4
        conv => arg 2; whnf
        go_wp2_with fail
        with_reducible refine (MN.out _ _ _ (kns_some HKM.out)).mono ?_
        rintro e_ w3 ⟨v, rfl, hv, hb3⟩
        have HV := Lib.hid hv
        have HB3 := Lib.hid (Hand.stepB hb3 HB2.out (Nat.le_refl _))
        have HVR := Lib.hid (HOM.out.below hb3)
        have hs3 := hb3.size
        clear hv hb3
        go_wp2
        refine HK4.out _ _ ?_
        rw [ownE5]
        refine wp_seq_k (fun K5 hK5 => ?_)
        have HK5 := Lib.hid hK5
        clear hK5
        conv => arg 2; whnf
        by_cases he : er = 0
        · have j1 : (er == 0) = true := by simpa using he
          have F1 := Lib.hid (fun (u : World) => (by have := fine6_any er u; rw [j1] at this; exact this : Calls Try.prog 14 #[.int .i64 er] u fun r w' => r = .returned (.bool true) ∧ w' = u))
          have HE := Lib.hid he
          clear j1 he
          go_wp2_with fail
          with_reducible refine (F1.out _).mono ?_
          rintro e_ w4 ⟨rfl, rfl⟩
          go_wp2
          refine HK5.out _ _ ?_
          obtain ⟨m, hm⟩ : ∃ m, newK l = (some m, 0) := by rcases newK_cases l with h | ⟨e, h1, h2⟩; exact h; rw [HRK.out] at h2; cases h2; exact absurd HE.out h1
          have hmo := HRK.out
          rw [hm] at hmo
          cases hmo
          have hq := newK_Q hm
          have hok := hq.ok
          have hn64 : nl ≤ 64 := by rw [← HNL.out]; exact hq.le
          obtain ⟨p, ak, as_, ck, cs, rfl, hMA, hp1, hp2, hp3⟩ := HV.out
          have HMA := Lib.hid hMA
          have HOK := Lib.hid hok
          have HRT := Lib.hid (rts_lt HT.out)
          clear hMA hok hq hm
          rw [ownE6]
          refine wp_seq_k (fun K6 hK6 => ?_)
          have HK6 := Lib.hid hK6
          clear hK6
          conv => arg 2; whnf
          go_wp2_with fail
          go_loopw [8] (fun i wr => ∃ j : Nat, j ≤ nl ∧ i = .int .i64 (j : Int) ∧ F2 gm gm w4 wr ∧ VR wr gm nl cm 4 35) (fun i _ => nl - (intOf i).toNat)
          case atStart => exact ⟨0, Nat.zero_le _, rfl, F2.refl _ _ _, HVR.out⟩
          case round =>
            obtain ⟨j, hj, rfl, hF, hV⟩ := hrel
            by_cases hjn : j < nl
            · have p1 : ((j : Int) < (nl : Int)) = True := eq_true (by omega)
              have p6 : (j < nl) = True := eq_true (by omega)
              have p5 : (0 : Int) ≤ (j : Int) := by omega
              have w2 : IntKind.i64.wrap (j : Int) = (j : Int) := by rw [IntKind.wrap_i64]; omega
              have hcx := hV.1
              obtain ⟨y0, c0, f0⟩ := hV.cell (j * 4) (by omega)
              obtain ⟨y1, c1, f1⟩ := hV.cell (j * 4 + 1) (by omega)
              obtain ⟨y2, c2, f2⟩ := hV.cell (j * 4 + 2) (by omega)
              obtain ⟨y3, c3, f3⟩ := hV.cell (j * 4 + 3) (by omega)
              have HF1 := Lib.hid hF
              have HV1 := Lib.hid hV
              clear hF hV
              go_wp2
              go_roundw
              case rel => exact ⟨j + 1, by omega, by rw [Int.natCast_add]; rfl, ((((HF1.out.set _ _ _ (Or.inl rfl)).set _ _ _ (Or.inl rfl)).set _ _ _ (Or.inl rfl)).set _ _ _ (Or.inl rfl)), (((HV1.out.set _ _).set _ _).set _ _).set _ _⟩
              case measure => simp [intOf]; omega
            · have p1 : ((j : Int) < (nl : Int)) = False := eq_false (by omega)
              have HF1 := Lib.hid hF
              have HV1 := Lib.hid hV
              clear hF hV
              go_wp2
              refine HK6.out _ _ ?_
              rw [← HN.out]
              exact own_b w wr m ts (HMA.out.f2 HF1.out ⟨by omega, by omega⟩ ⟨by omega, by omega⟩ ⟨by omega, by omega⟩) HOK.out ((HT.out.below HB3.out).f2 HF1.out (by rcases HRT.out with h | ⟨ad, h1, h2, _⟩; exact Or.inl h; exact Or.inr (fun ad' h' => by rw [h1] at h'; cases h'; exact ⟨by omega, by omega⟩))) HR.out (by rw [HN.out]; exact h300) (HF1.out.below HB3.out (by omega) (by omega) HB3.out.size)
        · have j1 : (er == 0) = false := by simpa using he
          have F1 := Lib.hid (fun (u : World) => (by have := fine6_any er u; rw [j1] at this; exact this : Calls Try.prog 14 #[.int .i64 er] u fun r w' => r = .returned (.bool false) ∧ w' = u))
          clear j1 he
          go_wp2_with fail
          with_reducible refine (F1.out _).mono ?_
          rintro e_ w4 ⟨rfl, rfl⟩
          go_wp2
          go_ret
          exact ⟨rfl, HB3.out⟩
      · have hnil : l = [] := List.length_eq_zero_iff.mp (by rw [HNL.out]; exact hnl0)
        subst hnl0
        have he : er ≠ 0 := by have h := HRK.out; rw [hnil] at h; have h2 : newK [] = (none, 1) := rfl; rw [h2] at h; cases h; decide
        rw [ownE3]
        refine wp_seq_k (fun K3 hK3 => ?_)
        have HK3 := Lib.hid hK3
        clear hK3
        conv => arg 2; whnf
        go_wp2_with (at_builtin; refine Lib.wpList_append_run _ rfl _ _ _ _ rfl _ _ rfl rfl _ _ (run_append_0 _ _ _ _ _) ?_)
        go_wp2
        refine HK3.out _ _ ?_
        rw [ownE4]
        refine wp_seq_k (fun K4 hK4 => ?_)
        have HK4 := Lib.hid hK4
        clear hK4
        conv => arg 2; whnf
        go_wp2_with fail
        with_reducible refine (MN.out _ _ _ (kns_nil hnil)).mono ?_
        rintro e_ w3 ⟨v, rfl, hv, hb3⟩
        have hB3 : Below w.heap.size w w3 := Hand.stepB hb3 (HB1.out.alloc HB1.out.size _) (Nat.le_refl _)
        clear hb3 hv
        go_wp2
        refine HK4.out _ _ ?_
        rw [ownE5]
        refine wp_seq_k (fun K5 hK5 => ?_)
        have HK5 := Lib.hid hK5
        clear hK5
        conv => arg 2; whnf
        have j1 : (er == 0) = false := by simpa using he
        have F1 := Lib.hid (fun (u : World) => (by have := fine6_any er u; rw [j1] at this; exact this : Calls Try.prog 14 #[.int .i64 er] u fun r w' => r = .returned (.bool false) ∧ w' = u))
        clear j1 he
        go_wp2_with fail
        with_reducible refine (F1.out _).mono ?_
        rintro e_ w4 ⟨rfl, rfl⟩
        go_wp2
        go_ret
        exact ⟨rfl, hB3⟩
  · have q1 : ((300 : Int) < (n : Int)) = True := eq_true (by omega)
    go_wp2
    go_ret
    exact ⟨rfl, HB1.out⟩
set_option maxHeartbeats 4000000 in
set_option maxRecDepth 100000 in
theorem own6 (l : List Kn) (ts : List Rt) (w : World) {A Al : Option Addr} {cap capl : Nat} (hK : KnS w Al l) (hKR : KnR l) (hT : RtS w A ts) (hR : ∀ t ∈ ts, R64 t) (hroom : l.length * 32 ≤ 140737488355328) :
    Calls Try.prog 6 #[.slice Al l.length capl, .slice A ts.length cap] w fun e w' => e = .returned (.bool true) ∧ Below w.heap.size w w' := by
  have HK := Lib.hid hK
  have HKR := Lib.hid hKR
  have HT := Lib.hid hT
  have HR := Lib.hid hR
  clear hK hKR hT hR
  go_enter Try.func6, Try.ntmps6
  refine wp_seq_k (fun K0 hK0 => ?_)
  have HK0 := Lib.hid hK0
  clear hK0
  go_wp2
  refine HK0.out _ _ ?_
  exact own_t1 w l ts HK.out HKR.out HT.out HR.out hroom
end Go.Proofs.Ythlpaglldhgmfaa.PA
