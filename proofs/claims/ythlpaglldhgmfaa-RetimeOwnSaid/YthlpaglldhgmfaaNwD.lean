/- Chapter 6: New, walked in parts. -/
import Derived.Test.YthlpaglldhgmfaaNwL
import Derived.Test.YthlpaglldhgmfaaCat6
namespace Go.Proofs.Ythlpaglldhgmfaa.PA
open Go Go.RowKit Go.Proofs.YthlpaglldhgmfaaW.PrintWords Go.Proofs.YthlpaglldhgmfaaW.PrintLast Go.Proofs.YthlpaglldhgmfaaW.PrintMore
set_option linter.unusedSimpArgs false
set_option linter.unusedVariables false
/-- what a choice does else -/
def elsC : Code → Code
  | .cond _ _ b => b
  | c => c
noncomputable def newD0 : Code := elsC (sndC (fstC newT10))
noncomputable def newD1 : Code := sndC newD0
noncomputable def newD2 : Code := sndC newD1
noncomputable def newD3 : Code := sndC newD2
theorem newDE0 : newD0 = .seq (fstC newD0) newD1 := by kernel_rfl
theorem newDE1 : newD1 = .seq (fstC newD1) newD2 := by kernel_rfl
theorem newDE2 : newD2 = .seq (fstC newD2) newD3 := by kernel_rfl
set_option maxHeartbeats 4000000 in
set_option maxRecDepth 100000 in
theorem new_d3 (w : World) (h t : Kn) (e : Int) (Bk : List Kn) (Ss : List Rt) {s0 s1 s2 s3 s4 s5 s6 s9 s11 s12 s13 s16 s17 s18 s19 s20 s21 s22 s23 s24 s25 s26 s27 s28 s29 s30 s31 s32 s33 s34 s35 s36 s37 s38 s39 s40 s41 s42 s43 s44 s45 s46 s47 s48 s49 s50 s51 s52 s53 s54 s55 s56 s57 s58 s59 s60 s61 s62 s63 s64 s65 s66 s67 s68 s69 s70 s71 s72 s73 s74 s75 s76 s77 s78 s79 s80 s81 s82 s83 s84 s85 s86 s87 s88 s89 s90 s91 s92 s93 s94 s95 s96 s97 s98 s99 s100 s101 s102 s103 s104 s105 s106 s107 s108 s109 s110 s111 s112 s113 s114 s115 s116 s117 s118 s119 s120 s121 s122 s123 s124 s125 s126 s127 s128 s129 s130 s131 s132 s133 s134 s135 s136 s137 s138 s139 s140 s141 s142 s143 s144 s145 s146 s147 s148 s149 s150 s151 s152 s153 s154 s155 s156 s157 s158 s159 s160 s161 s162 s163 s164 s165 s166 s167 s168 s169 : Value} {gm gs gb gh gt : Nat} {as_ : Addr} {nb cb cs : Nat} {K : Act → World → Prop} {Qx : Exit → Act → World → Prop} {V : World} (hK : ∀ a w', newT11.wp Try.prog (bodyPost Try.prog Try.f13 (NewQ w (endK e ⟨h :: (Bk ++ [t]), Ss, Bk.length⟩))) a w' → K a w') (hm : V.heap[gm]? = some (.cells #[.slice none 0 0, .slice (some as_) (nb + 1) cs, .int .i64 nb] 70 (0, 0))) (hs : V.heap[gs]? = some (stp e)) (hh : V.heap[gh]? = some (.cells #[.int .i64 h.1.1, .int .i64 h.1.2, .int .i64 h.2.1, .int .i64 h.2.2] 35 (0, 0))) (ht : V.heap[gt]? = some (.cells #[.int .i64 t.1.1, .int .i64 t.1.2, .int .i64 t.2.1, .int .i64 t.2.2] 35 (0, 0))) (hb : KnA V ⟨gb, 0, none⟩ Bk) (hS : RtA V as_ Ss) (hB : Below w.heap.size w V) (hgm : w.heap.size ≤ gm) (has : w.heap.size ≤ as_.block) (n1 : gm ≠ gs) (n2 : gm ≠ as_.block) (e1 : nb = Bk.length) (e2 : nb + 1 = Ss.length) (hnb : 0 < nb) (hnb2 : nb ≤ 64) (hR : KnR (h :: (Bk ++ [t]))) :
    newD3.wp Try.prog (Exit.then K Qx) ⟨#[s0, s1, s2, s3, s4, s5, s6, .pointer (some ⟨gm, 0, none⟩), .slice (some ⟨gb, 0, none⟩) nb cb, s9, .pointer (some ⟨gs, 0, none⟩), s11, s12, s13, .pointer (some ⟨gh, 0, none⟩), .pointer (some ⟨gt, 0, none⟩), s16, s17, s18, s19, s20, s21, s22, s23, s24, s25, s26, s27, s28, s29, s30, s31, s32, s33, s34, s35, s36, s37, s38, s39, s40, s41, s42, s43, s44, s45, s46, s47, s48, s49, s50, s51, s52, s53, s54, s55, s56, s57, s58, s59, s60, s61, s62, s63, s64, s65, s66, s67, s68, s69, s70, s71, s72, s73, s74, s75, s76, s77, s78, s79, s80, s81, s82, s83, s84, s85, s86, s87, s88, s89, s90, s91, s92, s93, s94, s95, s96, s97, s98, s99, s100, s101, s102, s103, s104, s105, s106, s107, s108, s109, s110, s111, s112, s113, s114, s115, s116, s117, s118, s119, s120, s121, s122, s123, s124, s125, s126, s127, s128, s129, s130, s131, s132, s133, s134, s135, s136, s137, s138, s139, s140, s141, s142, s143, s144, s145, s146, s147, s148, s149, s150, s151, s152, s153, s154, s155, s156, s157, s158, s159, s160, s161, s162, s163, s164, s165, s166, s167, s168, s169], []⟩ V := by
  obtain ⟨m0, fm0, m1, fm1, m2, fm2⟩ := Hand.hc3 hm
  obtain ⟨c0, f0, c1, f1, c2, f2, c3, f3⟩ := Hand.hc4 hh
  obtain ⟨d0, g0, d1, g1, d2, g2, d3, g3⟩ := Hand.hc4 ht
  have gmz := (Hand.hz hm).1
  have ghz := (Hand.hz hh).1
  have gtz := (Hand.hz ht).1
  have gsz := (Hand.hz hs).1
  obtain ⟨tz0, tz1, tz2, ty0, ty1⟩ := Hand.hz ht
  have HM := Lib.hid hm
  have HS := Lib.hid hs
  have HBK := Lib.hid hb
  have HSL := Lib.hid hS
  have HB := Lib.hid hB
  have HK := Lib.hid hK
  have HR := Lib.hid hR
  have E1 := Lib.hid e1
  have E2 := Lib.hid e2
  clear hm hs hh ht hb hS hB hK hR e1 e2
  have CC := Lib.hid (fun (u : World) (gq : Nat) (b1 b2 : Nat) (hq : u.heap[gq]? = some (.cells #[.slice (some ⟨b1, 0, none⟩) 1 1, .slice (some ⟨gb, 0, none⟩) nb cb, .slice (some ⟨b2, 0, none⟩) 1 1] 22 (0, 0))) (q1 : u.heap[b1]? = some (.cells #[.int .i64 h.1.1, .int .i64 h.1.2, .int .i64 h.2.1, .int .i64 h.2.2] 35 (0, 0))) (q2 : u.heap[b2]? = some (.cells #[.int .i64 t.1.1, .int .i64 t.1.2, .int .i64 t.2.1, .int .i64 t.2.2] 35 (0, 0))) (q3 : KnA u ⟨gb, 0, none⟩ Bk) => concatK gq ⟨b1, 0, none⟩ ⟨gb, 0, none⟩ ⟨b2, 0, none⟩ 1 nb 1 1 cb 1 3 (flatK [h]) (flatK Bk) (flatK [t]) u hq (by decide) hnb (by decide) (by decide) (by omega) (by decide) (by rw [flatK_len]; rfl) (by rw [flatK_len, E1.out]) (by rw [flatK_len]; rfl) (World.news_of_block q1) (kna_flat q3) (World.news_of_block q2) (flatK_one _) (flatK_one _) (flatK_one _))
  conv => arg 2; whnf
  go_wp2_with fail
  with_reducible refine (CC.out _ (V.heap.size + 1 + 1) V.heap.size (V.heap.size + 1) (Hand.q3 _ _ _ (by simp)) (by simp (disch := (first | omega | (simp only [World.size_alloc, World.size_drew, World.size_setCell]; first | done | omega))) only [Hand.q4, Hand.q3]) (by simp (disch := (first | omega | (simp only [World.size_alloc, World.size_drew, World.size_setCell]; first | done | omega))) only [Hand.q4, Hand.q3]) (HBK.out.below (by repeat (first | exact Below.refl _ _ | refine Below.alloc ?_ (by (first | omega | (simp only [World.size_alloc, World.size_drew, World.size_setCell]; first | done | omega))) _)))).mono ?_
  rintro e_ w1 ⟨gx, cx, rfl, hox, hb1⟩
  have hV3 : Below V.heap.size V w1 := Hand.stepB hb1 (by repeat (first | exact Below.refl _ _ | refine Below.alloc ?_ (by (first | omega | (simp only [World.size_alloc, World.size_drew, World.size_setCell]; first | done | omega))) _)) (Nat.le_refl _)
  have gm1 := Hand.kb hV3 HM.out
  have gs1 := Hand.kb hV3 HS.out
  have bk1 := HBK.out.below hV3
  have sl1 := HSL.out.below hV3
  obtain ⟨mm0, fmm0, mm1, fmm1, mm2, fmm2⟩ := Hand.hc3 gm1
  have gx1 : V.heap.size ≤ gx := by have := (hox.lt gx rfl).1; simp only [World.size_alloc] at this; omega
  have hox2 : w1.ownsRow 0 35 4 (.slice (some ⟨gx, 0, none⟩) (1 + nb + 1) cx) (1 + nb + 1) (flatK (h :: (Bk ++ [t]))) := by rw [show h :: (Bk ++ [t]) = [h] ++ Bk ++ [t] by simp, flatK_app, flatK_app]; exact own_base hox (Nat.zero_le _)
  have HO := Lib.hid hox2
  have GM1 := Lib.hid gm1
  have GS1 := Lib.hid gs1
  have SL1 := Lib.hid sl1
  have HV3 := Lib.hid hV3
  clear hox hox2 gm1 gs1 bk1 sl1 hV3 hb1
  go_wp2
  refine HK.out _ _ ?_
  refine new_c w ⟨h :: (Bk ++ [t]), Ss, Bk.length⟩ e (ak := ⟨gx, 0, none⟩) (as_ := as_) (ck := cx) (cs := cs) ⟨?_, ?_, ?_⟩ ?_ ?_ hgm ?_ has HR.out (Nat.zero_lt_succ _) (by simp only [List.length_cons, List.length_append, List.length_nil]; have := E1.out; omega)
  · rw [Hand.q1, GM1.out, ← E2.out, ← E1.out, show (h :: (Bk ++ [t])).length = 1 + nb + 1 by simp only [List.length_cons, List.length_append, List.length_nil, ← E1.out]; omega]; rfl
  · exact (own_kna HO.out).f2 ((F2.refl gm gm _).set _ _ _ (Or.inl rfl)) (by dsimp only; omega) (by dsimp only; omega)
  · exact SL1.out.f2 ((F2.refl gm gm _).set _ _ _ (Or.inl rfl)) (Ne.symm n2) (Ne.symm n2)
  · rw [Hand.q2 _ _ _ _ _ n1, GS1.out]
  · exact Below.setCell (HB.out.trans (Below.mono HV3.out HB.out.size)) (by dsimp only; omega) _
  · have := HB.out.size; show w.heap.size ≤ gx; omega
end Go.Proofs.Ythlpaglldhgmfaa.PA
