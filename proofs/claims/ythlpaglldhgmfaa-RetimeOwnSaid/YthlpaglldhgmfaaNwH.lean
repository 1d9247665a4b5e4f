/- Chapter 6: New, walked in parts. -/
import Derived.Test.YthlpaglldhgmfaaNwG
namespace Go.Proofs.Ythlpaglldhgmfaa.PA
open Go Go.RowKit Go.Proofs.YthlpaglldhgmfaaW.PrintWords Go.Proofs.YthlpaglldhgmfaaW.PrintLast Go.Proofs.YthlpaglldhgmfaaW.PrintMore
set_option linter.unusedSimpArgs false
set_option linter.unusedVariables false
noncomputable def newC18 : Code := fstC (fstC newT10)
def thnC : Code → Code
  | .cond _ a _ => a
  | c => c
noncomputable def newL0 : Code := thnC (sndC (fstC newT10))
theorem newE10c : newT10 = .seq (.seq newC18 (.cond (.tmp 79) newL0 newD0)) newT11 := by kernel_rfl
set_option maxHeartbeats 4000000 in
set_option maxRecDepth 100000 in
theorem new_bent (w : World) (kf kl : Kn) (sf sl : Rt) (Bk : List Kn) (Ss : List Rt) {s0 s1 s2 s3 s4 s5 s6 s9 s10 s11 s12 s13 s14 s15 s16 s17 s18 s19 s20 s21 s22 s23 s24 s25 s26 s27 s28 s29 s30 s31 s32 s33 s34 s35 s36 s37 s38 s39 s40 s41 s42 s43 s44 s45 s46 s47 s48 s49 s50 s51 s52 s53 s54 s55 s56 s57 s58 s59 s60 s61 s62 s63 s64 s65 s66 s67 s68 s69 s70 s71 s72 s73 s74 s75 s76 s77 s78 s79 s80 s81 s82 s83 s84 s85 s86 s87 s88 s89 s90 s91 s92 s93 s94 s95 s96 s97 s98 s99 s100 s101 s102 s103 s104 s105 s106 s107 s108 s109 s110 s111 s112 s113 s114 s115 s116 s117 s118 s119 s120 s121 s122 s123 s124 s125 s126 s127 s128 s129 s130 s131 s132 s133 s134 s135 s136 s137 s138 s139 s140 s141 s142 s143 s144 s145 s146 s147 s148 s149 s150 s151 s152 s153 s154 s155 s156 s157 s158 s159 s160 s161 s162 s163 s164 s165 s166 s167 s168 s169 : Value} {gm gb : Nat} {as_ : Addr} {nj cb cs : Nat} {W : World} (hm : W.heap[gm]? = some (.cells #[.slice none 0 0, .slice (some as_) (nj + 1 + 1) cs, .int .i64 0] 70 (0, 0))) (hb : KnA W ⟨gb, 0, none⟩ Bk) (hS : RtA W as_ Ss) (hB : Below w.heap.size w W) (hgm : w.heap.size ≤ gm) (has : w.heap.size ≤ as_.block) (n1 : gm ≠ gb) (n2 : gm ≠ as_.block) (e1 : nj + 1 = Bk.length) (e2 : nj + 1 + 1 = Ss.length) (hnb2 : nj + 1 ≤ 64) (hR : KnR Bk) (hkf : ∃ q, Bk[0]'q = kf) (hkl : ∃ q, Bk[nj]'q = kl) (hs0 : ∃ q, Ss[0]'q = sf) (hsl : ∃ q, Ss[nj + 1]'q = sl) (rs : ∀ s ∈ Ss, R64 s) :
    newT7.wp Try.prog (bodyPost Try.prog Try.f13 (NewQ w (endK (atS (doS rAdd (atS (doS rSub 0 kf.1 (1, 1)).2 kf sf (doS rSub 0 kf.1 (1, 1)).1).2 kl.1 (1, 1)).2 kl sl (doS rAdd (atS (doS rSub 0 kf.1 (1, 1)).2 kf sf (doS rSub 0 kf.1 (1, 1)).1).2 kl.1 (1, 1)).1).2 ⟨(atS (doS rSub 0 kf.1 (1, 1)).2 kf sf (doS rSub 0 kf.1 (1, 1)).1).1 :: (Bk ++ [(atS (doS rAdd (atS (doS rSub 0 kf.1 (1, 1)).2 kf sf (doS rSub 0 kf.1 (1, 1)).1).2 kl.1 (1, 1)).2 kl sl (doS rAdd (atS (doS rSub 0 kf.1 (1, 1)).2 kf sf (doS rSub 0 kf.1 (1, 1)).1).2 kl.1 (1, 1)).1).1]), Ss, Bk.length⟩))) ⟨#[s0, s1, s2, s3, s4, s5, s6, .pointer (some ⟨gm, 0, none⟩), .slice (some ⟨gb, 0, none⟩) (nj + 1) cb, s9, s10, s11, s12, s13, s14, s15, s16, s17, s18, s19, s20, s21, s22, s23, s24, s25, s26, s27, s28, s29, s30, s31, s32, s33, s34, s35, s36, s37, s38, s39, s40, s41, s42, s43, s44, s45, s46, s47, s48, s49, s50, s51, s52, s53, s54, s55, s56, s57, s58, s59, s60, s61, s62, s63, s64, s65, s66, s67, s68, s69, s70, s71, s72, s73, s74, s75, s76, s77, s78, s79, s80, s81, s82, s83, s84, s85, s86, s87, s88, s89, s90, s91, s92, s93, s94, s95, s96, s97, s98, s99, s100, s101, s102, s103, s104, s105, s106, s107, s108, s109, s110, s111, s112, s113, s114, s115, s116, s117, s118, s119, s120, s121, s122, s123, s124, s125, s126, s127, s128, s129, s130, s131, s132, s133, s134, s135, s136, s137, s138, s139, s140, s141, s142, s143, s144, s145, s146, s147, s148, s149, s150, s151, s152, s153, s154, s155, s156, s157, s158, s159, s160, s161, s162, s163, s164, s165, s166, s167, s168, s169], []⟩ W := by
  have gmz := (Hand.hz hm).1
  have gbz : gb < W.heap.size := by obtain ⟨q, e⟩ := hkf; have := World.block_lt_of_cell? W _ (hb 0 q).1; rw [add0] at this; exact this
  have gaz : as_.block < W.heap.size := by obtain ⟨q, e⟩ := hs0; have := World.block_lt_of_cell? W _ (hS 0 q).1; unfold Addr.add at this; split at this <;> exact this
  obtain ⟨m0, fm0, m1, fm1, m2, fm2⟩ := Hand.hc3 hm
  have HM := Lib.hid hm
  have HBK := Lib.hid hb
  have HSL := Lib.hid hS
  have HB := Lib.hid hB
  have H4 := Lib.hid hkf
  have H5 := Lib.hid hkl
  have H6 := Lib.hid hs0
  have H7 := Lib.hid hsl
  have HRS := Lib.hid rs
  have HR := Lib.hid hR
  have E1 := Lib.hid e1
  have E2 := Lib.hid e2
  clear hm hb hS hB hkf hkl hs0 hsl rs hR e1 e2
  have mg : (gm = W.heap.size) = False := eq_false (by omega)
  have mg2 : (W.heap.size = gm) = False := eq_false (by omega)
  rw [newE7]
  refine wp_seq_k (fun K7 hK7 => ?_)
  have HK7 := Lib.hid hK7
  clear hK7
  conv => arg 2; whnf
  go_wp2
  refine HK7.out _ _ ?_
  rw [newE8]
  refine wp_seq_k (fun K8 hK8 => ?_)
  have HK8 := Lib.hid hK8
  clear hK8
  conv => arg 2; whnf
  go_wp2
  refine HK8.out _ _ ?_
  rw [newE9]
  refine wp_seq_k (fun K9 hK9 => ?_)
  have HK9 := Lib.hid hK9
  clear hK9
  conv => arg 2; whnf
  go_wp2
  refine HK9.out _ _ ?_
  obtain ⟨V, hV⟩ : ∃ V_, V_ = (W.setCell ⟨gm, 2, none⟩ (.int .i64 ((nj : Int) + 1))).alloc (stp 0) := ⟨_, rfl⟩
  have gS : V.heap[W.heap.size]? = some (stp 0) := by rw [hV]; exact Hand.q3 _ _ _ (by simp [World.setCell])
  have gM : V.heap[gm]? = some (.cells #[.slice none 0 0, .slice (some as_) (nj + 1 + 1) cs, .int .i64 ((nj + 1 : Nat) : Int)] 70 (0, 0)) := by rw [hV, Hand.q4 _ _ _ (by simp only [World.size_setCell]; omega), Hand.q1, HM.out]; rfl
  have gF : F2 gm W.heap.size W V := by rw [hV]; exact ((F2.refl _ _ _).set _ _ _ (Or.inl rfl)).alloc _
  have vB : Below w.heap.size w V := F2.below gF HB.out hgm HB.out.size HB.out.size
  refine Hand.wp_cut (fun PP hPP => ?_)
  rw [newE10c]
  refine wp_seq_k (fun K10 hK10 => ?_)
  refine wp_seq_k (fun K18 hK18 => ?_)
  have HK10 := Lib.hid hK10
  have HK18 := Lib.hid hK18
  clear hK10 hK18
  conv => arg 2; whnf
  have hne : ((nj : Int) + 1 == 0) = false := by simp; omega
  have hne2 : (nj + 1 == 0) = false := by simp
  have PPH := Lib.hid hPP
  have HVV := Lib.hid hV
  clear hPP hV
  go_wp2
  refine HK18.out _ _ ?_
  refine wp_cond_false rfl ?_
  have hK11 : ∀ a w', newT11.wp Try.prog (bodyPost Try.prog Try.f13 (NewQ w (endK (atS (doS rAdd (atS (doS rSub 0 kf.1 (1, 1)).2 kf sf (doS rSub 0 kf.1 (1, 1)).1).2 kl.1 (1, 1)).2 kl sl (doS rAdd (atS (doS rSub 0 kf.1 (1, 1)).2 kf sf (doS rSub 0 kf.1 (1, 1)).1).2 kl.1 (1, 1)).1).2 ⟨(atS (doS rSub 0 kf.1 (1, 1)).2 kf sf (doS rSub 0 kf.1 (1, 1)).1).1 :: (Bk ++ [(atS (doS rAdd (atS (doS rSub 0 kf.1 (1, 1)).2 kf sf (doS rSub 0 kf.1 (1, 1)).1).2 kl.1 (1, 1)).2 kl sl (doS rAdd (atS (doS rSub 0 kf.1 (1, 1)).2 kf sf (doS rSub 0 kf.1 (1, 1)).1).2 kl.1 (1, 1)).1).1]), Ss, Bk.length⟩))) a w' → K10 a w' := fun a w' h => HK10.out a w' (by rw [PPH.out]; exact h)
  rw [← HVV.out]
  exact new_d0 w kf kl sf sl Bk Ss (Qx := PP) hK11 gM gS (HBK.out.f2 gF (Ne.symm n1) (by dsimp only; omega)) (HSL.out.f2 gF (Ne.symm n2) (by omega)) vB hgm has HB.out.size (by omega) n2 (by omega) (by omega) E1.out E2.out hnb2 HR.out H4.out H5.out H6.out H7.out HRS.out
end Go.Proofs.Ythlpaglldhgmfaa.PA
