/- Chapter 6: New, walked in parts. -/
import Derived.Test.YthlpaglldhgmfaaNwF
namespace Go.Proofs.Ythlpaglldhgmfaa.PA
open Go Go.RowKit Go.Proofs.YthlpaglldhgmfaaW.PrintWords Go.Proofs.YthlpaglldhgmfaaW.PrintLast Go.Proofs.YthlpaglldhgmfaaW.PrintMore
set_option linter.unusedSimpArgs false
set_option linter.unusedVariables false
set_option maxHeartbeats 4000000 in
set_option maxRecDepth 100000 in
theorem new_d0 (w : World) (kf kl : Kn) (sf sl : Rt) (Bk : List Kn) (Ss : List Rt) {s0 s1 s2 s3 s4 s5 s6 s9 s12 s13 s14 s15 s16 s17 s18 s19 s20 s21 s22 s23 s24 s25 s26 s27 s28 s29 s30 s31 s32 s33 s34 s35 s36 s37 s38 s39 s40 s41 s42 s43 s44 s45 s46 s47 s48 s49 s50 s51 s52 s53 s54 s55 s56 s57 s58 s59 s60 s61 s62 s63 s64 s65 s66 s67 s68 s69 s70 s71 s72 s73 s74 s75 s76 s77 s78 s79 s80 s81 s82 s83 s84 s85 s86 s87 s88 s89 s90 s91 s92 s93 s94 s95 s96 s97 s98 s99 s100 s101 s102 s103 s104 s105 s106 s107 s108 s109 s110 s111 s112 s113 s114 s115 s116 s117 s118 s119 s120 s121 s122 s123 s124 s125 s126 s127 s128 s129 s130 s131 s132 s133 s134 s135 s136 s137 s138 s139 s140 s141 s142 s143 s144 s145 s146 s147 s148 s149 s150 s151 s152 s153 s154 s155 s156 s157 s158 s159 s160 s161 s162 s163 s164 s165 s166 s167 s168 s169 : Value} {gm gs gb : Nat} {as_ : Addr} {nj cb cs : Nat} {K : Act → World → Prop} {Qx : Exit → Act → World → Prop} {V : World} (hK : ∀ a w', newT11.wp Try.prog (bodyPost Try.prog Try.f13 (NewQ w (endK (atS (doS rAdd (atS (doS rSub 0 kf.1 (1, 1)).2 kf sf (doS rSub 0 kf.1 (1, 1)).1).2 kl.1 (1, 1)).2 kl sl (doS rAdd (atS (doS rSub 0 kf.1 (1, 1)).2 kf sf (doS rSub 0 kf.1 (1, 1)).1).2 kl.1 (1, 1)).1).2 ⟨(atS (doS rSub 0 kf.1 (1, 1)).2 kf sf (doS rSub 0 kf.1 (1, 1)).1).1 :: (Bk ++ [(atS (doS rAdd (atS (doS rSub 0 kf.1 (1, 1)).2 kf sf (doS rSub 0 kf.1 (1, 1)).1).2 kl.1 (1, 1)).2 kl sl (doS rAdd (atS (doS rSub 0 kf.1 (1, 1)).2 kf sf (doS rSub 0 kf.1 (1, 1)).1).2 kl.1 (1, 1)).1).1]), Ss, Bk.length⟩))) a w' → K a w') (hm : V.heap[gm]? = some (.cells #[.slice none 0 0, .slice (some as_) (nj + 1 + 1) cs, .int .i64 ((nj + 1 : Nat) : Int)] 70 (0, 0))) (hs : V.heap[gs]? = some (stp 0)) (hb : KnA V ⟨gb, 0, none⟩ Bk) (hS : RtA V as_ Ss) (hB : Below w.heap.size w V) (hgm : w.heap.size ≤ gm) (has : w.heap.size ≤ as_.block) (hgs : w.heap.size ≤ gs) (n1 : gm ≠ gs) (n2 : gm ≠ as_.block) (n3 : gs ≠ as_.block) (n4 : gs ≠ gb) (e1 : nj + 1 = Bk.length) (e2 : nj + 1 + 1 = Ss.length) (hnb2 : nj + 1 ≤ 64) (hR : KnR Bk) (hkf : ∃ q, Bk[0]'q = kf) (hkl : ∃ q, Bk[nj]'q = kl) (hs0 : ∃ q, Ss[0]'q = sf) (hsl : ∃ q, Ss[nj + 1]'q = sl) (rs : ∀ s ∈ Ss, R64 s) :
    newD0.wp Try.prog (Exit.then K Qx) ⟨#[s0, s1, s2, s3, s4, s5, s6, .pointer (some ⟨gm, 0, none⟩), .slice (some ⟨gb, 0, none⟩) (nj + 1) cb, s9, .pointer (some ⟨gs, 0, none⟩), .func (.func 39) #[] #[.pointer (some ⟨gs, 0, none⟩)], s12, s13, s14, s15, s16, s17, s18, s19, s20, s21, s22, s23, s24, s25, s26, s27, s28, s29, s30, s31, s32, s33, s34, s35, s36, s37, s38, s39, s40, s41, s42, s43, s44, s45, s46, s47, s48, s49, s50, s51, s52, s53, s54, s55, s56, s57, s58, s59, s60, s61, s62, s63, s64, s65, s66, s67, s68, s69, s70, s71, s72, s73, s74, s75, s76, s77, s78, s79, s80, s81, s82, s83, s84, s85, s86, s87, s88, s89, s90, s91, s92, s93, s94, s95, s96, s97, s98, s99, s100, s101, s102, s103, s104, s105, s106, s107, s108, s109, s110, s111, s112, s113, s114, s115, s116, s117, s118, s119, s120, s121, s122, s123, s124, s125, s126, s127, s128, s129, s130, s131, s132, s133, s134, s135, s136, s137, s138, s139, s140, s141, s142, s143, s144, s145, s146, s147, s148, s149, s150, s151, s152, s153, s154, s155, s156, s157, s158, s159, s160, s161, s162, s163, s164, s165, s166, s167, s168, s169], []⟩ V := by
  have rf : R64 kf.1 ∧ R64 kf.2 := by obtain ⟨q, e⟩ := hkf; rw [← e]; exact hR _ (List.getElem_mem q)
  have rl : R64 kl.1 ∧ R64 kl.2 := by obtain ⟨q, e⟩ := hkl; rw [← e]; exact hR _ (List.getElem_mem q)
  have gmz := (Hand.hz hm).1
  have gsz := (Hand.hz hs).1
  have gbz : gb < V.heap.size := by obtain ⟨q, e⟩ := hkf; have := World.block_lt_of_cell? V _ (hb 0 q).1; rw [add0] at this; exact this
  have gaz : as_.block < V.heap.size := by obtain ⟨q, e⟩ := hs0; have := World.block_lt_of_cell? V _ (hS 0 q).1; unfold Addr.add at this; split at this <;> exact this
  obtain ⟨ab, hab⟩ : ∃ ab : Addr, ⟨gb, 0, none⟩ = ab := ⟨_, rfl⟩
  have HC := Lib.hid (fun (w_ : World) (h : Below V.heap.size V w_) => (by have hk := hb.below h; rw [hab] at hk; obtain ⟨q0, e0⟩ := hkf; obtain ⟨q1, e1'⟩ := hkl; have k0 := hk 0 q0; rw [e0, Nat.zero_mul, show ab.add 0 = ab from rfl] at k0; have k1 := hk nj q1; rw [e1'] at k1; obtain ⟨a0, a1, a2, a3⟩ := k0; obtain ⟨b0, b1, b2, b3⟩ := k1; exact ⟨h, a0, a1, a2, a3, b0, b1, b2, b3⟩ : Below V.heap.size V w_ ∧ w_.cell? ab = some (.int .i64 kf.1.1) ∧ w_.cell? ⟨ab.block, ab.off + 1, none⟩ = some (.int .i64 kf.1.2) ∧ w_.cell? ⟨ab.block, ab.off + 2, none⟩ = some (.int .i64 kf.2.1) ∧ w_.cell? ⟨ab.block, ab.off + 3, none⟩ = some (.int .i64 kf.2.2) ∧ w_.cell? (ab.add (nj * 4)) = some (.int .i64 kl.1.1) ∧ w_.cell? ⟨(ab.add (nj * 4)).block, (ab.add (nj * 4)).off + 1, none⟩ = some (.int .i64 kl.1.2) ∧ w_.cell? ⟨(ab.add (nj * 4)).block, (ab.add (nj * 4)).off + 2, none⟩ = some (.int .i64 kl.2.1) ∧ w_.cell? ⟨(ab.add (nj * 4)).block, (ab.add (nj * 4)).off + 3, none⟩ = some (.int .i64 kl.2.2)))
  have HM := Lib.hid hm
  have HS := Lib.hid hs
  have HBK := Lib.hid hb
  have HSL := Lib.hid hS
  have HB := Lib.hid hB
  have HK := Lib.hid hK
  have HAB := Lib.hid hab
  have H4 := Lib.hid hkf
  have H5 := Lib.hid hkl
  have H6 := Lib.hid hs0
  have H7 := Lib.hid hsl
  have HRS := Lib.hid rs
  have HR := Lib.hid hR
  have E1 := Lib.hid e1
  have E2 := Lib.hid e2
  rw [hab]
  clear hm hs hb hS hB hK hab hkf hkl hs0 hsl rs hR e1 e2
  have w1 : IntKind.i64.wrap ((nj : Int) + 1 - 1) = (nj : Int) := by rw [IntKind.wrap_i64]; omega
  have w2 : IntKind.i64.wrap (nj : Int) = (nj : Int) := by rw [IntKind.wrap_i64]; omega
  have p5 : (0 : Int) ≤ (nj : Int) := by omega
  have p6 : ((nj : Int) < (nj : Int) + 1) = True := eq_true (by omega)
  have p7 : (nj < nj + 1) = True := eq_true (by omega)
  have p8 : ((0 : Int) < (nj : Int) + 1) = True := eq_true (by omega)
  have p9 : (0 < nj + 1) = True := eq_true (by omega)
  have BR : Below V.heap.size V V := Below.refl _ _
  rw [newDE0]
  refine wp_seq_k (fun KD0 hKD0 => ?_)
  have HKD0 := Lib.hid hKD0
  clear hKD0
  conv => arg 2; whnf
  go_wp2_with fail
  go_region_held3 (fun w_ => Below V.heap.size V w_ ∧ w_.cell? ab = some (.int .i64 kf.1.1) ∧ w_.cell? ⟨ab.block, ab.off + 1, none⟩ = some (.int .i64 kf.1.2) ∧ w_.cell? ⟨ab.block, ab.off + 2, none⟩ = some (.int .i64 kf.2.1) ∧ w_.cell? ⟨ab.block, ab.off + 3, none⟩ = some (.int .i64 kf.2.2) ∧ w_.cell? (ab.add (nj * 4)) = some (.int .i64 kl.1.1) ∧ w_.cell? ⟨(ab.add (nj * 4)).block, (ab.add (nj * 4)).off + 1, none⟩ = some (.int .i64 kl.1.2) ∧ w_.cell? ⟨(ab.add (nj * 4)).block, (ab.add (nj * 4)).off + 2, none⟩ = some (.int .i64 kl.2.1) ∧ w_.cell? ⟨(ab.add (nj * 4)).block, (ab.add (nj * 4)).off + 3, none⟩ = some (.int .i64 kl.2.2)) (first | (refine HC.out _ ?_; repeat (with_reducible first | assumption | apply Below.drew | refine Below.setCell ?_ (by dsimp only; first | omega | (simp only [World.size_alloc, World.size_drew, World.size_setCell]; omega)) _ | refine Below.alloc ?_ (by first | omega | (simp only [World.size_alloc, World.size_drew, World.size_setCell]; omega)) _))) (first | fail)
  · have hab := HAB.out
    subst hab
    obtain ⟨Vn, hVn⟩ : ∃ V_, V_ = ((V.alloc (.cells #[.int .i64 kf.1.1, .int .i64 kf.1.2, .int .i64 kf.2.1, .int .i64 kf.2.2] 35)).alloc (.cells #[.int .i64 kl.1.1, .int .i64 kl.1.2, .int .i64 kl.2.1, .int .i64 kl.2.2] 35)).drew := ⟨_, rfl⟩
    rw [← hVn]
    have vB : Below V.heap.size V Vn := by rw [hVn]; exact (((Below.refl _ _).alloc (Nat.le_refl _) _).alloc (by simp only [World.size_alloc]; omega) _).drew
    have vF : Vn.heap[V.heap.size]? = some (.cells #[.int .i64 kf.1.1, .int .i64 kf.1.2, .int .i64 kf.2.1, .int .i64 kf.2.2] 35 (0, 0)) := by rw [hVn]; simp (disch := (first | omega | (simp only [World.size_alloc, World.size_drew, World.size_setCell]; first | done | omega))) only [Hand.q5, Hand.q4, Hand.q3]
    have vL : Vn.heap[V.heap.size + 1]? = some (.cells #[.int .i64 kl.1.1, .int .i64 kl.1.2, .int .i64 kl.2.1, .int .i64 kl.2.2] 35 (0, 0)) := by rw [hVn]; simp (disch := (first | omega | (simp only [World.size_alloc, World.size_drew, World.size_setCell]; first | done | omega))) only [Hand.q5, Hand.q4, Hand.q3]
    refine HKD0.out _ _ ?_
    exact new_d1 w kf kl sf sl Bk Ss HK.out (Hand.kb vB HM.out) (Hand.kb vB HS.out) vL vF (HBK.out.below vB) (HSL.out.below vB) (HB.out.trans (Below.mono vB HB.out.size)) hgm has hgs n1 n2 n3 n4 (by omega) (by omega) E1.out E2.out (Nat.zero_lt_succ _) hnb2 HR.out rf H6.out rl H7.out HRS.out
  · have hab := HAB.out
    subst hab
    obtain ⟨Vn, hVn⟩ : ∃ V_, V_ = ((V.alloc (.cells #[.int .i64 kl.1.1, .int .i64 kl.1.2, .int .i64 kl.2.1, .int .i64 kl.2.2] 35)).alloc (.cells #[.int .i64 kf.1.1, .int .i64 kf.1.2, .int .i64 kf.2.1, .int .i64 kf.2.2] 35)).drew := ⟨_, rfl⟩
    rw [← hVn]
    have vB : Below V.heap.size V Vn := by rw [hVn]; exact (((Below.refl _ _).alloc (Nat.le_refl _) _).alloc (by simp only [World.size_alloc]; omega) _).drew
    have vF : Vn.heap[V.heap.size + 1]? = some (.cells #[.int .i64 kf.1.1, .int .i64 kf.1.2, .int .i64 kf.2.1, .int .i64 kf.2.2] 35 (0, 0)) := by rw [hVn]; simp (disch := (first | omega | (simp only [World.size_alloc, World.size_drew, World.size_setCell]; first | done | omega))) only [Hand.q5, Hand.q4, Hand.q3]
    have vL : Vn.heap[V.heap.size]? = some (.cells #[.int .i64 kl.1.1, .int .i64 kl.1.2, .int .i64 kl.2.1, .int .i64 kl.2.2] 35 (0, 0)) := by rw [hVn]; simp (disch := (first | omega | (simp only [World.size_alloc, World.size_drew, World.size_setCell]; first | done | omega))) only [Hand.q5, Hand.q4, Hand.q3]
    refine HKD0.out _ _ ?_
    exact new_d1 w kf kl sf sl Bk Ss HK.out (Hand.kb vB HM.out) (Hand.kb vB HS.out) vL vF (HBK.out.below vB) (HSL.out.below vB) (HB.out.trans (Below.mono vB HB.out.size)) hgm has hgs n1 n2 n3 n4 (by omega) (by omega) E1.out E2.out (Nat.zero_lt_succ _) hnb2 HR.out rf H6.out rl H7.out HRS.out
end Go.Proofs.Ythlpaglldhgmfaa.PA
