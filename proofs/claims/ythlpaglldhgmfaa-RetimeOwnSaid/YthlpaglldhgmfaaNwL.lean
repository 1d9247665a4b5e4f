/- Chapter 6: New, walked in parts. -/
import Derived.Test.YthlpaglldhgmfaaAt6
import Derived.Deep.RegionHeld3
namespace Go.Proofs.Ythlpaglldhgmfaa.PA
open Go Go.RowKit Go.Proofs.YthlpaglldhgmfaaW.PrintWords Go.Proofs.YthlpaglldhgmfaaW.PrintLast Go.Proofs.YthlpaglldhgmfaaW.PrintMore
set_option linter.unusedSimpArgs false
set_option linter.unusedVariables false
set_option maxHeartbeats 4000000 in
set_option maxRecDepth 100000 in
theorem new_line (w : World) (k0 : Kn) (s0 : Rt) (ks : List Kn) (ss : List Rt) {s1 s2 s3 s4 s6 s9 s10 s11 s12 s13 s14 s15 s16 s17 s18 s19 s20 s21 s22 s23 s24 s25 s26 s27 s28 s29 s30 s31 s32 s33 s34 s35 s36 s37 s38 s39 s40 s41 s42 s43 s44 s45 s46 s47 s48 s49 s50 s51 s52 s53 s54 s55 s56 s57 s58 s59 s60 s61 s62 s63 s64 s65 s66 s67 s68 s69 s70 s71 s72 s73 s74 s75 s76 s77 s78 s79 s80 s81 s82 s83 s84 s85 s86 s87 s88 s89 s90 s91 s92 s93 s94 s95 s96 s97 s98 s99 s100 s101 s102 s103 s104 s105 s106 s107 s108 s109 s110 s111 s112 s113 s114 s115 s116 s117 s118 s119 s120 s121 s122 s123 s124 s125 s126 s127 s128 s129 s130 s131 s132 s133 s134 s135 s136 s137 s138 s139 s140 s141 s142 s143 s144 s145 s146 s147 s148 s149 s150 s151 s152 s153 s154 s155 s156 s157 s158 s159 s160 s161 s162 s163 s164 s165 s166 s167 s168 s169 : Value} {gm ga : Nat} {ad as_ : Addr} {n cap na ca cs : Nat} {W : World} (hm : W.heap[gm]? = some (.cells #[.slice none 0 0, .slice (some as_) 1 cs, .int .i64 0] 70 (0, 0))) (hK : KnA W ad (k0 :: ks)) (hS : RtA W ⟨ga, 0, none⟩ (s0 :: ss)) (hT : RtA W as_ [s0]) (hB : Below w.heap.size w W) (hgm : w.heap.size ≤ gm) (has : w.heap.size ≤ as_.block) (n1 : gm ≠ ad.block) (n2 : gm ≠ ga) (n3 : gm ≠ as_.block) (h0 : 0 < n) (h1 : 0 < na) (r1 : R64 k0.1) (r2 : R64 k0.2) (r3 : R64 s0) :
    newT7.wp Try.prog (bodyPost Try.prog Try.f13 (NewQ w (endK (lineS k0 s0).2 ⟨(lineS k0 s0).1, [s0], 0⟩))) ⟨#[.slice (some ad) n cap, s1, s2, s3, s4, .slice (some ⟨ga, 0, none⟩) na ca, s6, .pointer (some ⟨gm, 0, none⟩), .slice none 0 0, s9, s10, s11, s12, s13, s14, s15, s16, s17, s18, s19, s20, s21, s22, s23, s24, s25, s26, s27, s28, s29, s30, s31, s32, s33, s34, s35, s36, s37, s38, s39, s40, s41, s42, s43, s44, s45, s46, s47, s48, s49, s50, s51, s52, s53, s54, s55, s56, s57, s58, s59, s60, s61, s62, s63, s64, s65, s66, s67, s68, s69, s70, s71, s72, s73, s74, s75, s76, s77, s78, s79, s80, s81, s82, s83, s84, s85, s86, s87, s88, s89, s90, s91, s92, s93, s94, s95, s96, s97, s98, s99, s100, s101, s102, s103, s104, s105, s106, s107, s108, s109, s110, s111, s112, s113, s114, s115, s116, s117, s118, s119, s120, s121, s122, s123, s124, s125, s126, s127, s128, s129, s130, s131, s132, s133, s134, s135, s136, s137, s138, s139, s140, s141, s142, s143, s144, s145, s146, s147, s148, s149, s150, s151, s152, s153, s154, s155, s156, s157, s158, s159, s160, s161, s162, s163, s164, s165, s166, s167, s168, s169], []⟩ W := by
  obtain ⟨⟨a1, a2⟩, a3, a4⟩ := k0
  obtain ⟨q1, q2⟩ := s0
  obtain ⟨⟨⟨⟨u1, u2⟩, u3, u4⟩, e1⟩, hX⟩ : ∃ X, atS 0 ((a1, a2), (a3, a4)) (q1, q2) (0, 1) = X := ⟨_, rfl⟩
  obtain ⟨⟨⟨⟨v1, v2⟩, v3, v4⟩, e2⟩, hY⟩ : ∃ X, atS e1 ((a1, a2), (a3, a4)) (q1, q2) (1, 1) = X := ⟨_, rfl⟩
  have hL : lineS ((a1, a2), (a3, a4)) (q1, q2) = ([((u1, u2), (u3, u4)), ((v1, v2), (v3, v4))], e2) := by unfold lineS; dsimp only; rw [hX]; dsimp only; rw [hY]
  rw [hL]
  have rX := atS_R 0 ((a1, a2), (a3, a4)) (q1, q2) (0, 1) (R64_w 0 (by decide) (by decide))
  rw [hX] at rX
  have rY := atS_R e1 ((a1, a2), (a3, a4)) (q1, q2) (1, 1) (R64_w 1 (by decide) (by decide))
  rw [hY] at rY
  have HR := Lib.hid (show KnR [((u1, u2), (u3, u4)), ((v1, v2), (v3, v4))] from by intro k hk; simp only [List.mem_cons, List.not_mem_nil, or_false] at hk; rcases hk with rfl | rfl; exact rX; exact rY)
  have MA := Lib.hid (fun (u : World) (h : u.heap[W.heap.size]? = some (stp 0)) => (by have := at_any W.heap.size ((a1, a2), (a3, a4)) (q1, q2) (0, 1) 0 u h r1 r2 r3 (R64_w 0 (by decide) (by decide)); rw [hX] at this; exact this : Calls Try.prog 39 #[.agg #[.int .i64 a1, .int .i64 a2, .int .i64 a3, .int .i64 a4], .agg #[.int .i64 q1, .int .i64 q2], .agg #[.int .i64 0, .int .i64 1], .pointer (some ⟨W.heap.size, 0, none⟩)] u fun e_ w' => e_ = .returned (.agg #[.int .i64 u1, .int .i64 u2, .int .i64 u3, .int .i64 u4]) ∧ w'.heap[W.heap.size]? = some (stp e1) ∧ Fx W.heap.size u w'))
  have MB := Lib.hid (fun (u : World) (h : u.heap[W.heap.size]? = some (stp e1)) => (by have := at_any W.heap.size ((a1, a2), (a3, a4)) (q1, q2) (1, 1) e1 u h r1 r2 r3 (R64_w 1 (by decide) (by decide)); rw [hY] at this; exact this : Calls Try.prog 39 #[.agg #[.int .i64 a1, .int .i64 a2, .int .i64 a3, .int .i64 a4], .agg #[.int .i64 q1, .int .i64 q2], .agg #[.int .i64 1, .int .i64 1], .pointer (some ⟨W.heap.size, 0, none⟩)] u fun e_ w' => e_ = .returned (.agg #[.int .i64 v1, .int .i64 v2, .int .i64 v3, .int .i64 v4]) ∧ w'.heap[W.heap.size]? = some (stp e2) ∧ Fx W.heap.size u w'))
  have M0 := Lib.hid (fun u => whole_any 0 u)
  have M1 := Lib.hid (fun u => whole_any 1 u)
  have gmz := (Hand.hz hm).1
  have HC := Lib.hid (fun (w_ : World) (h : F2 W.heap.size gm W w_) => (by obtain ⟨x0, x1, x2, x3⟩ := (hK.f2 h (by have := World.block_lt_of_cell? W _ hK.zero.1; omega) (Ne.symm n1)).zero; obtain ⟨y0, y1⟩ := (hS.f2 h (by have := World.block_lt_of_cell? W _ hS.zero.1; dsimp only at this ⊢; omega) (by dsimp only; exact Ne.symm n2)).zero; simp only [Nat.zero_add] at y1; exact ⟨h, x0, x1, x2, x3, y0, y1⟩ : F2 W.heap.size gm W w_ ∧ w_.cell? ad = some (.int .i64 a1) ∧ w_.cell? ⟨ad.block, ad.off + 1, none⟩ = some (.int .i64 a2) ∧ w_.cell? ⟨ad.block, ad.off + 2, none⟩ = some (.int .i64 a3) ∧ w_.cell? ⟨ad.block, ad.off + 3, none⟩ = some (.int .i64 a4) ∧ w_.cell? ⟨ga, 0, none⟩ = some (.int .i64 q1) ∧ w_.cell? ⟨ga, 1, none⟩ = some (.int .i64 q2)))
  have HT := Lib.hid (fun (w_ : World) (h : F2 W.heap.size gm W w_) => hT.f2 h (by have := World.block_lt_of_cell? W _ hT.zero.1; omega) (Ne.symm n3))
  have HB := Lib.hid hB
  have HG := Lib.hid (And.intro hgm has)
  have hz0 : 0 < W.heap.size := by omega
  have i1 : ((0 : Int) < (n : Int)) = True := eq_true (by omega)
  have i2 : ((0 : Int) < (na : Int)) = True := eq_true (by omega)
  have i3 : (0 < n) = True := eq_true h0
  have i4 : (0 < na) = True := eq_true h1
  have mg : (gm = W.heap.size) = False := eq_false (by omega)
  have mg2 : (W.heap.size = gm) = False := eq_false (by omega)
  obtain ⟨m0, fm0, m1, fm1, m2, fm2⟩ := Hand.hc3 hm
  have gBW := Lib.hid hm
  clear hX hY hL rX rY hK hS hT hB hm r1 r2 r3 hgm has n1 n2 n3
  rw [newE7]
  refine wp_seq_k (fun K7 hK7 => ?_)
  have HK7 := Lib.hid hK7
  clear hK7
  conv => arg 2; whnf
  go_wp2
  refine HK7.out _ _ ?_
  rw [newE8]
  refine wp_seq_k (fun K8 hK8 => ?_)
  have HK8 := Lib.hid hK8
  clear hK8
  conv => arg 2; whnf
  go_wp2
  refine HK8.out _ _ ?_
  rw [newE9]
  refine wp_seq_k (fun K9 hK9 => ?_)
  have HK9 := Lib.hid hK9
  clear hK9
  conv => arg 2; whnf
  go_wp2
  refine HK9.out _ _ ?_
  obtain ⟨V, hV⟩ : ∃ V_, V_ = (W.setCell ⟨gm, 2, none⟩ (.int .i64 0)).alloc (stp 0) := ⟨_, rfl⟩
  try rw [← hV]
  have gS : V.heap[W.heap.size]? = some (stp 0) := by rw [hV]; exact Hand.q3 _ _ _ (by simp [World.setCell])
  have gM : V.heap[gm]? = some (.cells #[.slice none 0 0, .slice (some as_) 1 cs, .int .i64 0] 70 (0, 0)) := by rw [hV, Hand.q4 _ _ _ (by simp only [World.size_setCell]; omega), Hand.q1, gBW.out]; rfl
  have gF : F2 W.heap.size gm W V := by rw [hV]; exact ((F2.refl _ _ _).set _ _ _ (Or.inr (Or.inl rfl))).alloc _
  have gz : W.heap.size < V.heap.size := (Hand.hz gS).1
  obtain ⟨s0_, fs0_⟩ := Hand.hc1 gS
  have BV := gF
  clear hV
  rw [newE10]
  refine wp_seq_k (fun K10 hK10 => ?_)
  have HK10 := Lib.hid hK10
  clear hK10
  conv => arg 2; whnf
  have HEN := ent_at
  go_wp2_with fail
  go_region_held3 (fun w_ => F2 W.heap.size gm W w_ ∧ w_.cell? ad = some (.int .i64 a1) ∧ w_.cell? ⟨ad.block, ad.off + 1, none⟩ = some (.int .i64 a2) ∧ w_.cell? ⟨ad.block, ad.off + 2, none⟩ = some (.int .i64 a3) ∧ w_.cell? ⟨ad.block, ad.off + 3, none⟩ = some (.int .i64 a4) ∧ w_.cell? ⟨ga, 0, none⟩ = some (.int .i64 q1) ∧ w_.cell? ⟨ga, 1, none⟩ = some (.int .i64 q2)) (first | (refine HC.out _ ?_; repeat (with_reducible first | assumption | apply F2.drew | apply F2.alloc | refine F2.set ?_ _ _ _ (by first | exact Or.inl rfl | exact Or.inr (Or.inl rfl) | (refine Or.inr (Or.inr ?_); first | omega | (simp only [World.size_alloc, World.size_drew, World.size_setCell]; omega)))))) (first | (go_at_call 41; ((with_reducible refine (M0.out _).mono ?_); rintro e w4 ⟨rfl, hb_w4⟩; have BB : F2 W.heap.size gm W w4 := F2.step (by repeat (with_reducible first | assumption | apply F2.drew | apply F2.alloc | refine F2.set ?_ _ _ _ (by first | exact Or.inl rfl | exact Or.inr (Or.inl rfl) | (refine Or.inr (Or.inr ?_); first | omega | (simp only [World.size_alloc, World.size_drew, World.size_setCell]; omega))))) (Fx.of_below hb_w4); have zB_w4 := BB.size; have gS_w4 := Hand.kb hb_w4 (by first | exact gS | exact gS_w5 | exact gS_w4); have gM_w4 := Hand.kb hb_w4 (by first | exact gM_w5 | exact gM_w4 | exact gM))) | (go_at_fn 39; ((with_reducible refine (MA.out _ (by first | assumption | exact gS_w6 | exact gS_w4)).mono ?_); rintro e w5 ⟨rfl, gS_w5, hF_w5⟩; have BB : F2 W.heap.size gm W w5 := F2.stepl (by repeat (with_reducible first | assumption | apply F2.drew | apply F2.alloc | refine F2.set ?_ _ _ _ (by first | exact Or.inl rfl | exact Or.inr (Or.inl rfl) | (refine Or.inr (Or.inr ?_); first | omega | (simp only [World.size_alloc, World.size_drew, World.size_setCell]; omega))))) hF_w5; have zB_w5 := BB.size; have gM_w5 := hF_w5.kb (by first | exact gM_w6 | exact gM_w5 | exact gM_w4 | exact gM) (by omega); obtain ⟨mm0, fmm0, mm1, fmm1, mm2, fmm2⟩ := Hand.hc3 gM_w5; have gmz_w5 := (Hand.hz gM_w5).1; have mgx_w5 : (gm = w5.heap.size) = False := eq_false (by omega))) | (go_at_call 41; ((with_reducible refine (M1.out _).mono ?_); rintro e w6 ⟨rfl, hb_w6⟩; have BB : F2 W.heap.size gm W w6 := F2.step (by repeat (with_reducible first | assumption | apply F2.drew | apply F2.alloc | refine F2.set ?_ _ _ _ (by first | exact Or.inl rfl | exact Or.inr (Or.inl rfl) | (refine Or.inr (Or.inr ?_); first | omega | (simp only [World.size_alloc, World.size_drew, World.size_setCell]; omega))))) (Fx.of_below hb_w6); have zB_w6 := BB.size; have gS_w6 := Hand.kb hb_w6 (by first | exact gS | exact gS_w5 | exact gS_w4); have gM_w6 := Hand.kb hb_w6 (by first | exact gM_w5 | exact gM_w4 | exact gM))) | (go_at_fn 39; ((with_reducible refine (MB.out _ (by first | assumption | exact gS_w6 | exact gS_w4)).mono ?_); rintro e w7 ⟨rfl, gS_w7, hF_w7⟩; have BB : F2 W.heap.size gm W w7 := F2.stepl (by repeat (with_reducible first | assumption | apply F2.drew | apply F2.alloc | refine F2.set ?_ _ _ _ (by first | exact Or.inl rfl | exact Or.inr (Or.inl rfl) | (refine Or.inr (Or.inr ?_); first | omega | (simp only [World.size_alloc, World.size_drew, World.size_setCell]; omega))))) hF_w7; have zB_w7 := BB.size; have gM_w7 := hF_w7.kb (by first | exact gM_w6 | exact gM_w5 | exact gM_w4 | exact gM) (by omega); obtain ⟨mm0, fmm0, mm1, fmm1, mm2, fmm2⟩ := Hand.hc3 gM_w7; have gmz_w7 := (Hand.hz gM_w7).1; have mgx_w7 : (gm = w7.heap.size) = False := eq_false (by omega))))
  refine HK10.out _ _ ?_
  refine new_c w ⟨[((u1, u2), (u3, u4)), ((v1, v2), (v3, v4))], [(q1, q2)], 0⟩ e2 (ak := ⟨w7.heap.size, 0, none⟩) (as_ := as_) (ck := 2) (cs := cs) ⟨?_, ?_, ?_⟩ ?_ ?_ HG.out.1 ?_ HG.out.2 HR.out (Nat.zero_lt_succ _) (by show 2 ≤ 66; decide)
  · rw [Hand.q4 _ _ _ (by simp only [World.size_setCell]; omega), Hand.q1, gM_w7]; rfl
  · exact own_kna (base := 0) (e := 35) (n := 2) (cap := 2) ⟨rfl, .inr ⟨_, _, _, rfl, Nat.zero_le _, Hand.q3 _ _ _ (by simp only [World.size_setCell]), by decide, by decide, rfl, rfl⟩⟩
  · exact HT.out _ ((BB.set _ _ _ (Or.inr (Or.inl rfl))).alloc _)
  · rw [Hand.q4 _ _ _ (by have := (Hand.hz gS_w7).1; simp only [World.size_setCell]; omega), Hand.q2 _ _ _ _ _ (by omega), gS_w7]
  · exact F2.below ((BB.set _ _ _ (Or.inr (Or.inl rfl))).alloc _) HB.out HB.out.size HG.out.1 HB.out.size
  · have := HB.out.size; show _ ≤ w7.heap.size; omega
end Go.Proofs.Ythlpaglldhgmfaa.PA
