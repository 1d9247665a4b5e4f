/- Chapter 6: New, walked in parts. -/
import Derived.Test.YthlpaglldhgmfaaSls6
namespace Go.Proofs.Ythlpaglldhgmfaa.PA
open Go Go.RowKit Go.Proofs.YthlpaglldhgmfaaW.PrintWords Go.Proofs.YthlpaglldhgmfaaW.PrintLast Go.Proofs.YthlpaglldhgmfaaW.PrintMore
set_option linter.unusedSimpArgs false
set_option linter.unusedVariables false
/-- what comes first -/
def fstC : Code → Code
  | .seq a _ => a
  | c => c
noncomputable def newT1 : Code := sndC (Try.f13.body.getD .skip)
noncomputable def newT2 : Code := sndC newT1
noncomputable def newT3 : Code := sndC newT2
noncomputable def newT4 : Code := sndC newT3
noncomputable def newT5 : Code := sndC newT4
noncomputable def newT6 : Code := sndC newT5
noncomputable def newT7 : Code := sndC newT6
noncomputable def newT8 : Code := sndC newT7
noncomputable def newT9 : Code := sndC newT8
noncomputable def newT10 : Code := sndC newT9
noncomputable def newT11 : Code := sndC newT10
noncomputable def newT12 : Code := sndC newT11
noncomputable def newT13 : Code := sndC newT12
theorem newE1 : newT1 = .seq (fstC newT1) newT2 := by kernel_rfl
theorem newE2 : newT2 = .seq (fstC newT2) newT3 := by kernel_rfl
theorem newE3 : newT3 = .seq (fstC newT3) newT4 := by kernel_rfl
theorem newE4 : newT4 = .seq (fstC newT4) newT5 := by kernel_rfl
theorem newE5 : newT5 = .seq (fstC newT5) newT6 := by kernel_rfl
theorem newE6 : newT6 = .seq (fstC newT6) newT7 := by kernel_rfl
theorem newE7 : newT7 = .seq (fstC newT7) newT8 := by kernel_rfl
theorem newE8 : newT8 = .seq (fstC newT8) newT9 := by kernel_rfl
theorem newE9 : newT9 = .seq (fstC newT9) newT10 := by kernel_rfl
theorem newE10 : newT10 = .seq (fstC newT10) newT11 := by kernel_rfl
theorem newE11 : newT11 = .seq (fstC newT11) newT12 := by kernel_rfl
theorem newE12 : newT12 = .seq (fstC newT12) newT13 := by kernel_rfl
theorem newE0 : Try.f13.body.getD .skip = .seq (fstC (Try.f13.body.getD .skip)) newT1 := by kernel_rfl
/-- what a map's maker gives: no map, or one that lies in blocks of its own -/
def NewR (B : Nat) (w' : World) (v : Value) : Option MapV → Prop
  | none => v = .pointer none
  | some m => ∃ p ak as_ ck cs, v = .pointer (some ⟨p, 0, none⟩) ∧ MapA w' p ak as_ ck cs m ∧ B ≤ p ∧ B ≤ ak.block ∧ B ≤ as_.block
def NewQ (w : World) (r : Option MapV × Int) (e : Ending) (w' : World) : Prop := ∃ v, e = .returned (.tuple #[v, .int .i64 r.2]) ∧ NewR w.heap.size w' v r.1 ∧ Below w.heap.size w w'
def endK (e : Int) (m : MapV) : Option MapV × Int := if e ≠ 0 then (none, e) else if (slopesS m.knots).2 ≠ 0 then (none, (slopesS m.knots).2) else (some m, 0)
set_option maxHeartbeats 4000000 in
set_option maxRecDepth 100000 in
theorem new_c (w : World) (m : MapV) (e : Int) {s0 s1 s2 s3 s4 s5 s6 s8 s9 s11 s12 s13 s14 s15 s16 s17 s18 s19 s20 s21 s22 s23 s24 s25 s26 s27 s28 s29 s30 s31 s32 s33 s34 s35 s36 s37 s38 s39 s40 s41 s42 s43 s44 s45 s46 s47 s48 s49 s50 s51 s52 s53 s54 s55 s56 s57 s58 s59 s60 s61 s62 s63 s64 s65 s66 s67 s68 s69 s70 s71 s72 s73 s74 s75 s76 s77 s78 s79 s80 s81 s82 s83 s84 s85 s86 s87 s88 s89 s90 s91 s92 s93 s94 s95 s96 s97 s98 s99 s100 s101 s102 s103 s104 s105 s106 s107 s108 s109 s110 s111 s112 s113 s114 s115 s116 s117 s118 s119 s120 s121 s122 s123 s124 s125 s126 s127 s128 s129 s130 s131 s132 s133 s134 s135 s136 s137 s138 s139 s140 s141 s142 s143 s144 s145 s146 s147 s148 s149 s150 s151 s152 s153 s154 s155 s156 s157 s158 s159 s160 s161 s162 s163 s164 s165 s166 s167 s168 s169 : Value} {gm gs : Nat} {ak as_ : Addr} {ck cs : Nat} {W : World} (hm : MapA W gm ak as_ ck cs m) (hs : W.heap[gs]? = some (stp e)) (hB : Below w.heap.size w W) (hgm : w.heap.size ≤ gm) (hak : w.heap.size ≤ ak.block) (has : w.heap.size ≤ as_.block) (hR : KnR m.knots) (h0 : 0 < m.knots.length) (h1 : m.knots.length ≤ 66) :
    newT11.wp Try.prog (bodyPost Try.prog Try.f13 (NewQ w (endK e m))) ⟨#[s0, s1, s2, s3, s4, s5, s6, .pointer (some ⟨gm, 0, none⟩), s8, s9, .pointer (some ⟨gs, 0, none⟩), s11, s12, s13, s14, s15, s16, s17, s18, s19, s20, s21, s22, s23, s24, s25, s26, s27, s28, s29, s30, s31, s32, s33, s34, s35, s36, s37, s38, s39, s40, s41, s42, s43, s44, s45, s46, s47, s48, s49, s50, s51, s52, s53, s54, s55, s56, s57, s58, s59, s60, s61, s62, s63, s64, s65, s66, s67, s68, s69, s70, s71, s72, s73, s74, s75, s76, s77, s78, s79, s80, s81, s82, s83, s84, s85, s86, s87, s88, s89, s90, s91, s92, s93, s94, s95, s96, s97, s98, s99, s100, s101, s102, s103, s104, s105, s106, s107, s108, s109, s110, s111, s112, s113, s114, s115, s116, s117, s118, s119, s120, s121, s122, s123, s124, s125, s126, s127, s128, s129, s130, s131, s132, s133, s134, s135, s136, s137, s138, s139, s140, s141, s142, s143, s144, s145, s146, s147, s148, s149, s150, s151, s152, s153, s154, s155, s156, s157, s158, s159, s160, s161, s162, s163, s164, s165, s166, s167, s168, s169], []⟩ W := by
  obtain ⟨c0, f0⟩ := Hand.hc1 hs
  obtain ⟨m0, fm0, m1, fm1, m2, fm2⟩ := Hand.hc3 hm.blk
  obtain ⟨n, hn⟩ : ∃ n, m.knots.length = n := ⟨_, rfl⟩
  rw [hn] at m0
  have SL := Lib.hid (fun (u : World) (h : Below w.heap.size w u) (hk : KnA u ak m.knots) => (by have := sls_any ak m.knots ck u hk hR h0 h1; rw [hn] at this; exact this : Calls Try.prog 38 #[.slice (some ak) n ck] u fun e w' => ∃ g c, e = .returned (.tuple #[.slice (some ⟨g, 0, none⟩) (slopesS m.knots).1.length c, .int .i64 (slopesS m.knots).2]) ∧ w'.ownsRow u.heap.size 31 2 (.slice (some ⟨g, 0, none⟩) (slopesS m.knots).1.length c) (slopesS m.knots).1.length (flatT (slopesS m.knots).1) ∧ Below u.heap.size u w'))
  obtain ⟨q, hq⟩ : ∃ q, (slopesS m.knots).2 = q := ⟨_, rfl⟩
  rw [hq] at SL
  have QE := Lib.hid (fun (h : e ≠ 0) => (by unfold endK; rw [if_pos h] : endK e m = (none, e)))
  have QS := Lib.hid (fun (h : e = 0) (h2 : q ≠ 0) => (by unfold endK; rw [if_neg (by simp [h]), hq, if_pos h2] : endK e m = (none, q)))
  have QM := Lib.hid (fun (h : e = 0) (h2 : q = 0) => (by unfold endK; rw [if_neg (by simp [h]), hq, if_neg (by simp [h2])] : endK e m = (some m, 0)))
  have HM := Lib.hid hm
  have HB := Lib.hid hB
  have HG := Lib.hid (And.intro hgm (And.intro hak has))
  clear hs hm hn hq hR h0 h1 hgm hak has
  by_cases he : e = 0
  · have k0 : (e != 0) = false := by simpa using he
    have k1 : (e == 0) = true := by simpa using he
    have k2 : (e ≠ 0) = False := by simpa using he
    rw [newE11]
    refine wp_seq_k (fun K11 hK11 => ?_)
    have HK11 := Lib.hid hK11
    clear hK11
    conv => arg 2; whnf
    go_wp2
    refine HK11.out _ _ ?_
    rw [newE12]
    refine wp_seq_k (fun K12 hK12 => ?_)
    have HK12 := Lib.hid hK12
    clear hK12
    conv => arg 2; whnf
    go_wp2_with fail
    with_reducible refine (SL.out _ HB.out HM.out.kn).mono ?_
    rintro e_ w1 ⟨gx, cx, rfl, hox, hb1⟩
    by_cases hq0 : q = 0
    · have j0 : (q != 0) = false := by simpa using hq0
      go_wp2
      refine HK12.out _ _ ?_
      conv => arg 2; whnf
      go_wp2
      go_ret2
      rw [QM.out he hq0]
      exact ⟨_, rfl, ⟨_, _, _, _, _, rfl, HM.out.below hb1, HG.out.1, HG.out.2.1, HG.out.2.2⟩, Hand.stepB hb1 HB.out (Nat.le_refl _)⟩
    · have j0 : (q != 0) = true := by simpa using hq0
      go_wp2
      go_ret2
      rw [QS.out he hq0]
      exact ⟨_, rfl, rfl, Hand.stepB hb1 HB.out (Nat.le_refl _)⟩
  · have k0 : (e != 0) = true := by simpa using he
    rw [newE11]
    refine wp_seq_k (fun K11 hK11 => ?_)
    have HK11 := Lib.hid hK11
    clear hK11
    conv => arg 2; whnf
    go_wp2_with fail
    go_region_held3 (fun w_ => w_.cell? ⟨gs, 0, none⟩ = some (.int .i64 e)) (first | exact c0 | go_keep) (first | fail)
    go_wp2
    go_ret2
    rw [QE.out he]
    exact ⟨_, rfl, rfl, hB.drew⟩
end Go.Proofs.Ythlpaglldhgmfaa.PA
