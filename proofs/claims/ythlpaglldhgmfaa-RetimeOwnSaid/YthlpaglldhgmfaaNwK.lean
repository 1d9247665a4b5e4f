/- Chapter 6: New, walked in parts. -/
import Derived.Test.YthlpaglldhgmfaaNwJ
namespace Go.Proofs.Ythlpaglldhgmfaa.PA
open Go Go.RowKit Go.Proofs.YthlpaglldhgmfaaW.PrintWords Go.Proofs.YthlpaglldhgmfaaW.PrintLast Go.Proofs.YthlpaglldhgmfaaW.PrintMore
set_option linter.unusedSimpArgs false
set_option linter.unusedVariables false
theorem newK_chk {l : List Kn} (h : chkK l ≠ 0) : newK l = (none, chkK l) := by unfold newK; rw [if_pos h]
theorem newK_slp {l : List Kn} (h : chkK l = 0) (h2 : (slopesS l).2 ≠ 0) : newK l = (none, (slopesS l).2) := by unfold newK; rw [if_neg (by simp [h]), if_pos h2]
theorem newK_ok {l ks : List Kn} {k0 : Kn} {p0 : Rt} {ss : List Rt} (h : chkK l = 0) (h2 : (slopesS l).2 = 0) (h3 : (slopesS l).1 = p0 :: ss) (h4 : l = k0 :: ks) : newK l = postK p0 ss k0 ks := by
  subst h4
  unfold newK
  rw [if_neg (by simp [h]), if_neg (by simp [h2])]
  simp only [h3]
  rfl
theorem chkK_0 {l : List Kn} (h : chkK l = 0) : l.length ≠ 0 ∧ l.length ≤ 64 ∧ (l.all fun k => rRight k.1 && rRight k.2) = true ∧ risesB (·.1) l = true ∧ risesB (·.2) l = true := by
  unfold chkK at h
  split at h
  · cases h
  · split at h
    · cases h
    · split at h
      · cases h
      · split at h
        · cases h
        · split at h
          · cases h
          · rename_i a b c d e
            exact ⟨a, by omega, by simpa using c, by simpa using d, by simpa using e⟩
set_option maxHeartbeats 4000000 in
set_option maxRecDepth 100000 in
theorem new_t1 (w : World) (l : List Kn) (A : Option Addr) (cap : Nat) {s1 s2 s3 s4 s5 s6 s7 s8 s9 s10 s11 s12 s13 s14 s15 s16 s17 s18 s19 s20 s21 s22 s23 s24 s25 s26 s27 s28 s29 s30 s31 s32 s33 s34 s35 s36 s37 s38 s39 s40 s41 s42 s43 s44 s45 s46 s47 s48 s49 s50 s51 s52 s53 s54 s55 s56 s57 s58 s59 s60 s61 s62 s63 s64 s65 s66 s67 s68 s69 s70 s71 s72 s73 s74 s75 s76 s77 s78 s79 s80 s81 s82 s83 s84 s85 s86 s87 s88 s89 s90 s91 s92 s93 s94 s95 s96 s97 s98 s99 s100 s101 s102 s103 s104 s105 s106 s107 s108 s109 s110 s111 s112 s113 s114 s115 s116 s117 s118 s119 s120 s121 s122 s123 s124 s125 s126 s127 s128 s129 s130 s131 s132 s133 s134 s135 s136 s137 s138 s139 s140 s141 s142 s143 s144 s145 s146 s147 s148 s149 s150 s151 s152 s153 s154 s155 s156 s157 s158 s159 s160 s161 s162 s163 s164 s165 s166 s167 s168 s169 : Value} (hK : KnS w A l) (hR : KnR l) :
    newT1.wp Try.prog (bodyPost Try.prog Try.f13 (NewQ w (newK l))) ⟨#[.slice A l.length cap, s1, s2, s3, s4, s5, s6, s7, s8, s9, s10, s11, s12, s13, s14, s15, s16, s17, s18, s19, s20, s21, s22, s23, s24, s25, s26, s27, s28, s29, s30, s31, s32, s33, s34, s35, s36, s37, s38, s39, s40, s41, s42, s43, s44, s45, s46, s47, s48, s49, s50, s51, s52, s53, s54, s55, s56, s57, s58, s59, s60, s61, s62, s63, s64, s65, s66, s67, s68, s69, s70, s71, s72, s73, s74, s75, s76, s77, s78, s79, s80, s81, s82, s83, s84, s85, s86, s87, s88, s89, s90, s91, s92, s93, s94, s95, s96, s97, s98, s99, s100, s101, s102, s103, s104, s105, s106, s107, s108, s109, s110, s111, s112, s113, s114, s115, s116, s117, s118, s119, s120, s121, s122, s123, s124, s125, s126, s127, s128, s129, s130, s131, s132, s133, s134, s135, s136, s137, s138, s139, s140, s141, s142, s143, s144, s145, s146, s147, s148, s149, s150, s151, s152, s153, s154, s155, s156, s157, s158, s159, s160, s161, s162, s163, s164, s165, s166, s167, s168, s169], []⟩ w := by
  have M1 := Lib.hid (chk_any A l cap w hK hR)
  have HK := Lib.hid hK
  have HR := Lib.hid hR
  clear hK hR
  obtain ⟨q, hq⟩ : ∃ q, chkK l = q := ⟨_, rfl⟩
  rw [hq] at M1
  have HQ := Lib.hid hq
  clear hq
  obtain ⟨n, hn⟩ : ∃ n, l.length = n := ⟨_, rfl⟩
  rw [hn] at M1
  rw [hn]
  have HN := Lib.hid hn
  clear hn
  rw [newE1]
  refine wp_seq_k (fun K1 hK1 => ?_)
  have HK1 := Lib.hid hK1
  clear hK1
  conv => arg 2; whnf
  go_wp2_with fail
  with_reducible refine (M1.out).mono ?_
  rintro e_ w1 ⟨rfl, hb1⟩
  by_cases hq0 : q = 0
  · have j0 : (q != 0) = false := by simpa using hq0
    go_wp2
    refine HK1.out _ _ ?_
    obtain ⟨l0, l1, lr, _, _⟩ := chkK_0 (HQ.out.trans hq0)
    obtain ⟨ad, rfl, hK0⟩ : ∃ ad, A = some ad ∧ KnA w ad l := by rcases HK.out with h | h; exact absurd (by rw [h]; rfl) l0; exact h
    have SL := Lib.hid (sls_any ad l cap w1 (hK0.below hb1) HR.out (by omega) (by omega))
    obtain ⟨⟨sl, es⟩, hsl⟩ : ∃ x, slopesS l = x := ⟨_, rfl⟩
    have hlen := slopesS_len l (by omega)
    have hsr := slopesS_R l
    rw [hsl] at SL hlen hsr
    dsimp only at SL hlen hsr
    rw [HN.out] at SL
    obtain ⟨ns, hns⟩ : ∃ n, sl.length = n := ⟨_, rfl⟩
    rw [hns] at SL
    have HB1 := Lib.hid hb1
    have HS := Lib.hid hsl
    have HL := Lib.hid hlen
    have HSR := Lib.hid hsr
    have HNS := Lib.hid hns
    have HK0 := Lib.hid hK0
    clear hsl hlen hsr hns hK0 hb1
    rw [newE2]
    refine wp_seq_k (fun K2 hK2 => ?_)
    have HK2 := Lib.hid hK2
    clear hK2
    conv => arg 2; whnf
    go_wp2_with fail
    with_reducible refine (SL.out).mono ?_
    rintro e_ w2 ⟨g, c, rfl, how, hb2⟩
    have HOW := Lib.hid how
    have HB2 := Lib.hid hb2
    clear how hb2
    go_wp2
    refine HK2.out _ _ ?_
    rw [newE3]
    refine wp_seq_k (fun K3 hK3 => ?_)
    have HK3 := Lib.hid hK3
    clear hK3
    conv => arg 2; whnf
    by_cases he : es = 0
    · have j1 : (es != 0) = false := by simpa using he
      have j2 : (es == 0) = true := by simpa using he
      go_wp2
      refine HK3.out _ _ ?_
      have hne : l ≠ [] := by intro h; exact l0 (by rw [h]; rfl)
      obtain ⟨k0, ks, rfl⟩ := List.exists_cons_of_ne_nil hne
      have hsn : sl ≠ [] := by intro h; have := HL.out; rw [h] at this; simp at this; omega
      obtain ⟨p0, ss, rfl⟩ := List.exists_cons_of_ne_nil hsn
      have hq1 := HQ.out.trans hq0
      have hsl := HS.out
      rw [newK_ok hq1 (by rw [hsl]; exact he) (by rw [hsl]) rfl]
      have hl := HL.out
      simp only [List.length_cons] at hl l1
      have hn1 := HN.out
      have hn2 := HNS.out
      simp only [List.length_cons] at hn1 hn2
      exact new_t4 w k0 ks p0 ss ((HK0.out.below HB1.out).below HB2.out) (own_base HOW.out HB1.out.size) (Hand.stepB HB2.out HB1.out (Nat.le_refl _)) (by omega) (by omega) (by omega) (by omega) HR.out HSR.out
    · have j1 : (es != 0) = true := by simpa using he
      go_wp2
      go_ret2
      have hsl := HS.out
      rw [newK_slp (HQ.out.trans hq0) (by rw [hsl]; exact he), hsl]
      exact ⟨_, rfl, rfl, Hand.stepB HB2.out HB1.out (Nat.le_refl _)⟩
  · have j0 : (q != 0) = true := by simpa using hq0
    go_wp2
    go_ret2
    rw [newK_chk (by rw [HQ.out]; exact hq0), HQ.out]
    exact ⟨_, rfl, rfl, hb1⟩
set_option maxHeartbeats 4000000 in
set_option maxRecDepth 100000 in
theorem newm_any (w : World) (l : List Kn) (A : Option Addr) (cap : Nat) (hK : KnS w A l) (hR : KnR l) :
    Calls Try.prog 13 #[.slice A l.length cap] w (NewQ w (newK l)) := by
  have HK := Lib.hid hK
  have HR := Lib.hid hR
  clear hK hR
  go_enter Try.func13, Try.ntmps13
  refine wp_seq_k (fun K0 hK0 => ?_)
  have HK0 := Lib.hid hK0
  clear hK0
  go_wp2
  refine HK0.out _ _ ?_
  exact new_t1 w l A cap HK.out HR.out
end Go.Proofs.Ythlpaglldhgmfaa.PA
