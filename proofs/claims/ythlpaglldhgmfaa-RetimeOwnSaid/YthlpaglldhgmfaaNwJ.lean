/- Chapter 6: New, walked in parts. -/
import Derived.Test.YthlpaglldhgmfaaNwI
import Derived.Test.YthlpaglldhgmfaaNwL
import Derived.StillTailTactics
import Derived.Lib.AppendZeros
import Derived.Deep.RegionLaw
namespace Go.Proofs.Ythlpaglldhgmfaa.PA
open Go Go.RowKit Go.Proofs.YthlpaglldhgmfaaW.PrintWords Go.Proofs.YthlpaglldhgmfaaW.PrintLast Go.Proofs.YthlpaglldhgmfaaW.PrintMore
set_option linter.unusedSimpArgs false
set_option linter.unusedVariables false
attribute [local go_sem high] eqA31
/-- what New makes of knots that are right -/
def postK (s0 : Rt) (ss : List Rt) (k0 : Kn) (ks : List Kn) : Option MapV × Int := endK (ownK s0 (bendF s0 ss ks) k0).2 ⟨(ownK s0 (bendF s0 ss ks) k0).1, s0 :: (bendF s0 ss ks).map (·.2), (bendF s0 ss ks).length⟩
theorem ownK_bent (p0 : Rt) (b : Kn × Rt) (B' : List (Kn × Rt)) (k0 kl : Kn) (sl : Rt) (S : List Rt) (n : Nat) (h : (b :: B').getLast (by simp) = (kl, sl)) (hn : n = ((b :: B').map (·.1)).length) :
    endK (ownK p0 (b :: B') k0).2 ⟨(ownK p0 (b :: B') k0).1, S, n⟩ = (endK (atS (doS rAdd (atS (doS rSub 0 b.1.1 (1, 1)).2 b.1 p0 (doS rSub 0 b.1.1 (1, 1)).1).2 kl.1 (1, 1)).2 kl sl (doS rAdd (atS (doS rSub 0 b.1.1 (1, 1)).2 b.1 p0 (doS rSub 0 b.1.1 (1, 1)).1).2 kl.1 (1, 1)).1).2 ⟨(atS (doS rSub 0 b.1.1 (1, 1)).2 b.1 p0 (doS rSub 0 b.1.1 (1, 1)).1).1 :: (((b :: B').map (·.1)) ++ [(atS (doS rAdd (atS (doS rSub 0 b.1.1 (1, 1)).2 b.1 p0 (doS rSub 0 b.1.1 (1, 1)).1).2 kl.1 (1, 1)).2 kl sl (doS rAdd (atS (doS rSub 0 b.1.1 (1, 1)).2 b.1 p0 (doS rSub 0 b.1.1 (1, 1)).1).2 kl.1 (1, 1)).1).1]), S, ((b :: B').map (·.1)).length⟩) := by
  have e : ownK p0 (b :: B') k0 = bentS p0 (b :: B') b (kl, sl) := by rw [← h]; rfl
  rw [e, hn]
  rfl
theorem step_append_run {P : Program} (w : World) {ops : Array Oper} {o : Oper} {a : Act} {K : Act → World → Prop} {Q : Exit → Act → World → Prop} {E : Prop} (hgd : o.guard = none) (s x : Operand) (t tn : TypeId)
    (ho : o.op = .call { callee := .builtin .append, args := #[s, x], argTypes := #[t, tn] }) (vs vx : Value) (hs : a.eval s = vs) (hx : a.eval x = vx)
    (v' : Value) (w' : World) (hr : (Builtin.append_ #[t, tn] o.type #[vs, vx]).run P w = .ok v' w') (h : K (a.put o.dst v') w') :
    if Region.wanted o (yielded ops a.tmps) = true then Oper.wp P o a w K Q else E := by
  have hw : Region.wanted o (yielded ops a.tmps) = true := by simp [Region.wanted, hgd]
  rw [if_pos hw]
  exact Lib.wp_append_run w s x t tn ho vs vx hs hx v' w' hr h
set_option maxHeartbeats 4000000 in
set_option maxRecDepth 100000 in
theorem new_exit (w W : World) (k0 : Kn) (ks : List Kn) (p0 : Rt) (ss : List Rt) (B : List (Kn × Rt)) {s1 s2 s3 s4 s6 s9 s10 s11 s12 s13 s14 s15 s16 s17 s18 s19 s20 s21 s22 s23 s24 s25 s26 s27 s28 s29 s30 s31 s32 s33 s34 s35 s36 s37 s38 s39 s40 s41 s42 s43 s44 s45 s46 s47 s48 s49 s50 s51 s52 s53 s54 s55 s56 s57 s58 s59 s60 s61 s62 s63 s64 s65 s66 s67 s68 s69 s70 s71 s72 s73 s74 s75 s76 s77 s78 s79 s80 s81 s82 s83 s84 s85 s86 s87 s88 s89 s90 s91 s92 s93 s94 s95 s96 s97 s98 s99 s100 s101 s102 s103 s104 s105 s106 s107 s108 s109 s110 s111 s112 s113 s114 s115 s116 s117 s118 s119 s120 s121 s122 s123 s124 s125 s126 s127 s128 s129 s130 s131 s132 s133 s134 s135 s136 s137 s138 s139 s140 s141 s142 s143 s144 s145 s146 s147 s148 s149 s150 s151 s152 s153 s154 s155 s156 s157 s158 s159 s160 s161 s162 s163 s164 s165 s166 s167 s168 s169 vb vs : Value} {gm : Nat} {ad : Addr} {n cap ga na ca : Nat} {wr : World} (hB0 : bendF p0 ss ks = B) (hA : BendsAt W gm ga p0 B vb vs wr) (hK : KnA W ad (k0 :: ks)) (hS : RtA W ⟨ga, 0, none⟩ (p0 :: ss)) (hB : Below w.heap.size w W) (hgm : w.heap.size ≤ gm) (hgmz : gm < W.heap.size) (hga : w.heap.size ≤ ga) (n1 : gm ≠ ad.block) (n2 : gm ≠ ga) (h0 : 0 < n) (h1 : 0 < na) (hl : ss.length ≤ 64) (hR : KnR (k0 :: ks)) (hRs : ∀ s ∈ p0 :: ss, R64 s) :
    newT7.wp Try.prog (bodyPost Try.prog Try.f13 (NewQ w (postK p0 ss k0 ks))) ⟨#[.slice (some ad) n cap, s1, s2, s3, s4, .slice (some ⟨ga, 0, none⟩) na ca, s6, .pointer (some ⟨gm, 0, none⟩), vb, s9, s10, s11, s12, s13, s14, s15, s16, s17, s18, s19, s20, s21, s22, s23, s24, s25, s26, s27, s28, s29, s30, s31, s32, s33, s34, s35, s36, s37, s38, s39, s40, s41, s42, s43, s44, s45, s46, s47, s48, s49, s50, s51, s52, s53, s54, s55, s56, s57, s58, s59, s60, s61, s62, s63, s64, s65, s66, s67, s68, s69, s70, s71, s72, s73, s74, s75, s76, s77, s78, s79, s80, s81, s82, s83, s84, s85, s86, s87, s88, s89, s90, s91, s92, s93, s94, s95, s96, s97, s98, s99, s100, s101, s102, s103, s104, s105, s106, s107, s108, s109, s110, s111, s112, s113, s114, s115, s116, s117, s118, s119, s120, s121, s122, s123, s124, s125, s126, s127, s128, s129, s130, s131, s132, s133, s134, s135, s136, s137, s138, s139, s140, s141, s142, s143, s144, s145, s146, s147, s148, s149, s150, s151, s152, s153, s154, s155, s156, s157, s158, s159, s160, s161, s162, s163, s164, s165, s166, s167, s168, s169], []⟩ wr := by
  have hadz : ad.block < W.heap.size := World.block_lt_of_cell? W _ hK.zero.1
  have hgaz : ga < W.heap.size := World.block_lt_of_cell? W _ hS.zero.1
  have hF := F2.of_fx gm hA.fx
  have k1 := hK.f2 hF (Ne.symm n1) (Ne.symm n1)
  have s1_ := hS.f2 hF (Ne.symm n2) (Ne.symm n2)
  have hBr : Below w.heap.size w wr := hA.fx.below hB hgm hB.size
  have hmem := bendF_mem ss p0 ks
  have hlen := bendF_len ss p0 ks
  rw [hB0] at hmem hlen
  have hp0 := hRs p0 List.mem_cons_self
  have hk0 := hR k0 List.mem_cons_self
  unfold postK
  rw [hB0]
  cases B with
  | nil =>
    have e1 := hA.nil rfl
    subst e1
    obtain ⟨gs_, c_, e2⟩ := hA.form
    have hmap := hA.map
    have hT : RtA wr ⟨gs_, 0, none⟩ [p0] ∧ w.heap.size ≤ gs_ ∧ gm ≠ gs_ := by
      rcases hA.sl with ⟨_, b⟩ | ⟨g, c, a, b⟩
      · rw [b] at e2; cases e2; exact ⟨fun j hj => (by have hj0 : j = 0 := (by simpa using hj); subst hj0; exact s1_ 0 (by simp)), hga, n2⟩
      · rw [a] at e2; cases e2; have hlt : W.heap.size ≤ gs_ ∧ gs_ < wr.heap.size := b.lt _ (by rw [a]; rfl); rw [a] at b; exact ⟨own_rta b, by have := hB.size; omega, by omega⟩
    subst e2
    exact new_line w k0 p0 ks ss hmap k1 s1_ hT.1 hBr hgm hT.2.1 n1 n2 hT.2.2 h0 h1 hk0.1 hk0.2 hp0
  | cons b B' =>
    obtain ⟨gb, cb, e1⟩ := hA.some_ (by simp)
    obtain ⟨gs_, c_, e2⟩ := hA.form
    have hmap := hA.map
    have hown := hA.own
    have hsl := hA.sl
    subst e1
    subst e2
    have hb := hown.lt gb rfl
    have hT : wr.ownsRow W.heap.size 31 2 (.slice (some ⟨gs_, 0, none⟩) ((b :: B').length + 1) c_) ((b :: B').length + 1) (flatT (p0 :: (b :: B').map (·.2))) := by
      rcases hsl with ⟨x, _⟩ | ⟨g, c, a, b⟩
      · cases x
      · exact b
    have hs := hT.lt gs_ rfl
    obtain ⟨⟨kl, sl⟩, hlast⟩ : ∃ z, (b :: B').getLast (by simp) = z := ⟨_, rfl⟩
    have hl1 := List.getLast_eq_getElem (l := b :: B') (by simp)
    rw [hlast] at hl1
    rw [ownK_bent p0 b B' k0 kl sl (p0 :: (b :: B').map (·.2)) (b :: B').length hlast (by simp)]
    have hjl : (b :: B').length - 1 = B'.length := by simp
    simp only [hjl] at hl1
    obtain ⟨nj, hnj⟩ : ∃ n, B'.length = n := ⟨_, rfl⟩
    have e0 : (b :: B').length = nj + 1 := by simp [hnj]
    have hBR : KnR ((b :: B').map (·.1)) := by intro k hk; obtain ⟨x, hx, rfl⟩ := List.mem_map.1 hk; exact hR _ (List.mem_cons_of_mem _ (hmem x hx).1)
    have hSR : ∀ s ∈ p0 :: (b :: B').map (·.2), R64 s := by intro s hs'; rcases List.mem_cons.1 hs' with rfl | hs'; exact hp0; obtain ⟨x, hx, rfl⟩ := List.mem_map.1 hs'; exact hRs _ (List.mem_cons_of_mem _ (hmem x hx).2)
    have hkf : ∃ q, ((b :: B').map (·.1))[0]'q = b.1 := ⟨by simp, by simp⟩
    have hkl : ∃ q, ((b :: B').map (·.1))[nj]'q = kl := by subst hnj; exact ⟨by simp, by simp only [List.getElem_map]; rw [← hl1]⟩
    have hs0 : ∃ q, (p0 :: (b :: B').map (·.2))[0]'q = p0 := ⟨by simp, rfl⟩
    have hsl2 : ∃ q, (p0 :: (b :: B').map (·.2))[nj + 1]'q = sl := by subst hnj; exact ⟨by simp, by simp only [List.getElem_cons_succ, List.getElem_map]; rw [← hl1]⟩
    have hb1 : nj + 1 = ((b :: B').map (·.1)).length := by rw [List.length_map, e0]
    have hs1 : nj + 1 + 1 = (p0 :: (b :: B').map (·.2)).length := by rw [List.length_cons, List.length_map, e0]
    rw [e0] at hmap hown hT hlen ⊢
    obtain ⟨Bk, hBk⟩ : ∃ x, (b :: B').map (·.1) = x := ⟨_, rfl⟩
    obtain ⟨Ss, hSs⟩ : ∃ x, p0 :: (b :: B').map (·.2) = x := ⟨_, rfl⟩
    obtain ⟨kf, hkf0⟩ : ∃ x, b.1 = x := ⟨_, rfl⟩
    rw [hBk] at hown hBR hkf hkl hb1 ⊢
    rw [hSs] at hT hSR hs0 hsl2 hs1 ⊢
    rw [hkf0] at hkf ⊢
    clear hBk hSs hkf0 hmem hl1 hlast hjl hA hsl hB0
    exact new_bent w kf kl p0 sl Bk Ss hmap (own_kna hown) (own_rta hT) hBr hgm (by have := hB.size; dsimp only; omega) (by omega) (by dsimp only; omega) hb1 hs1 (by omega) hBR hkf hkl hs0 hsl2 hSR
set_option maxHeartbeats 4000000 in
set_option maxRecDepth 100000 in
theorem new_t4 (w : World) (k0 : Kn) (ks : List Kn) (p0 : Rt) (ss : List Rt) {s1 s2 s3 s4 s6 s7 s8 s9 s10 s11 s12 s13 s14 s15 s16 s17 s18 s19 s20 s21 s22 s23 s24 s25 s26 s27 s28 s29 s30 s31 s32 s33 s34 s35 s36 s37 s38 s39 s40 s41 s42 s43 s44 s45 s46 s47 s48 s49 s50 s51 s52 s53 s54 s55 s56 s57 s58 s59 s60 s61 s62 s63 s64 s65 s66 s67 s68 s69 s70 s71 s72 s73 s74 s75 s76 s77 s78 s79 s80 s81 s82 s83 s84 s85 s86 s87 s88 s89 s90 s91 s92 s93 s94 s95 s96 s97 s98 s99 s100 s101 s102 s103 s104 s105 s106 s107 s108 s109 s110 s111 s112 s113 s114 s115 s116 s117 s118 s119 s120 s121 s122 s123 s124 s125 s126 s127 s128 s129 s130 s131 s132 s133 s134 s135 s136 s137 s138 s139 s140 s141 s142 s143 s144 s145 s146 s147 s148 s149 s150 s151 s152 s153 s154 s155 s156 s157 s158 s159 s160 s161 s162 s163 s164 s165 s166 s167 s168 s169 : Value} {ad : Addr} {n cap ga na ca : Nat} {V : World} (hK : KnA V ad (k0 :: ks)) (hO : V.ownsRow w.heap.size 31 2 (.slice (some ⟨ga, 0, none⟩) na ca) na (flatT (p0 :: ss))) (hB : Below w.heap.size w V) (hn : n = ks.length + 1) (hna : na = ss.length + 1) (hle : ss.length ≤ ks.length) (h64 : n ≤ 64) (hR : KnR (k0 :: ks)) (hRs : ∀ s ∈ p0 :: ss, R64 s) :
    newT4.wp Try.prog (bodyPost Try.prog Try.f13 (NewQ w (postK p0 ss k0 ks))) ⟨#[.slice (some ad) n cap, s1, s2, s3, s4, .slice (some ⟨ga, 0, none⟩) na ca, s6, s7, s8, s9, s10, s11, s12, s13, s14, s15, s16, s17, s18, s19, s20, s21, s22, s23, s24, s25, s26, s27, s28, s29, s30, s31, s32, s33, s34, s35, s36, s37, s38, s39, s40, s41, s42, s43, s44, s45, s46, s47, s48, s49, s50, s51, s52, s53, s54, s55, s56, s57, s58, s59, s60, s61, s62, s63, s64, s65, s66, s67, s68, s69, s70, s71, s72, s73, s74, s75, s76, s77, s78, s79, s80, s81, s82, s83, s84, s85, s86, s87, s88, s89, s90, s91, s92, s93, s94, s95, s96, s97, s98, s99, s100, s101, s102, s103, s104, s105, s106, s107, s108, s109, s110, s111, s112, s113, s114, s115, s116, s117, s118, s119, s120, s121, s122, s123, s124, s125, s126, s127, s128, s129, s130, s131, s132, s133, s134, s135, s136, s137, s138, s139, s140, s141, s142, s143, s144, s145, s146, s147, s148, s149, s150, s151, s152, s153, s154, s155, s156, s157, s158, s159, s160, s161, s162, s163, s164, s165, s166, s167, s168, s169], []⟩ V := by
  have hca : na ≤ ca := by rcases hO.2 with ⟨h, _⟩ | ⟨_, _, _, h, _, _, h2, _⟩; cases h; cases h; exact h2
  have gaz := (hO.lt ga rfl).2
  have gaw := (hO.lt ga rfl).1
  have hadz : ad.block < V.heap.size := World.block_lt_of_cell? V _ hK.zero.1
  have i1 : ((1 : Int) ≤ (ca : Int)) = True := eq_true (by omega)
  have i2 : (1 ≤ ca) = True := eq_true (by omega)
  have i3 : ((ca : Int) < 1) = False := eq_false (by omega)
  have HK := Lib.hid hK
  have HO := Lib.hid hO
  have HB := Lib.hid hB
  have HR := Lib.hid hR
  have HRS := Lib.hid hRs
  have HN := Lib.hid hn
  have HNA := Lib.hid hna
  have HLE := Lib.hid hle
  clear hK hO hB hR hRs hn hna hle
  rw [newE4]
  refine wp_seq_k (fun K4 hK4 => ?_)
  have HK4 := Lib.hid hK4
  clear hK4
  conv => arg 2; whnf
  go_wp2
  refine HK4.out _ _ ?_
  rw [newE5]
  refine wp_seq_k (fun K5 hK5 => ?_)
  have HK5 := Lib.hid hK5
  clear hK5
  conv => arg 2; whnf
  go_wp2
  refine HK5.out _ _ ?_
  obtain ⟨W, hW⟩ : ∃ W_, W_ = V.alloc (.cells #[.slice none 0 0, .slice (some ⟨ga, 0, none⟩) 1 1, .int .i64 0] 70) := ⟨_, rfl⟩
  rw [← hW]
  have gM : W.heap[V.heap.size]? = some (.cells #[.slice none 0 0, .slice (some ⟨ga, 0, none⟩) 1 1, .int .i64 0] 70 (0, 0)) := by rw [hW]; exact Hand.q3 _ _ _ rfl
  have hBW : Below V.heap.size V W := by rw [hW]; exact (Below.refl _ _).alloc (Nat.le_refl _) _
  have hsz : V.heap.size < W.heap.size := (Hand.hz gM).1
  have KW := Lib.hid (HK.out.below hBW)
  have AW := Lib.hid (own_rta (own_below HO.out hBW))
  have GM := Lib.hid gM
  have HBW := Lib.hid (HB.out.trans (Below.mono hBW HB.out.size))
  clear hW gM hBW
  rw [newE6]
  refine wp_seq_k (fun K6 hK6 => ?_)
  have HK6 := Lib.hid hK6
  clear hK6
  conv => arg 2; whnf
  go_wp2_with fail
  obtain ⟨aa, haa⟩ : ∃ aa : Addr, (⟨ga, 0, none⟩ : Addr) = aa := ⟨_, rfl⟩
  rw [haa]
  have HAA := Lib.hid haa
  clear haa
  go_loopw [8, 9] (fun vb i wr => ∃ (j : Nat) (B : List (Kn × Rt)) (vs : Value), j + 1 ≤ na ∧ i = .int .i64 ((j : Int) + 1) ∧ bendF p0 (ss.take j) (ks.take j) = B ∧ BendsAt W V.heap.size ga p0 B vb vs wr) (fun _ i _ => na - (intOf i).toNat)
  case atStart => exact ⟨0, [], _, by have := HNA.out; omega, rfl, by simp [bendF], ⟨World.ownsRow_nil _ _ _ _, fun _ => rfl, fun h => absurd rfl h, GM.out, .inl ⟨rfl, rfl⟩, fun k hk => by simp [Value.ownBlock] at hk, Fx.refl _ _⟩⟩
  case round =>
    obtain ⟨j, B, vs, hj, rfl, hBd, hBA⟩ := hrel
    have HBD := Lib.hid hBd
    have HBA := Lib.hid hBA
    clear hBd hBA
    by_cases hjn : j + 1 < na
    · have p1 : ((j : Int) + 1 < (na : Int)) = True := eq_true (by omega)
      have hjs : j < ss.length := by have := HNA.out; omega
      have hjk : j < ks.length := by have := HLE.out; omega
      have hjn2 : j + 1 < n := by have := HN.out; omega
      obtain ⟨⟨x1, x2⟩, hx⟩ : ∃ x, ss[j] = x := ⟨_, rfl⟩
      obtain ⟨⟨y1, y2⟩, hy⟩ : ∃ y, (p0 :: ss)[j]'(by simp; omega) = y := ⟨_, rfl⟩
      obtain ⟨⟨⟨a1, a2⟩, a3, a4⟩, hk⟩ : ∃ k, ks[j] = k := ⟨_, rfl⟩
      have HLS := Lib.hid (show lastS p0 (ss.take j) = (y1, y2) from by rw [lastS_take p0 ss j (by simp; omega), hy])
      have HX1 := Lib.hid (show ss.take (j + 1) = ss.take j ++ [(x1, x2)] from by rw [List.take_succ_eq_append_getElem hjs, hx])
      have HX2 := Lib.hid (show ks.take (j + 1) = ks.take j ++ [((a1, a2), (a3, a4))] from by rw [List.take_succ_eq_append_getElem hjk, hk])
      have HLN := Lib.hid (show (ss.take j).length = (ks.take j).length from by simp only [List.length_take]; omega)
      have CA := Lib.hid (fun (w_ : World) (h : Fx V.heap.size W w_) => (by have f := F2.of_fx V.heap.size h; have r := AW.out.f2 f (by dsimp only; omega) (by dsimp only; omega); rw [HAA.out] at r; have r1 := r (j + 1) (by simp; omega); have r0 := r j (by simp; omega); simp only [List.getElem_cons_succ, hx] at r1; rw [hy] at r0; exact ⟨r1.1, r1.2, r0.1, r0.2⟩ : w_.cell? (aa.add ((j + 1) * 2)) = some (.int .i64 x1) ∧ w_.cell? ⟨(aa.add ((j + 1) * 2)).block, (aa.add ((j + 1) * 2)).off + 1, none⟩ = some (.int .i64 x2) ∧ w_.cell? (aa.add (j * 2)) = some (.int .i64 y1) ∧ w_.cell? ⟨(aa.add (j * 2)).block, (aa.add (j * 2)).off + 1, none⟩ = some (.int .i64 y2)))
      have CK := Lib.hid (fun (w_ : World) (h : Fx V.heap.size W w_) => (by have f := F2.of_fx V.heap.size h; have r := KW.out.f2 f (by omega) (by omega) (j + 1) (by simp; omega); simp only [List.getElem_cons_succ, hk] at r; exact r : w_.cell? (ad.add ((j + 1) * 4)) = some (.int .i64 a1) ∧ w_.cell? ⟨(ad.add ((j + 1) * 4)).block, (ad.add ((j + 1) * 4)).off + 1, none⟩ = some (.int .i64 a2) ∧ w_.cell? ⟨(ad.add ((j + 1) * 4)).block, (ad.add ((j + 1) * 4)).off + 2, none⟩ = some (.int .i64 a3) ∧ w_.cell? ⟨(ad.add ((j + 1) * 4)).block, (ad.add ((j + 1) * 4)).off + 3, none⟩ = some (.int .i64 a4)))
      clear hx hy hk
      obtain ⟨c0, c1, d0, d1⟩ := CA.out _ HBA.out.fx
      have w1 : IntKind.i64.wrap ((j : Int) + 1 - 1) = (j : Int) := by rw [IntKind.wrap_i64]; omega
      have w2 : IntKind.i64.wrap (j : Int) = (j : Int) := by rw [IntKind.wrap_i64]; omega
      have p3 : (0 : Int) ≤ (j : Int) + 1 := by omega
      have p4 : ((j : Int) < (na : Int)) = True := eq_true (by omega)
      have p5 : (0 : Int) ≤ (j : Int) := by omega
      have p6 : (j < na) = True := eq_true (by omega)
      have p7 : (j + 1 < na) = True := eq_true (by omega)
      have p8 : ((j : Int) + 1 < (n : Int)) = True := eq_true (by omega)
      have p9 : (j + 1 < n) = True := eq_true (by omega)
      go_wp2_with fail
      go_still_tail 9, (by kernel_rfl)
      change wpList _ _ _ _ _ wr.drew
      by_cases hxy : x1 = y1 ∧ x2 = y2
      · have e0 : (x1 == y1 && x2 == y2) = true := by simp [hxy.1, hxy.2]
        have e0' : (y1 == x1 && y2 == x2) = true := by simp [hxy.1, hxy.2]
        go_wp2_with fail
        go_roundw
        case rel => exact ⟨j + 1, B, vs, by omega, by rw [Int.natCast_add]; rfl, by rw [HX1.out, HX2.out, bendF_snoc _ _ _ _ _ HLN.out, HBD.out, HLS.out, if_pos (by rw [hxy.1, hxy.2]), List.append_nil], HBA.out.drew⟩
        case measure => simp [intOf]; omega
      · have e0 : (x1 == y1 && x2 == y2) = false := by simpa using hxy
        have e0' : (y1 == x1 && y2 == x2) = false := by simp only [Bool.and_eq_false_iff, beq_eq_false_iff_ne]; by_cases h1 : x1 = y1; exact Or.inr (fun h => hxy ⟨h1, h.symm⟩); exact Or.inl (fun h => h1 h.symm)
        obtain ⟨e1, e2, e3, e4⟩ := CK.out _ HBA.out.fx.drew
        have hBl : B.length ≤ 64 := by have h1 := bendF_len (ss.take j) p0 (ks.take j); rw [HBD.out] at h1; simp only [List.length_take] at h1; have := HNA.out; have := HN.out; have := HLE.out; omega
        have HBD2 := Lib.hid HBA.out.drew
        go_wp2_with (at_builtin; refine wpList_append_lies _ rfl _ _ 22 rfl W.heap.size 35 _ (.agg #[.int .i64 0, .int .i64 0, .int .i64 0, .int .i64 0]) 4 32 Try.underlying22 rfl rfl rfl rfl rfl (by decide) _ B.length _ rfl (own_below HBA.out.own ((Below.refl _ _).alloc (Nat.le_refl _) _).drew) ⟨wr.heap.size, 0, none⟩ 1 1 [.int .i64 a1, .int .i64 a2, .int .i64 a3, .int .i64 a4] rfl rfl (World.news_of_block (by rw [Hand.q5]; exact Hand.q3 _ _ _ rfl)) (by intro u hu; simp at hu; rcases hu with rfl | rfl | rfl | rfl <;> rfl) (by decide) (by unfold maxLen; omega) (by omega) (by rw [World.size_drew, World.size_alloc]; have := HBA.out.fx.size; omega) _ rfl ?_)
        intro gb cb w2 hown hgrow hat hlt
        have HM0 := Lib.hid (HBD2.out.mid hsz (by omega) (by omega) _ ((a1, a2), (a3, a4)) hown hgrow (by rcases hat with h | h; exact Or.inl h; exact Or.inr (h.trans (by simp))))
        have HM := Lib.hid HM0.out.drew
        clear hown hgrow hat
        obtain ⟨q0, q1, _, _⟩ := CA.out _ HM0.out.fx
        obtain ⟨m0, fm0, m1, fm1, m2, fm2⟩ := Hand.hc3 HM0.out.map
        have KEEP := Lib.hid (fun (w_ : World) (h : Below w2.heap.size w2 w_) => (by obtain ⟨r0, r1, _, _⟩ := CA.out _ (HM0.out.fx.step h HM0.out.fx.size); exact ⟨r0, r1⟩ : w_.cell? (aa.add ((j + 1) * 2)) = some (.int .i64 x1) ∧ w_.cell? ⟨(aa.add ((j + 1) * 2)).block, (aa.add ((j + 1) * 2)).off + 1, none⟩ = some (.int .i64 x2)))
        obtain ⟨mz0, mz1, mz2, my0, my1⟩ := Hand.hz HM0.out.map
        have BR : Below w2.heap.size w2 w2 := Below.refl _ _
        go_wp2_with fail
        go_region_law (first | (obtain ⟨g3, cap3, w3, hr3, hown3, ⟨row3, hgrow3, hrow3⟩, hat3, hlt3⟩ := HM0.out.app (by omega) (by omega) AW.out (x1, x2) (by omega) 23; refine step_append_run _ rfl (.tmp 62) (.tmp 67) _ _ rfl _ _ rfl rfl _ _ hr3 ?_; have gm3 : w3.heap[V.heap.size]? = some (.cells #[.slice none 0 0, vs, .int .i64 0] 70 (0, 0)) := (by rw [hgrow3.block _ (by rw [World.size_alloc]; have := HM.out.fx.size; simp only [World.size_drew] at this ⊢; omega) (fun e => by have := (hrow3 _ e.symm).1; omega), Hand.q4 _ _ _ (by have := HM.out.fx.size; simp only [World.size_drew] at this ⊢; omega)]; exact HM.out.map); obtain ⟨t0, ft0, t1, ft1, t2, ft2⟩ := Hand.hc3 gm3; have F3 : Fx V.heap.size W w3 := Fx.grown (Fx.alloc HM0.out.fx _) hgrow3 (fun k hk => (hrow3 k hk).1); have S3 : w3.cell? (aa.add ((j + 1) * 2)) = some (.int .i64 x1) ∧ w3.cell? ⟨(aa.add ((j + 1) * 2)).block, (aa.add ((j + 1) * 2)).off + 1, none⟩ = some (.int .i64 x2) := (by obtain ⟨r0, r1, _, _⟩ := CA.out _ F3; exact ⟨r0, r1⟩); have S4 := fun (u : Value) => CA.out _ (F3.setCell 1 u); have NX := Lib.hid (HM0.out.next hsz (by omega) (by omega) (x1, x2) _ hown3 hgrow3 hrow3 hat3); clear hr3 hown3 hgrow3 hrow3 hat3 gm3) | (obtain ⟨g3, cap3, w3, hr3, hown3, ⟨row3, hgrow3, hrow3⟩, hat3, hlt3⟩ := HM.out.app (by omega) (by omega) AW.out (x1, x2) (by omega) 23; refine step_append_run _ rfl (.tmp 62) (.tmp 67) _ _ rfl _ _ rfl rfl _ _ hr3 ?_; have gm3 : w3.heap[V.heap.size]? = some (.cells #[.slice none 0 0, vs, .int .i64 0] 70 (0, 0)) := (by rw [hgrow3.block _ (by rw [World.size_alloc]; have := HM.out.fx.size; simp only [World.size_drew] at this ⊢; omega) (fun e => by have := (hrow3 _ e.symm).1; omega), Hand.q4 _ _ _ (by have := HM.out.fx.size; simp only [World.size_drew] at this ⊢; omega)]; exact HM.out.map); obtain ⟨t0, ft0, t1, ft1, t2, ft2⟩ := Hand.hc3 gm3; have F3 : Fx V.heap.size W w3 := Fx.grown (Fx.alloc HM.out.fx _) hgrow3 (fun k hk => (hrow3 k hk).1); have S3 : w3.cell? (aa.add ((j + 1) * 2)) = some (.int .i64 x1) ∧ w3.cell? ⟨(aa.add ((j + 1) * 2)).block, (aa.add ((j + 1) * 2)).off + 1, none⟩ = some (.int .i64 x2) := (by obtain ⟨r0, r1, _, _⟩ := CA.out _ F3; exact ⟨r0, r1⟩); have S4 := fun (u : Value) => CA.out _ (F3.setCell 1 u); have NX := Lib.hid (HM.out.next hsz (by omega) (by omega) (x1, x2) _ hown3 hgrow3 hrow3 hat3); clear hr3 hown3 hgrow3 hrow3 hat3 gm3))
        all_goals (go_wp2; go_roundw; first | (simp [intOf]; omega) | exact ⟨j + 1, B ++ [(((a1, a2), (a3, a4)), (x1, x2))], _, by omega, by rw [Int.natCast_add]; rfl, by rw [HX1.out, HX2.out, bendF_snoc _ _ _ _ _ HLN.out, HBD.out, HLS.out, if_neg (by intro h; exact hxy ⟨congrArg Prod.fst h, congrArg Prod.snd h⟩)], by first | exact NX.out | exact NX.out.drew⟩)
        all_goals (first | (simp [intOf]; omega) | skip)
    · have p1 : ((j : Int) + 1 < (na : Int)) = False := eq_false (by omega)
      have hjs : j = ss.length := by have := HNA.out; omega
      have hB0 : bendF p0 ss ks = B := by rw [← HBD.out, hjs, List.take_of_length_le (Nat.le_refl _), bendF_take]
      go_wp2_with fail
      refine HK6.out _ _ ?_
      rw [← HAA.out]
      exact new_exit w W k0 ks p0 ss B hB0 HBA.out KW.out AW.out HBW.out HB.out.size hsz gaw (by omega) (by omega) (by have := HN.out; omega) (by have := HNA.out; omega) (by have := HNA.out; have := HN.out; have := HLE.out; omega) HR.out HRS.out
end Go.Proofs.Ythlpaglldhgmfaa.PA
