/- Chapter 6: RetimeOnly, walked: the knot laid down. -/
import Derived.Test.YthlpaglldhgmfaaOnlA
namespace Go.Proofs.Ythlpaglldhgmfaa.PA
open Go Go.RowKit Go.Proofs.YthlpaglldhgmfaaW.PrintWords Go.Proofs.YthlpaglldhgmfaaW.PrintLast Go.Proofs.YthlpaglldhgmfaaW.PrintMore
attribute [local go_sem high] eqA31 eqA35
set_option linter.unusedSimpArgs false
set_option linter.unusedVariables false
set_option maxHeartbeats 4000000 in
set_option maxRecDepth 100000 in
theorem onl_c (w W : World) (l : List Kn) (m : MapV) (t x : Rt) {z1 z2 z4 z6 z7 z11 z12 z13 z14 z15 z16 z17 z18 z19 z20 z21 z22 z23 z24 z25 z26 z27 z28 z29 z30 z31 z32 z33 z34 z35 z36 z37 z38 z39 z40 z41 z42 z43 z44 z45 z46 z47 z48 z49 z50 z51 z52 z53 z54 z55 z56 z57 z58 z59 z60 z61 z62 z63 z64 z65 z66 z67 z68 z69 z70 z71 z72 z73 z74 z75 z76 z77 z78 z79 z80 z81 z82 z83 z84 z85 z86 z87 z88 z89 z90 z91 z92 z93 z94 z95 z96 z97 z98 z99 z100 z101 z102 z103 z104 z105 z106 z107 z108 z109 z110 z111 z112 z113 z114 z115 z116 : Value} {al : Addr} {n capl p gt gx : Nat} {ak as_ : Addr} {ck cs : Nat} (hn : n = l.length) (hQ : MapQ l m) (hnew : newK l = (some m, 0)) (hm : MapA W p ak as_ ck cs m) (hK : KnA W al l) (ha : m.app t = (x, 0)) (h2 : 2 ≤ n) (h64 : n < 64) (ht : R64 t) (gT : W.heap[gt]? = some (.cells #[.int .i64 t.1, .int .i64 t.2] 31 (0, 0))) (gX : W.heap[gx]? = some (.cells #[.int .i64 x.1, .int .i64 x.2] 31 (0, 0))) (hB : Below w.heap.size w W) :
    onlT10.wp Try.prog (bodyPost Try.prog Try.f4 (fun e w' => e = .returned (.bool true) ∧ Below w.heap.size w w')) ⟨#[.slice (some al) n capl, z1, z2, .pointer (some ⟨gt, 0, none⟩), z4, .pointer (some ⟨p, 0, none⟩), z6, z7, .pointer (some ⟨gx, 0, none⟩), .slice none 0 0, .bool false, z11, z12, z13, z14, z15, z16, z17, z18, z19, z20, z21, z22, z23, z24, z25, z26, z27, z28, z29, z30, z31, z32, z33, z34, z35, z36, z37, z38, z39, z40, z41, z42, z43, z44, z45, z46, z47, z48, z49, z50, z51, z52, z53, z54, z55, z56, z57, z58, z59, z60, z61, z62, z63, z64, z65, z66, z67, z68, z69, z70, z71, z72, z73, z74, z75, z76, z77, z78, z79, z80, z81, z82, z83, z84, z85, z86, z87, z88, z89, z90, z91, z92, z93, z94, z95, z96, z97, z98, z99, z100, z101, z102, z103, z104, z105, z106, z107, z108, z109, z110, z111, z112, z113, z114, z115, z116], []⟩ W := by
  obtain ⟨t1, t2⟩ := t
  obtain ⟨x1, x2⟩ := x
  obtain ⟨htr, hxr, _⟩ := hQ.app ha
  have hx := right_R64 hxr
  have HN := Lib.hid hn
  have HQ := Lib.hid hQ
  have HNEW := Lib.hid hnew
  have HM := Lib.hid hm
  have HK := Lib.hid hK
  have HA := Lib.hid ha
  have HT := Lib.hid ht
  have HX := Lib.hid hx
  have HTR := Lib.hid htr
  have GT := Lib.hid gT
  have GX := Lib.hid gX
  have HB := Lib.hid hB
  clear hn hQ hnew hm hK ha ht hx htr hxr gT gX hB
  rw [onlE10]
  refine wp_seq_k (fun K10 hK10 => ?_)
  have HK10 := Lib.hid hK10
  clear hK10
  conv => arg 2; whnf
  go_wp2_with fail
  go_loopw [9, 10, 11] (fun v d i wr => ∃ (j : Nat) (done : Bool) (mr : List Kn), j ≤ n ∧ i = .int .i64 (j : Int) ∧ d = .bool done ∧ wr.ownsRow W.heap.size 35 4 v mr.length (flatK mr) ∧ mr.length ≤ j + 1 ∧ (done = false → mr.length ≤ j) ∧ KnR mr ∧ (done = false → mr ++ insK (t1, t2) (x1, x2) (l.drop j) = insK (t1, t2) (x1, x2) l) ∧ (done = true → mr ++ l.drop j = insK (t1, t2) (x1, x2) l) ∧ (∀ i (h : i < l.length), i < j → rCmp (t1, t2) l[i].1 ≠ 0) ∧ Below W.heap.size W wr) (fun _ _ i _ => n - (intOf i).toNat)
  case atStart => exact ⟨0, false, [], Nat.zero_le _, rfl, rfl, World.ownsRow_nil _ _ _ _, Nat.zero_le _, (fun _ => Nat.zero_le _), (fun k hk => (by cases hk)), (fun _ => rfl), (fun h => (by cases h)), (fun i _ h => absurd h (Nat.not_lt_zero _)), Below.refl _ _⟩
  case round =>
    obtain ⟨j, done, mr, hj, rfl, rfl, hown, hlen, hlen0, hmR, hd0, hd1, hne, hBr⟩ := hrel
    have HOWN := Lib.hid hown
    have HMR := Lib.hid hmR
    have HD0 := Lib.hid hd0
    have HD1 := Lib.hid hd1
    have HNE := Lib.hid hne
    clear hown hmR hd0 hd1 hne
    obtain ⟨nm, hnm⟩ : ∃ n, mr.length = n := ⟨_, rfl⟩
    rw [hnm] at hlen hlen0
    have HL0 := Lib.hid hlen0
    clear hlen0
    have HNM := Lib.hid hnm
    clear hnm
    have gt1 := Hand.kb hBr GT.out
    have gx1 := Hand.kb hBr GX.out
    have gtz := (Hand.hz gt1).1
    have gxz := (Hand.hz gx1).1
    obtain ⟨c0, fc0, c1, fc1⟩ := Hand.hc2 gt1
    by_cases hjn : j < n
    · have p1 : ((j : Int) < (n : Int)) = True := eq_true (by omega)
      have p6 : (j < n) = True := eq_true (by omega)
      have p5 : (0 : Int) ≤ (j : Int) := by omega
      have w2 : IntKind.i64.wrap (j : Int) = (j : Int) := by rw [IntKind.wrap_i64]; omega
      have hjl : j < l.length := by have := HN.out; omega
      obtain ⟨k0, k1, k2, k3⟩ := (HK.out.below hBr) j hjl
      have hrt := HQ.out.lr _ (List.getElem_mem hjl)
      have hdrop : l.drop j = l[j] :: l.drop (j + 1) := List.drop_eq_getElem_cons hjl
      have hnx : ∀ q, rCmp (t1, t2) l[j].1 = q → q ≠ 0 → ∀ i (h : i < l.length), i < j + 1 → rCmp (t1, t2) l[i].1 ≠ 0 := fun q hq hq0 i h hi => by by_cases hij : i = j; subst hij; rw [hq]; exact hq0; exact HNE.out i h (by omega)
      obtain ⟨⟨⟨i1, i2⟩, o1, o2⟩, hk⟩ : ∃ k, l[j] = k := ⟨_, rfl⟩
      rw [hk] at k0 k1 k2 k3 hrt hdrop hnx
      dsimp only at k0 k1 k2 k3 hrt hnx
      have M1 := Lib.hid (fun u => cmp_k (t1, t2) (i1, i2) u HT.out (right_R64 hrt.1) HTR.out hrt.1)
      obtain ⟨q, hq⟩ : ∃ q, rCmp (t1, t2) (i1, i2) = q := ⟨_, rfl⟩
      have hnx2 := hnx q hq
      rw [hq] at M1
      dsimp only [rv] at M1
      have HDR := Lib.hid hdrop
      have HQV := Lib.hid hq
      have HNX := Lib.hid hnx2
      have HRT := Lib.hid hrt
      have CKL := Lib.hid (fun (w_ : World) (h : Below W.heap.size W w_) => (by have := (HK.out.below h) j hjl; rw [hk] at this; exact this : w_.cell? (al.add (j * 4)) = some (.int .i64 i1) ∧ w_.cell? ⟨(al.add (j * 4)).block, (al.add (j * 4)).off + 1, none⟩ = some (.int .i64 i2) ∧ w_.cell? ⟨(al.add (j * 4)).block, (al.add (j * 4)).off + 2, none⟩ = some (.int .i64 o1) ∧ w_.cell? ⟨(al.add (j * 4)).block, (al.add (j * 4)).off + 3, none⟩ = some (.int .i64 o2)))
      clear hdrop hq hnx hnx2 hrt hk
      go_wp2_with fail
      go_still_tail 6, (by kernel_rfl)
      change wpList _ _ _ _ _ wr.drew
      go_wp2_with fail
      with_reducible refine (M1.out _).mono ?_
      rintro e_ w2 ⟨rfl, hb2⟩
      have hB2 := Hand.stepB hb2 hBr.drew (Nat.le_refl _)
      have hO2 : Below wr.heap.size wr w2 := Hand.stepB hb2 (Below.refl _ _).drew (Nat.le_refl _)
      have HB2 := Lib.hid hB2
      have hsz2 := hB2.size
      clear c0 fc0 c1 fc1 k0 k1 k2 k3 hb2
      have OW2 := Lib.hid (own_below HOWN.out hO2)
      rw [HNM.out] at OW2
      have gt2 := Hand.kb hO2 gt1
      have gx2 := Hand.kb hO2 gx1
      obtain ⟨c0, fc0, c1, fc1⟩ := Hand.hc2 gt2
      obtain ⟨d0, fd0, d1, fd1⟩ := Hand.hc2 gx2
      obtain ⟨k0, k1, k2, k3⟩ := CKL.out _ hB2
      clear gt1 gx1 hO2 hB2
      by_cases hq0 : q = 0
      · have j0 : (q == 0) = true := by simpa using hq0
        go_wp2
        go_ret
        exact ⟨rfl, HB.out.trans (Below.mono HB2.out HB.out.size)⟩
      · have j0 : (q == 0) = false := by simpa using hq0
        by_cases hql : q < 0
        · cases done with
          | false =>
            have e1 : (q < 0) = True := eq_true hql
            go_wp2_with (at_builtin; refine wpList_append_lies _ rfl _ _ 22 rfl W.heap.size 35 _ (.agg #[.int .i64 0, .int .i64 0, .int .i64 0, .int .i64 0]) 4 32 Try.underlying22 rfl rfl rfl rfl rfl (by decide) _ nm _ rfl (own_below OW2.out ((Below.refl _ _).alloc (Nat.le_refl _) _)) ⟨w2.heap.size, 0, none⟩ 1 1 [.int .i64 t1, .int .i64 t2, .int .i64 x1, .int .i64 x2] rfl rfl (World.news_of_block (by first | exact Hand.q3 _ _ _ rfl | (rw [Hand.q5]; exact Hand.q3 _ _ _ rfl))) (by intro u hu; simp at hu; rcases hu with rfl | rfl | rfl | rfl <;> rfl) (by decide) (by unfold maxLen; omega) (by omega) (by simp only [World.size_drew, World.size_alloc]; omega) _ rfl ?_)
            intro g3 c3 w3 hown3 hgrow3 hat3 hlt3
            have hB3 : Below W.heap.size W w3 := (HB2.out.alloc HB2.out.size _).grown hgrow3 (by simp only [World.size_alloc]; omega) (fun k hk => (OW2.out.lt k hk).1)
            have OW3 := Lib.hid hown3
            have HB3 := Lib.hid hB3
            have hsz3 := hB3.size
            clear k0 k1 k2 k3 hown3 hgrow3 hat3
            obtain ⟨k0, k1, k2, k3⟩ := CKL.out _ hB3
            clear hB3
            go_wp2_with (at_builtin; refine wpList_append_lies _ rfl _ _ 22 rfl W.heap.size 35 _ (.agg #[.int .i64 0, .int .i64 0, .int .i64 0, .int .i64 0]) 4 32 Try.underlying22 rfl rfl rfl rfl rfl (by decide) _ (nm + 1) _ rfl (own_below OW3.out ((Below.refl _ _).alloc (Nat.le_refl _) _)) ⟨w3.heap.size, 0, none⟩ 1 1 [.int .i64 i1, .int .i64 i2, .int .i64 o1, .int .i64 o2] rfl rfl (World.news_of_block (by first | exact Hand.q3 _ _ _ rfl | (rw [Hand.q5]; exact Hand.q3 _ _ _ rfl))) (by intro u hu; simp at hu; rcases hu with rfl | rfl | rfl | rfl <;> rfl) (by decide) (by unfold maxLen; omega) (by omega) (by simp only [World.size_drew, World.size_alloc]; omega) _ rfl ?_)
            intro g4 c4 w4 hown4 hgrow4 hat4 hlt4
            have hB4 : Below W.heap.size W w4 := (HB3.out.alloc HB3.out.size _).grown hgrow4 (by simp only [World.size_alloc]; omega) (fun k hk => (OW3.out.lt k hk).1)
            go_wp2
            go_roundw
            case rel => exact ⟨j + 1, true, mr ++ [((t1, t2), (x1, x2))] ++ [((i1, i2), (o1, o2))], by omega, by rw [Int.natCast_add]; rfl, rfl, by rw [flatK_snoc, flatK_snoc, List.length_append, List.length_append, HNM.out, List.append_assoc]; exact hown4, by rw [List.length_append, List.length_append, HNM.out]; have := HL0.out (by first | rfl | trivial); simp; omega, (fun h => (by cases h)), (by intro k hk; rcases List.mem_append.1 hk with h | h; (rcases List.mem_append.1 h with h | h; exact HMR.out k h; have : k = ((t1, t2), (x1, x2)) := (by simpa using h); subst this; exact ⟨HT.out, HX.out⟩); have : k = ((i1, i2), (o1, o2)) := (by simpa using h); subst this; exact ⟨right_R64 HRT.out.1, right_R64 HRT.out.2⟩), (fun h => (by cases h)), (fun _ => (by have := HD0.out (by first | rfl | trivial); rw [HDR.out] at this; simp only [insK] at this; rw [if_pos (by rw [HQV.out]; omega)] at this; rw [← this]; simp)), HNX.out hq0, hB4⟩
            case measure => simp [intOf]; omega
          | true =>
            have e1 : (q < 0) = True := eq_true hql
            go_wp2_with (at_builtin; refine wpList_append_lies _ rfl _ _ 22 rfl W.heap.size 35 _ (.agg #[.int .i64 0, .int .i64 0, .int .i64 0, .int .i64 0]) 4 32 Try.underlying22 rfl rfl rfl rfl rfl (by decide) _ nm _ rfl (own_below OW2.out ((Below.refl _ _).alloc (Nat.le_refl _) _)) ⟨w2.heap.size, 0, none⟩ 1 1 [.int .i64 i1, .int .i64 i2, .int .i64 o1, .int .i64 o2] rfl rfl (World.news_of_block (by first | exact Hand.q3 _ _ _ rfl | (rw [Hand.q5]; exact Hand.q3 _ _ _ rfl))) (by intro u hu; simp at hu; rcases hu with rfl | rfl | rfl | rfl <;> rfl) (by decide) (by unfold maxLen; omega) (by omega) (by simp only [World.size_drew, World.size_alloc]; omega) _ rfl ?_)
            intro g3 c3 w3 hown3 hgrow3 hat3 hlt3
            have hB3 : Below W.heap.size W w3 := (HB2.out.alloc HB2.out.size _).grown hgrow3 (by simp only [World.size_alloc]; omega) (fun k hk => (OW2.out.lt k hk).1)
            go_wp2
            go_roundw
            case rel => exact ⟨j + 1, true, mr ++ [((i1, i2), (o1, o2))], by omega, by rw [Int.natCast_add]; rfl, rfl, by rw [flatK_snoc, List.length_append, HNM.out]; exact hown3, by rw [List.length_append, HNM.out]; simp; omega, (fun h => (by cases h)), (by intro k hk; rcases List.mem_append.1 hk with h | h; exact HMR.out k h; have : k = ((i1, i2), (o1, o2)) := (by simpa using h); subst this; exact ⟨right_R64 HRT.out.1, right_R64 HRT.out.2⟩), (fun h => (by cases h)), (fun _ => (by have := HD1.out (by first | rfl | trivial); rw [HDR.out] at this; rw [← this]; simp)), HNX.out hq0, hB3⟩
            case measure => simp [intOf]; omega
        · have e1 : (q < 0) = False := eq_false hql
          cases done with
          | false =>
            go_wp2_with (at_builtin; refine wpList_append_lies _ rfl _ _ 22 rfl W.heap.size 35 _ (.agg #[.int .i64 0, .int .i64 0, .int .i64 0, .int .i64 0]) 4 32 Try.underlying22 rfl rfl rfl rfl rfl (by decide) _ nm _ rfl (own_below OW2.out ((Below.refl _ _).alloc (Nat.le_refl _) _)) ⟨w2.heap.size, 0, none⟩ 1 1 [.int .i64 i1, .int .i64 i2, .int .i64 o1, .int .i64 o2] rfl rfl (World.news_of_block (by first | exact Hand.q3 _ _ _ rfl | (rw [Hand.q5]; exact Hand.q3 _ _ _ rfl))) (by intro u hu; simp at hu; rcases hu with rfl | rfl | rfl | rfl <;> rfl) (by decide) (by unfold maxLen; omega) (by omega) (by simp only [World.size_drew, World.size_alloc]; omega) _ rfl ?_)
            intro g3 c3 w3 hown3 hgrow3 hat3 hlt3
            have hB3 : Below W.heap.size W w3 := (HB2.out.alloc HB2.out.size _).grown hgrow3 (by simp only [World.size_alloc]; omega) (fun k hk => (OW2.out.lt k hk).1)
            go_wp2
            go_roundw
            case rel => exact ⟨j + 1, false, mr ++ [((i1, i2), (o1, o2))], by omega, by rw [Int.natCast_add]; rfl, rfl, by rw [flatK_snoc, List.length_append, HNM.out]; exact hown3, by rw [List.length_append, HNM.out]; simp; have := HL0.out (by first | rfl | trivial); omega, (fun _ => (by rw [List.length_append, HNM.out]; have := HL0.out (by first | rfl | trivial); simp; omega)), (by intro k hk; rcases List.mem_append.1 hk with h | h; exact HMR.out k h; have : k = ((i1, i2), (o1, o2)) := (by simpa using h); subst this; exact ⟨right_R64 HRT.out.1, right_R64 HRT.out.2⟩), (fun _ => (by have := HD0.out (by first | rfl | trivial); rw [HDR.out] at this; simp only [insK] at this; rw [if_neg (by rw [HQV.out]; omega)] at this; rw [← this]; simp)), (fun h => (by cases h)), HNX.out hq0, hB3⟩
            case measure => simp [intOf]; omega
          | true =>
            go_wp2_with (at_builtin; refine wpList_append_lies _ rfl _ _ 22 rfl W.heap.size 35 _ (.agg #[.int .i64 0, .int .i64 0, .int .i64 0, .int .i64 0]) 4 32 Try.underlying22 rfl rfl rfl rfl rfl (by decide) _ nm _ rfl (own_below OW2.out ((Below.refl _ _).alloc (Nat.le_refl _) _)) ⟨w2.heap.size, 0, none⟩ 1 1 [.int .i64 i1, .int .i64 i2, .int .i64 o1, .int .i64 o2] rfl rfl (World.news_of_block (by first | exact Hand.q3 _ _ _ rfl | (rw [Hand.q5]; exact Hand.q3 _ _ _ rfl))) (by intro u hu; simp at hu; rcases hu with rfl | rfl | rfl | rfl <;> rfl) (by decide) (by unfold maxLen; omega) (by omega) (by simp only [World.size_drew, World.size_alloc]; omega) _ rfl ?_)
            intro g3 c3 w3 hown3 hgrow3 hat3 hlt3
            have hB3 : Below W.heap.size W w3 := (HB2.out.alloc HB2.out.size _).grown hgrow3 (by simp only [World.size_alloc]; omega) (fun k hk => (OW2.out.lt k hk).1)
            go_wp2
            go_roundw
            case rel => exact ⟨j + 1, true, mr ++ [((i1, i2), (o1, o2))], by omega, by rw [Int.natCast_add]; rfl, rfl, by rw [flatK_snoc, List.length_append, HNM.out]; exact hown3, by rw [List.length_append, HNM.out]; simp; omega, (fun h => (by cases h)), (by intro k hk; rcases List.mem_append.1 hk with h | h; exact HMR.out k h; have : k = ((i1, i2), (o1, o2)) := (by simpa using h); subst this; exact ⟨right_R64 HRT.out.1, right_R64 HRT.out.2⟩), (fun h => (by cases h)), (fun _ => (by have := HD1.out (by first | rfl | trivial); rw [HDR.out] at this; rw [← this]; simp)), HNX.out hq0, hB3⟩
            case measure => simp [intOf]; omega
    · have p1 : ((j : Int) < (n : Int)) = False := eq_false (by omega)
      have hdn : l.drop j = [] := List.drop_eq_nil_of_le (by have := HN.out; omega)
      have HDN := Lib.hid hdn
      clear hdn
      obtain ⟨d0, fd0, d1, fd1⟩ := Hand.hc2 gx1
      have hszr := hBr.size
      have HBR := Lib.hid hBr
      have OW := Lib.hid HOWN.out
      rw [HNM.out] at OW
      clear hBr
      go_wp2
      refine HK10.out _ _ ?_
      rw [onlE11]
      refine wp_seq_k (fun K11 hK11 => ?_)
      have HK11 := Lib.hid hK11
      clear hK11
      conv => arg 2; whnf
      cases done with
      | false =>
        go_wp2_with (at_builtin; refine wpList_append_lies _ rfl _ _ 22 rfl W.heap.size 35 _ (.agg #[.int .i64 0, .int .i64 0, .int .i64 0, .int .i64 0]) 4 32 Try.underlying22 rfl rfl rfl rfl rfl (by decide) _ nm _ rfl (own_below OW.out ((Below.refl _ _).alloc (Nat.le_refl _) _)) ⟨wr.heap.size, 0, none⟩ 1 1 [.int .i64 t1, .int .i64 t2, .int .i64 x1, .int .i64 x2] rfl rfl (World.news_of_block (by first | exact Hand.q3 _ _ _ rfl | (rw [Hand.q5]; exact Hand.q3 _ _ _ rfl))) (by intro u hu; simp at hu; rcases hu with rfl | rfl | rfl | rfl <;> rfl) (by decide) (by unfold maxLen; omega) (by omega) (by simp only [World.size_drew, World.size_alloc]; omega) _ rfl ?_)
        intro g3 c3 w3 hown3 hgrow3 hat3 hlt3
        have hB3 : Below W.heap.size W w3 := (HBR.out.alloc HBR.out.size _).grown hgrow3 (by simp only [World.size_alloc]; omega) (fun k hk => (OW.out.lt k hk).1)
        go_wp2
        refine HK11.out _ _ ?_
        have hml : insK (t1, t2) (x1, x2) l = mr ++ [((t1, t2), (x1, x2))] := by have := HD0.out (by first | rfl | trivial); rw [HDN.out] at this; exact this.symm
        have hmr2 : KnR (mr ++ [((t1, t2), (x1, x2))]) := by intro k hk; rcases List.mem_append.1 hk with h | h; exact HMR.out k h; have : k = ((t1, t2), (x1, x2)) := (by simpa using h); subst this; exact ⟨HT.out, HX.out⟩
        have hko : KnA w3 ⟨g3, 0, none⟩ (mr ++ [((t1, t2), (x1, x2))]) := own_kna (n := nm + 1) (cap := c3) (base := W.heap.size) (e := 35) (by rw [flatK_snoc]; exact hown3)
        obtain ⟨ml, hmle⟩ : ∃ x, mr ++ [((t1, t2), (x1, x2))] = x := ⟨_, rfl⟩
        have hmlen : nm + 1 = ml.length := by rw [← hmle, List.length_append, HNM.out]; rfl
        rw [hmle] at hml hmr2 hko
        rw [hmlen]
        exact onl_d w w3 m ml (Av := some ⟨g3, 0, none⟩) (capv := c3) (HM.out.below hB3) HQ.out.ok (.inr ⟨_, rfl, hko⟩) hmr2 (fun o ho => only_same HNEW.out HA.out (by have := HN.out; omega) (by intro k hk; obtain ⟨i, hi, rfl⟩ := List.getElem_of_mem hk; exact HNE.out i hi (by have := HN.out; omega)) (by rw [hml]; exact ho)) (HB.out.trans (Below.mono hB3 HB.out.size))
      | true =>
        go_wp2
        refine HK11.out _ _ ?_
        have hml : insK (t1, t2) (x1, x2) l = mr := by have := HD1.out (by first | rfl | trivial); rw [HDN.out, List.append_nil] at this; exact this.symm
        rcases HOWN.out.2 with ⟨hv, hz⟩ | ⟨g3, c3, cur, hv, _⟩
        · have := insK_len (t1, t2) (x1, x2) l; rw [hml, hz] at this; omega
        · have hko : KnA wr ⟨g3, 0, none⟩ mr := by have := HOWN.out; rw [hv] at this; exact own_kna this
          rw [hv]
          exact onl_d w wr m mr (Av := some ⟨g3, 0, none⟩) (capv := c3) (HM.out.below HBR.out) HQ.out.ok (.inr ⟨_, rfl, hko⟩) HMR.out (fun o ho => only_same HNEW.out HA.out (by have := HN.out; omega) (by intro k hk; obtain ⟨i, hi, rfl⟩ := List.getElem_of_mem hk; exact HNE.out i hi (by have := HN.out; omega)) (by rw [hml]; exact ho)) (HB.out.trans (Below.mono HBR.out HB.out.size))
end Go.Proofs.Ythlpaglldhgmfaa.PA
