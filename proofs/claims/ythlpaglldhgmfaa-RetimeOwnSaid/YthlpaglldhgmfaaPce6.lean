/- Chapter 6: the piece of a map by which a time is reckoned. -/
import Derived.Test.YthlpaglldhgmfaaSlp6
import Derived.Deep.RegionHeld3
namespace Go.Proofs.Ythlpaglldhgmfaa.PA
open Go Go.RowKit Go.Proofs.YthlpaglldhgmfaaW.PrintWords Go.Proofs.YthlpaglldhgmfaaW.PrintLast Go.Proofs.YthlpaglldhgmfaaW.PrintMore
set_option linter.unusedSimpArgs false
set_option linter.unusedVariables false
theorem lastLe_snoc (f : Kn → Rt) (t : Rt) (k : Kn) : ∀ (l : List Kn) (i a : Nat), lastLe f t (l ++ [k]) i a = if rCmp (f k) t ≤ 0 then i + l.length else lastLe f t l i a := by
  intro l
  induction l with
  | nil => intro i a; simp [lastLe]
  | cons b l ih =>
    intro i a
    simp only [List.cons_append, lastLe, List.length_cons]
    rw [ih]
    split
    · omega
    · rfl
theorem lastLe_le (f : Kn → Rt) (t : Rt) : ∀ (l : List Kn) (i a : Nat), a ≤ i → l ≠ [] ∨ a < i → lastLe f t l i a < i + l.length := by
  intro l
  induction l with
  | nil => intro i a h1 h2; simp [lastLe]; rcases h2 with h | h; exact absurd rfl h; exact h
  | cons b l ih =>
    intro i a h1 h2
    simp only [lastLe, List.length_cons]
    have := ih (i + 1) (if rCmp (f b) t ≤ 0 then i else a) (by split <;> omega) (.inr (by split <;> omega))
    omega
/-- a map as it lies: its block, its knots, its slopes -/
structure MapA (w : World) (p : Nat) (ak as_ : Addr) (ck cs : Nat) (m : MapV) : Prop where
  blk : w.heap[p]? = some (.cells #[.slice (some ak) m.knots.length ck, .slice (some as_) m.slopes.length cs, .int .i64 m.bends] 70 (0, 0))
  kn : KnA w ak m.knots
  sl : RtA w as_ m.slopes
theorem MapA.below {w w' : World} {p : Nat} {ak as_ : Addr} {ck cs : Nat} {m : MapV} (h : MapA w p ak as_ ck cs m) (hb : Below w.heap.size w w') : MapA w' p ak as_ ck cs m := ⟨Hand.kb hb h.blk, h.kn.below hb, h.sl.below hb⟩
/-- what may be asked of a map's numbers -/
structure MapOk (m : MapV) : Prop where
  kr : KnR m.knots
  kq : ∀ k ∈ m.knots, rRight k.1 = true ∧ rRight k.2 = true
  k0 : 0 < m.knots.length
  k1 : m.knots.length ≤ 66
  s0 : 0 < m.slopes.length
  s1 : m.slopes.length ≤ 64
  sr : ∀ s ∈ m.slopes, R64 s
set_option maxHeartbeats 800000 in
set_option maxRecDepth 100000 in
theorem piece_any (p : Nat) (ak as_ : Addr) (ck cs : Nat) (m : MapV) (F : FuncId) (f : Kn → Rt) (t : Rt) (w : World) (hm : MapA w p ak as_ ck cs m) (ho : MapOk m) (hen : Ent F)
    (hf : ∀ k w, Calls Try.prog F #[kv k] w fun e w' => e = .returned (rv (f k)) ∧ Below w.heap.size w w') (hfr : ∀ k, f k = k.1 ∨ f k = k.2) (ht : R64 t) (htr : rRight t = true) :
    Calls Try.prog 46 #[.pointer (some ⟨p, 0, none⟩), rv t, fnv F] w fun e w' => e = .returned (.tuple #[kv (m.knot (m.at f t)), rv (m.slope (m.at f t))]) ∧ Below w.heap.size w w' := by
  obtain ⟨c0, f0, c1, f1, c2, f2⟩ := Hand.hc3 hm.blk
  obtain ⟨z0, z1, z2, y0, y1⟩ := Hand.hz hm.blk
  have y2 : (p = w.heap.size + 1 + 1) = False := eq_false (by omega)
  obtain ⟨n, hn⟩ : ∃ n, m.knots.length = n := ⟨_, rfl⟩
  rw [hn] at c0
  have HN := Lib.hid hn
  have HM := Lib.hid hm
  have HO := Lib.hid ho
  have HF := Lib.hid hf
  have HFR := Lib.hid hfr
  have HT := Lib.hid ht
  have HTR := Lib.hid htr
  have n1 : n ≤ 66 := by have := ho.k1; omega
  have n0 : 0 < n := by have := ho.k0; omega
  clear hm ho hf hfr ht htr hn
  go_enter Try.func46, Try.ntmps46
  go_wp2_with fail
  obtain ⟨W, hW⟩ : ∃ W_, W_ = (((w.alloc (.cells #[.int .i64 t.1, .int .i64 t.2] 31)).alloc (.cells #[.int .i64 0, .int .i64 0, .int .i64 0, .int .i64 0] 35)).alloc (.cells #[.int .i64 0, .int .i64 0] 31)) := ⟨_, rfl⟩
  rw [← hW]
  have gT : W.heap[w.heap.size]? = some (.cells #[.int .i64 t.1, .int .i64 t.2] 31 (0, 0)) := by rw [hW]; simp (disch := (first | omega | (simp only [World.size_alloc, World.size_drew, World.size_setCell]; first | done | omega))) only [Hand.q4, Hand.q3]
  have gK : W.heap[w.heap.size + 1]? = some (.cells #[.int .i64 0, .int .i64 0, .int .i64 0, .int .i64 0] 35 (0, 0)) := by rw [hW]; simp (disch := (first | omega | (simp only [World.size_alloc, World.size_drew, World.size_setCell]; first | done | omega))) only [Hand.q4, Hand.q3]
  have gR : W.heap[w.heap.size + 1 + 1]? = some (.cells #[.int .i64 0, .int .i64 0] 31 (0, 0)) := by rw [hW]; simp (disch := (first | omega | (simp only [World.size_alloc, World.size_drew, World.size_setCell]; first | done | omega))) only [Hand.q4, Hand.q3]
  have hB : Below w.heap.size w W := by rw [hW]; repeat (first | exact Below.refl _ _ | refine Below.alloc ?_ (by (first | omega | (simp only [World.size_alloc, World.size_drew, World.size_setCell]; first | done | omega))) _)
  have hsz : w.heap.size + 3 ≤ W.heap.size := by rw [hW]; simp only [World.size_alloc]; omega
  clear hW c0 f0 c1 f1 c2 f2 z0 z1 z2 y0 y1 y2
  have GT := Lib.hid gT
  have GK := Lib.hid gK
  have GR := Lib.hid gR
  have HB := Lib.hid hB
  clear gT gK gR hB
  go_loopw [8, 16] (fun a i wr => ∃ j : Nat, j ≤ n ∧ i = .int .i64 j ∧ a = .int .i64 ((lastLe f t (m.knots.take j) 0 0 : Nat) : Int) ∧ Below W.heap.size W wr) (fun _ i _ => n - (intOf i).toNat)
  case atStart => exact ⟨0, Nat.zero_le _, rfl, rfl, Below.refl _ _⟩
  case round =>
    obtain ⟨j, hj, rfl, rfl, hBr⟩ := hrel
    obtain ⟨av, hav⟩ : ∃ av, lastLe f t (m.knots.take j) 0 0 = av := ⟨_, rfl⟩
    rw [hav]
    have HAV := Lib.hid hav
    clear hav
    by_cases hjn : j < n
    · have p1 : ((j : Int) < (n : Int)) = True := eq_true (by omega)
      have p2 : (j < n) = True := eq_true hjn
      have hjl : j < m.knots.length := by rw [HN.out]; exact hjn
      have hBw := HB.out.trans (Below.mono hBr (by omega))
      obtain ⟨c0, c1, c2, c3⟩ := ((HM.out.below HB.out).kn.below hBr) j hjl
      obtain ⟨t0, ft0, t1, ft1⟩ := Hand.hc2 (Hand.kb hBr GT.out)
      obtain ⟨tz0, tz1, tz2, ty0, ty1⟩ := Hand.hz (Hand.kb hBr GT.out)
      obtain ⟨k, hk⟩ : ∃ k, m.knots[j] = k := ⟨_, rfl⟩
      rw [hk] at c0 c1 c2 c3
      have HKJ := Lib.hid hk
      clear hk
      have hkm : k ∈ m.knots := by rw [← HKJ.out]; exact List.getElem_mem hjl
      have hfR : R64 (f k) ∧ rRight (f k) = true := by
        have a := HO.out.kr k hkm
        have b := HO.out.kq k hkm
        rcases HFR.out k with h | h <;> rw [h]
        · exact ⟨a.1, b.1⟩
        · exact ⟨a.2, b.2⟩
      have mc := Lib.hid (fun w => cmp_k (f k) t w hfR.1 HT.out hfR.2 HTR.out)
      obtain ⟨q, hq⟩ : ∃ q, rCmp (f k) t = q := ⟨_, rfl⟩
      rw [hq] at mc
      have HQ := Lib.hid hq
      obtain ⟨x, hx⟩ : ∃ x, f k = x := ⟨_, rfl⟩
      have mf := Lib.hid (fun w => HF.out k w)
      rw [hx] at mf mc
      clear hq hfR hkm
      go_wp2_with fail
      obtain ⟨V, hV⟩ : ∃ V_, V_ = wr.alloc (.cells #[.int .i64 k.1.1, .int .i64 k.1.2, .int .i64 k.2.1, .int .i64 k.2.2] 35) := ⟨_, rfl⟩
      rw [← hV]
      have hBV : Below W.heap.size W V := by rw [hV]; exact hBr.alloc hBr.size _
      have gk : V.heap[wr.heap.size]? = some (.cells #[.int .i64 k.1.1, .int .i64 k.1.2, .int .i64 k.2.1, .int .i64 k.2.2] 35 (0, 0)) := by rw [hV]; exact Hand.q3 _ _ _ rfl
      clear hV
      obtain ⟨d0, e0, d1, e1, d2, e2, d3, e3⟩ := Hand.hc4 gk
      obtain ⟨u0, v0, u1, v1⟩ := Hand.hc2 (Hand.kb hBV GT.out)
      have zk := (Hand.hz gk).1
      have zt := (Hand.hz (Hand.kb hBV GT.out)).1
      have KEEP := Lib.hid (fun (w_ : World) (h : Below V.heap.size V w_) => (⟨h, (Below.cell h (p := ⟨wr.heap.size, 0, none⟩) zk).trans d0, (Below.cell h (p := ⟨wr.heap.size, 1, none⟩) zk).trans d1, (Below.cell h (p := ⟨wr.heap.size, 2, none⟩) zk).trans d2, (Below.cell h (p := ⟨wr.heap.size, 3, none⟩) zk).trans d3, (Below.cell h (p := ⟨w.heap.size, 0, none⟩) zt).trans u0, (Below.cell h (p := ⟨w.heap.size, 1, none⟩) zt).trans u1⟩ : Below V.heap.size V w_ ∧ w_.cell? ⟨wr.heap.size, 0, none⟩ = some (.int .i64 k.1.1) ∧ w_.cell? ⟨wr.heap.size, 1, none⟩ = some (.int .i64 k.1.2) ∧ w_.cell? ⟨wr.heap.size, 2, none⟩ = some (.int .i64 k.2.1) ∧ w_.cell? ⟨wr.heap.size, 3, none⟩ = some (.int .i64 k.2.2) ∧ w_.cell? ⟨w.heap.size, 0, none⟩ = some (.int .i64 t.1) ∧ w_.cell? ⟨w.heap.size, 1, none⟩ = some (.int .i64 t.2)))
      have BR : Below V.heap.size V V := Below.refl _ _
      clear gk c0 c1 c2 c3 t0 ft0 t1 ft1 tz0 tz1 tz2 ty0 ty1
      go_region_held3 (fun w_ => Below V.heap.size V w_ ∧ w_.cell? ⟨wr.heap.size, 0, none⟩ = some (.int .i64 k.1.1) ∧ w_.cell? ⟨wr.heap.size, 1, none⟩ = some (.int .i64 k.1.2) ∧ w_.cell? ⟨wr.heap.size, 2, none⟩ = some (.int .i64 k.2.1) ∧ w_.cell? ⟨wr.heap.size, 3, none⟩ = some (.int .i64 k.2.2) ∧ w_.cell? ⟨w.heap.size, 0, none⟩ = some (.int .i64 t.1) ∧ w_.cell? ⟨w.heap.size, 1, none⟩ = some (.int .i64 t.2)) (first | (refine KEEP.out _ ?_; repeat (with_reducible first | assumption | apply Below.drew))) (first | (go_at_fn F; ((with_reducible refine (mf.out _).mono ?_); rintro e w4 ⟨rfl, hb4⟩; have BB : Below V.heap.size V w4 := Hand.stepB hb4 (by repeat (with_reducible first | assumption | apply Below.drew)) (Nat.le_refl _))) | (go_at_call 18; ((with_reducible refine (mc.out _).mono ?_); rintro e w5 ⟨rfl, hb5⟩; have BB : Below V.heap.size V w5 := Hand.stepB hb5 (by repeat (with_reducible first | assumption | apply Below.drew)) (Nat.le_refl _))))
      have hB5 : Below W.heap.size W w5 := Below.trans hBV (Below.mono BB hBV.size)
      have HAT := Lib.hid (show lastLe f t (m.knots.take (j + 1)) 0 0 = if q ≤ 0 then j else av from by
        rw [List.take_succ_eq_append_getElem hjl, lastLe_snoc, HKJ.out, HQ.out, HAV.out, List.length_take, Nat.min_eq_left (by omega), Nat.zero_add])
      clear BR BB d0 e0 d1 e1 d2 e2 d3 e3 u0 v0 u1 v1 zk zt
      by_cases hq0 : q ≤ 0
      · have k1 : (q ≤ 0) = True := eq_true hq0
        go_wp2
        go_roundw
        case rel => exact ⟨j + 1, by omega, by rw [Int.natCast_add]; rfl, by rw [HAT.out, if_pos hq0], hB5⟩
        case measure => simp [intOf]; omega
      · have k1 : (q ≤ 0) = False := eq_false hq0
        go_wp2
        go_roundw
        case rel => exact ⟨j + 1, by omega, by rw [Int.natCast_add]; rfl, by rw [HAT.out, if_neg hq0], hB5⟩
        case measure => simp [intOf]; omega
    · have p1 : ((j : Int) < (n : Int)) = False := eq_false (by omega)
      have p2 : (j < n) = False := eq_false hjn
      have HAT := Lib.hid (show m.at f t = av from by have := HAV.out; rw [List.take_of_length_le (by rw [HN.out]; omega)] at this; exact this)
      have hlt : av < n := by
        have := lastLe_le f t m.knots 0 0 (Nat.le_refl _) (.inl (by intro e; rw [← HN.out, e] at n0; simp at n0))
        have h2 := HAT.out
        unfold MapV.at at h2
        rw [h2, HN.out] at this
        omega
      have hal : av < m.knots.length := by rw [HN.out]; exact hlt
      obtain ⟨k, hk⟩ : ∃ k, m.knots[av] = k := ⟨_, rfl⟩
      have HKN := Lib.hid (show m.knot (m.at f t) = k from by unfold MapV.knot; rw [HAT.out, List.getD_eq_getElem?_getD, List.getElem?_eq_getElem hal]; exact hk)
      have hBw : Below w.heap.size w wr := HB.out.trans (Below.mono hBr (by omega))
      have a1 : (0 : Int) ≤ (av : Int) := by omega
      have a2 : ((av : Int) < (n : Int)) = True := eq_true (by omega)
      have a3 : (av < n) = True := eq_true hlt
      have KEEP := Lib.hid (fun (w_ : World) (h : Below w.heap.size w w_) => (by
        have hm := HM.out.below h
        obtain ⟨c0, _⟩ := Hand.hc3 hm.blk
        rw [HN.out] at c0
        obtain ⟨e0, e1, e2, e3⟩ := hm.kn av hal
        rw [hk] at e0 e1 e2 e3
        exact ⟨h, c0, e0, e1, e2, e3⟩ : Below w.heap.size w w_ ∧ w_.cell? ⟨p, 0, none⟩ = some (.slice (some ak) n ck) ∧ w_.cell? (ak.add (av * 4)) = some (.int .i64 k.1.1) ∧ w_.cell? ⟨(ak.add (av * 4)).block, (ak.add (av * 4)).off + 1, none⟩ = some (.int .i64 k.1.2) ∧ w_.cell? ⟨(ak.add (av * 4)).block, (ak.add (av * 4)).off + 2, none⟩ = some (.int .i64 k.2.1) ∧ w_.cell? ⟨(ak.add (av * 4)).block, (ak.add (av * 4)).off + 3, none⟩ = some (.int .i64 k.2.2)))
      obtain ⟨x0, fx0, x1, fx1, x2, fx2, x3, fx3⟩ := Hand.hc4 (Hand.kb hBr GK.out)
      obtain ⟨r0, fr0, r1, fr1⟩ := Hand.hc2 (Hand.kb hBr GR.out)
      have zr := (Hand.hz (Hand.kb hBr GR.out)).1
      have SLP := Lib.hid (fun (u : World) (h : Below w.heap.size w u) => slope_any p _ as_ m.slopes.length cs _ av m.slopes u (HM.out.below h).blk (HM.out.below h).sl rfl HO.out.s0 HO.out.s1 (by omega))
      obtain ⟨sv, hsv⟩ : ∃ sv, m.slopes.getD (min av (m.slopes.length - 1)) (0, 0) = sv := ⟨_, rfl⟩
      rw [hsv] at SLP
      have HSV := Lib.hid (show m.slope (m.at f t) = sv from by unfold MapV.slope; rw [HAT.out]; exact hsv)
      clear hsv hk
      go_wp2_with fail
      go_region_held3 (fun w_ => Below w.heap.size w w_ ∧ w_.cell? ⟨p, 0, none⟩ = some (.slice (some ak) n ck) ∧ w_.cell? (ak.add (av * 4)) = some (.int .i64 k.1.1) ∧ w_.cell? ⟨(ak.add (av * 4)).block, (ak.add (av * 4)).off + 1, none⟩ = some (.int .i64 k.1.2) ∧ w_.cell? ⟨(ak.add (av * 4)).block, (ak.add (av * 4)).off + 2, none⟩ = some (.int .i64 k.2.1) ∧ w_.cell? ⟨(ak.add (av * 4)).block, (ak.add (av * 4)).off + 3, none⟩ = some (.int .i64 k.2.2)) (first | (refine KEEP.out _ ?_; repeat (with_reducible first | assumption | apply Below.drew | refine Below.setCell ?_ (by dsimp only; omega) _))) (first | (go_at_call 86; ((with_reducible refine (SLP.out _ (by repeat (with_reducible first | assumption | apply Below.drew | refine Below.setCell ?_ (by dsimp only; omega) _))).mono ?_); rintro e w6 ⟨rfl, hb6⟩; have BB : Below w.heap.size w w6 := Hand.stepB hb6 (by repeat (with_reducible first | assumption | apply Below.drew | refine Below.setCell ?_ (by dsimp only; omega) _)) (by first | omega | (simp only [World.size_drew, World.size_setCell]; omega)); have g1 := Hand.kb hb6 (show _ = some (.cells #[.int .i64 0, .int .i64 0, .int .i64 0, .int .i64 0] 35 (0, 0)) from by first | exact Hand.kb hBr GK.out | (simp only [Hand.q5]; exact Hand.kb hBr GK.out)); have g2 := Hand.kb hb6 (show _ = some (.cells #[.int .i64 0, .int .i64 0] 31 (0, 0)) from by first | exact Hand.kb hBr GR.out | (simp only [Hand.q5]; exact Hand.kb hBr GR.out)); obtain ⟨xx0, fxx0, xx1, fxx1, xx2, fxx2, xx3, fxx3⟩ := Hand.hc4 g1; obtain ⟨rr0, frr0, rr1, frr1⟩ := Hand.hc2 g2)))
      go_wp2
      refine bodyPost_ret (results_cc rfl _ _ (w.heap.size + 1) (w.heap.size + 1 + 1) 35 31 #[.int .i64 k.1.1, .int .i64 k.1.2, .int .i64 k.2.1, .int .i64 k.2.2] #[.int .i64 sv.1, .int .i64 sv.2] (0, 0) (0, 0) _ _ rfl ?_ Try.underlying35 rfl (by kernel_rfl) rfl ?_ Try.underlying31 rfl (by kernel_rfl)) rfl ⟨by rw [HKN.out, HSV.out], ?_⟩
      · simp (disch := (first | omega | (simp only [World.size_alloc, World.size_drew, World.size_setCell]; first | done | omega))) only [Hand.q1, Hand.q2, g1]; rfl
      · simp (disch := (first | omega | (simp only [World.size_alloc, World.size_drew, World.size_setCell]; first | done | omega))) only [Hand.q1, Hand.q2, g2]; rfl
      · repeat (with_reducible first | exact BB | apply Below.drew | refine Below.setCell ?_ (by dsimp only; omega) _)
end Go.Proofs.Ythlpaglldhgmfaa.PA
