/- Chapter 6: the slopes between knots. -/
import Derived.Test.YthlpaglldhgmfaaRw6
import Derived.Deep.RegionHeld3
namespace Go.Proofs.Ythlpaglldhgmfaa.PA
open Go Go.RowKit Go.Proofs.YthlpaglldhgmfaaW.PrintWords Go.Proofs.YthlpaglldhgmfaaW.PrintLast Go.Proofs.YthlpaglldhgmfaaW.PrintMore
set_option linter.unusedSimpArgs false
set_option linter.unusedVariables false
set_option maxHeartbeats 1600000 in
set_option maxRecDepth 100000 in
theorem sls_many (ad : Addr) (l : List Kn) (n cap : Nat) (w : World) (hn : n = l.length) (hK : KnA w ad l) (hR : KnR l) (h0 : 2 ≤ n) (h1 : n ≤ 66) :
    Calls Try.prog 38 #[.slice (some ad) n cap] w fun e w' => ∃ g c, e = .returned (.tuple #[.slice (some ⟨g, 0, none⟩) (n - 1) c, .int .i64 (slpF l 0).2]) ∧ w'.ownsRow w.heap.size 31 2 (.slice (some ⟨g, 0, none⟩) (n - 1) c) (n - 1) (flatT (slpF l 0).1) ∧ Below w.heap.size w w' := by
  have b1 : ((n : Int) == 1) = false := by simp; omega
  have b2 : (n == 1) = false := by simp; omega
  have HN := Lib.hid hn
  have HK := Lib.hid hK
  have HR := Lib.hid hR
  clear hn hK hR
  go_enter Try.func38, Try.ntmps38
  go_wp2_with fail
  obtain ⟨W, hW⟩ : ∃ W_, W_ = w.alloc (.cells #[.int .i64 0] 72) := ⟨_, rfl⟩
  rw [← hW]
  have gS : W.heap[w.heap.size]? = some (stp 0) := by rw [hW]; exact Hand.q3 _ _ _ rfl
  have hBW : Below w.heap.size w W := by rw [hW]; exact (Below.refl _ _).alloc (Nat.le_refl _) _
  have hsz : W.heap.size = w.heap.size + 1 := by rw [hW]; simp only [World.size_alloc]
  have gs0 : w.heap.size < W.heap.size := by omega
  have HSZ := Lib.hid hsz
  clear hW hsz
  have GS := Lib.hid gS
  have HBW := Lib.hid hBW
  clear gS hBW
  go_loopw [4, 6] (fun v i wr => ∃ j : Nat, ∃ xs : List Rt, ∃ e : Int, j + 1 ≤ n ∧ i = .int .i64 ((j : Int) + 1) ∧ slpF (l.take (j + 1)) 0 = (xs, e) ∧ wr.ownsRow W.heap.size 31 2 v j (flatT xs) ∧ (0 < j → ∃ g c, v = .slice (some ⟨g, 0, none⟩) j c) ∧ wr.heap[w.heap.size]? = some (stp e) ∧ Fx w.heap.size W wr) (fun _ i _ => n - (intOf i).toNat)
  case atStart => exact ⟨0, [], 0, by omega, rfl, by cases l with | nil => rfl | cons a l => rfl, World.ownsRow_nil _ _ _ _, fun h => absurd h (Nat.lt_irrefl _), GS.out, Fx.refl _ _⟩
  case round =>
    obtain ⟨j, xs, e, hj, rfl, hxs, hown, hval, hst, hF⟩ := hrel
    have HXS := Lib.hid hxs
    have HOWN := Lib.hid hown
    have HVAL := Lib.hid hval
    clear hxs hown hval
    by_cases hjn : j + 1 < n
    · have p1 : ((j : Int) + 1 < (n : Int)) = True := eq_true (by omega)
      have hjl : j + 1 < l.length := by rw [← HN.out]; exact hjn
      have hBr : Below w.heap.size w wr := hF.below HBW.out (Nat.le_refl _) HBW.out.size
      have gzr : w.heap.size < wr.heap.size := (Hand.hz hst).1
      obtain ⟨c0, c1, c2, c3⟩ := (HK.out.below hBr) j (by omega)
      obtain ⟨d0, d1, d2, d3⟩ := (HK.out.below hBr) (j + 1) hjl
      have hra := HR.out _ (List.getElem_mem (show j < l.length by omega))
      have hrb := HR.out _ (List.getElem_mem hjl)
      have HSTEP := Lib.hid (slpF_take l j hjl 0)
      obtain ⟨⟨⟨a1, a2⟩, a3, a4⟩, hka⟩ : ∃ k, l[j] = k := ⟨_, rfl⟩
      obtain ⟨⟨⟨b1_, b2_⟩, b3, b4⟩, hkb⟩ : ∃ k, l[j + 1] = k := ⟨_, rfl⟩
      rw [hka, hkb] at HSTEP
      rw [HXS.out] at HSTEP
      rw [hka] at c0 c1 c2 c3 hra
      rw [hkb] at d0 d1 d2 d3 hrb
      dsimp only at c0 c1 c2 c3 d0 d1 d2 d3
      clear hka hkb
      obtain ⟨⟨⟨x1, x2⟩, e1⟩, hX⟩ : ∃ X, doS rSub e (b3, b4) (a3, a4) = X := ⟨_, rfl⟩
      obtain ⟨⟨⟨y1, y2⟩, e2⟩, hY⟩ : ∃ X, doS rSub e1 (b1_, b2_) (a1, a2) = X := ⟨_, rfl⟩
      obtain ⟨⟨⟨z1, z2⟩, e3⟩, hZ⟩ : ∃ X, doS rDiv e2 (x1, x2) (y1, y2) = X := ⟨_, rfl⟩
      have HP := Lib.hid (show pieceS e ((a1, a2), (a3, a4)) ((b1_, b2_), (b3, b4)) = ((z1, z2), e3) from by unfold pieceS; dsimp only; rw [hX]; dsimp only; rw [hY]; exact hZ)
      have rx : R64 (x1, x2) := by have := do_R sub_R e (b3, b4) (a3, a4); rw [hX] at this; exact this
      have ry : R64 (y1, y2) := by have := do_R sub_R e1 (b1_, b2_) (a1, a2); rw [hY] at this; exact this
      have M1 := Lib.hid (fun (u : World) (h : u.heap[w.heap.size]? = some (stp e)) => (by have := do_any w.heap.size 43 rSub e (b3, b4) (a3, a4) u h ent_sub (fun _ => f_sub hrb.2 hra.2); rw [hX] at this; exact this : Calls Try.prog 42 #[.pointer (some ⟨w.heap.size, 0, none⟩), fnv 43, .agg #[.int .i64 b3, .int .i64 b4], .agg #[.int .i64 a3, .int .i64 a4]] u fun e_ w' => e_ = .returned (.agg #[.int .i64 x1, .int .i64 x2]) ∧ w'.heap[w.heap.size]? = some (stp e1) ∧ Fx w.heap.size u w'))
      have M2 := Lib.hid (fun (u : World) (h : u.heap[w.heap.size]? = some (stp e1)) => (by have := do_any w.heap.size 43 rSub e1 (b1_, b2_) (a1, a2) u h ent_sub (fun _ => f_sub hrb.1 hra.1); rw [hY] at this; exact this : Calls Try.prog 42 #[.pointer (some ⟨w.heap.size, 0, none⟩), fnv 43, .agg #[.int .i64 b1_, .int .i64 b2_], .agg #[.int .i64 a1, .int .i64 a2]] u fun e_ w' => e_ = .returned (.agg #[.int .i64 y1, .int .i64 y2]) ∧ w'.heap[w.heap.size]? = some (stp e2) ∧ Fx w.heap.size u w'))
      have M3 := Lib.hid (fun (u : World) (h : u.heap[w.heap.size]? = some (stp e2)) => (by have := do_any w.heap.size 63 rDiv e2 (x1, x2) (y1, y2) u h ent_div (fun _ => f_div rx ry); rw [hZ] at this; exact this : Calls Try.prog 42 #[.pointer (some ⟨w.heap.size, 0, none⟩), fnv 63, .agg #[.int .i64 x1, .int .i64 x2], .agg #[.int .i64 y1, .int .i64 y2]] u fun e_ w' => e_ = .returned (.agg #[.int .i64 z1, .int .i64 z2]) ∧ w'.heap[w.heap.size]? = some (stp e3) ∧ Fx w.heap.size u w'))
      clear hX hY hZ rx ry hra hrb
      have w1 : IntKind.i64.wrap ((j : Int) + 1 - 1) = (j : Int) := by rw [IntKind.wrap_i64]; omega
      have w2 : IntKind.i64.wrap (j : Int) = (j : Int) := by rw [IntKind.wrap_i64]; omega
      have p3 : (0 : Int) ≤ (j : Int) + 1 := by omega
      have p4 : ((j : Int) < (n : Int)) = True := eq_true (by omega)
      have p5 : (0 : Int) ≤ (j : Int) := by omega
      have p6 : (j < n) = True := eq_true (by omega)
      have p7 : (j + 1 < n) = True := eq_true (by omega)
      have zb0 : ∀ p u, w.cell? p = some u → p.block < w.heap.size := fun p u h => World.block_lt_of_cell? w _ h
      have KC := Lib.hid (fun (w_ : World) (h : Fx w.heap.size W w_) => (by have hB := h.below HBW.out (Nat.le_refl _) HBW.out.size; have st : ∀ p v, (∃ u, w.cell? p = some u) → wr.cell? p = some v → w_.cell? p = some v := (fun p v ⟨u, hu⟩ hp => (hB.cell (zb0 p u hu)).trans ((hBr.cell (zb0 p u hu)).symm.trans hp)); obtain ⟨k0, k1, k2, k3⟩ := HK.out j (by omega); obtain ⟨l0, l1, l2, l3⟩ := HK.out (j + 1) hjl; exact ⟨st _ _ ⟨_, l2⟩ d2, st _ _ ⟨_, l3⟩ d3, st _ _ ⟨_, k2⟩ c2, st _ _ ⟨_, k3⟩ c3, st _ _ ⟨_, l0⟩ d0, st _ _ ⟨_, l1⟩ d1, st _ _ ⟨_, k0⟩ c0, st _ _ ⟨_, k1⟩ c1⟩ : w_.cell? ⟨(ad.add ((j + 1) * 4)).block, (ad.add ((j + 1) * 4)).off + 2, none⟩ = some (.int .i64 b3) ∧ w_.cell? ⟨(ad.add ((j + 1) * 4)).block, (ad.add ((j + 1) * 4)).off + 3, none⟩ = some (.int .i64 b4) ∧ w_.cell? ⟨(ad.add (j * 4)).block, (ad.add (j * 4)).off + 2, none⟩ = some (.int .i64 a3) ∧ w_.cell? ⟨(ad.add (j * 4)).block, (ad.add (j * 4)).off + 3, none⟩ = some (.int .i64 a4) ∧ w_.cell? (ad.add ((j + 1) * 4)) = some (.int .i64 b1_) ∧ w_.cell? ⟨(ad.add ((j + 1) * 4)).block, (ad.add ((j + 1) * 4)).off + 1, none⟩ = some (.int .i64 b2_) ∧ w_.cell? (ad.add (j * 4)) = some (.int .i64 a1) ∧ w_.cell? ⟨(ad.add (j * 4)).block, (ad.add (j * 4)).off + 1, none⟩ = some (.int .i64 a2)))
      have HKEEP := Lib.hid (fun (w_ : World) (h : Fx w.heap.size wr w_) => (by obtain ⟨o1, o2, o3, o4, _⟩ := KC.out w_ (hF.trans h); exact ⟨h, o1, o2, o3, o4⟩ : Fx w.heap.size wr w_ ∧ w_.cell? ⟨(ad.add ((j + 1) * 4)).block, (ad.add ((j + 1) * 4)).off + 2, none⟩ = some (.int .i64 b3) ∧ w_.cell? ⟨(ad.add ((j + 1) * 4)).block, (ad.add ((j + 1) * 4)).off + 3, none⟩ = some (.int .i64 b4) ∧ w_.cell? ⟨(ad.add (j * 4)).block, (ad.add (j * 4)).off + 2, none⟩ = some (.int .i64 a3) ∧ w_.cell? ⟨(ad.add (j * 4)).block, (ad.add (j * 4)).off + 3, none⟩ = some (.int .i64 a4)))
      have BR : Fx w.heap.size wr wr := Fx.refl _ _
      clear c0 c1 c2 c3 d0 d1 d2 d3
      go_wp2_with fail
      go_region_held3 (fun w_ => Fx w.heap.size wr w_ ∧ w_.cell? ⟨(ad.add ((j + 1) * 4)).block, (ad.add ((j + 1) * 4)).off + 2, none⟩ = some (.int .i64 b3) ∧ w_.cell? ⟨(ad.add ((j + 1) * 4)).block, (ad.add ((j + 1) * 4)).off + 3, none⟩ = some (.int .i64 b4) ∧ w_.cell? ⟨(ad.add (j * 4)).block, (ad.add (j * 4)).off + 2, none⟩ = some (.int .i64 a3) ∧ w_.cell? ⟨(ad.add (j * 4)).block, (ad.add (j * 4)).off + 3, none⟩ = some (.int .i64 a4)) (first | (refine HKEEP.out _ ?_; repeat (with_reducible first | assumption | apply Fx.drew | apply Fx.alloc | refine Fx.setNew ?_ (by first | omega | (simp only [World.size_alloc, World.size_drew]; omega)) _ _))) (first | (go_at_call 42; ((with_reducible refine (M1.out _ (by first | assumption | (simp (disch := (first | omega | (simp only [World.size_alloc, World.size_drew, World.size_setCell]; first | done | omega))) only [Hand.q5, Hand.q4]; assumption))).mono ?_); rintro e w4 ⟨rfl, hx_w4, hF_w4⟩; have BB : Fx w.heap.size wr w4 := Fx.trans (by repeat (with_reducible first | assumption | apply Fx.drew | apply Fx.alloc | refine Fx.setNew ?_ (by first | omega | (simp only [World.size_alloc, World.size_drew]; omega)) _ _)) hF_w4; have zB_w4 := BB.size; obtain ⟨cs, fs⟩ := Hand.hc1 hx_w4; obtain ⟨sz0, sz1, sz2, sy0, sy1⟩ := Hand.hz hx_w4; (try (have nx := hF_w4.kb (k := wr.heap.size) (o := .cells #[.int .i64 0, .int .i64 0] 31 (0, 0)) (by first | (exact Hand.q3 _ _ _ rfl) | (simp (disch := (first | omega | (simp only [World.size_alloc, World.size_drew, World.size_setCell]; first | done | omega))) only [Hand.q5, Hand.q4, Hand.q3]; done) | fail) (by omega); obtain ⟨nc0, nf0, nc1, nf1⟩ := Hand.hc2 nx; obtain ⟨nz0, nz1, nz2, ny0, ny1⟩ := Hand.hz nx; have ne1 : (wr.heap.size = w.heap.size) = False := eq_false (by omega); have ne2 : (w.heap.size = wr.heap.size) = False := eq_false (by omega))))))
      · have hF4 : Fx w.heap.size W w4 := hF.trans BB
        have own4 := own_fx HOWN.out BB gs0
        obtain ⟨V, hV⟩ : ∃ V_, V_ = w4.alloc (.cells #[.int .i64 x1, .int .i64 x2] 31) := ⟨_, rfl⟩
        rw [← hV]
        have vX : V.heap[w4.heap.size]? = some (.cells #[.int .i64 x1, .int .i64 x2] 31 (0, 0)) := by rw [hV]; exact Hand.q3 _ _ _ rfl
        have vS : V.heap[w.heap.size]? = some (stp e1) := by rw [hV]; simp (disch := (first | omega | (simp only [World.size_alloc, World.size_drew, World.size_setCell]; first | done | omega))) only [Hand.q2, Hand.q4, hx_w4]
        have vF : Fx w.heap.size W V := by rw [hV]; repeat (with_reducible first | exact hF4 | refine Fx.setNew ?_ (by have := hF.size; omega) _ _ | apply Fx.alloc)
        have vO : V.ownsRow W.heap.size 31 2 u4 j (flatT xs) := own_keep own4 (fun k hk => by have hl := HOWN.out.lt k hk; have := BB.size; rw [hV]; simp (disch := (first | omega | (simp only [World.size_alloc, World.size_drew, World.size_setCell]; first | done | omega))) only [Hand.q2, Hand.q4])
        have vN : ∀ k, u4.ownBlock = some k → k ≠ w4.heap.size := fun k hk => by have hl := HOWN.out.lt k hk; have := BB.size; omega
        have vZ : w.heap.size < w4.heap.size := by have := BB.size; omega
        obtain ⟨gx, hgx⟩ : ∃ gx, gx = w4.heap.size := ⟨_, rfl⟩
        rw [← hgx] at vX vN vZ ⊢
        have VX := Lib.hid vX
        have VS := Lib.hid vS
        have VF := Lib.hid vF
        have VO := Lib.hid vO
        have VN := Lib.hid vN
        clear hV hgx vX vS vF vO vN HKEEP BB hF4 own4 hF_w4 hx_w4 cs fs sz0 sz1 sz2 sy0 sy1 zB_w4 BR
        obtain ⟨u0, f0, u1, f1⟩ := Hand.hc2 VX.out
        have vxz := (Hand.hz VX.out).1
        have KEEP9 := Lib.hid (fun (w_ : World) (h : Fx w.heap.size V w_) => (by obtain ⟨_, _, _, _, o1, o2, o3, o4⟩ := KC.out w_ (VF.out.trans h); exact ⟨VF.out.trans h, o1, o2, o3, o4, (h.cell _ vxz (by dsimp only; omega)).trans u0, (h.cell _ vxz (by dsimp only; omega)).trans u1⟩ : Fx w.heap.size W w_ ∧ w_.cell? (ad.add ((j + 1) * 4)) = some (.int .i64 b1_) ∧ w_.cell? ⟨(ad.add ((j + 1) * 4)).block, (ad.add ((j + 1) * 4)).off + 1, none⟩ = some (.int .i64 b2_) ∧ w_.cell? (ad.add (j * 4)) = some (.int .i64 a1) ∧ w_.cell? ⟨(ad.add (j * 4)).block, (ad.add (j * 4)).off + 1, none⟩ = some (.int .i64 a2) ∧ w_.cell? ⟨gx, 0, none⟩ = some (.int .i64 x1) ∧ w_.cell? ⟨gx, 1, none⟩ = some (.int .i64 x2)))
        have GROW9 := Lib.hid (fun (a_ w_ : World) (h : Fx w.heap.size V a_) (hg : a_.grownBy w_ u4.ownBlock) => (by have hW2 := Fx.grown (VF.out.trans h) hg (fun k hk => (VO.out.lt k hk).1); obtain ⟨_, _, _, _, o1, o2, o3, o4⟩ := KC.out w_ hW2; have sz := h.size; have ng : some gx ≠ u4.ownBlock := (fun e => VN.out gx e.symm rfl); exact ⟨hW2, o1, o2, o3, o4, (World.grownBy.cell hg ((h.cell _ vxz (by dsimp only; omega)).trans u0) ng), (World.grownBy.cell hg ((h.cell _ vxz (by dsimp only; omega)).trans u1) ng)⟩ : Fx w.heap.size W w_ ∧ w_.cell? (ad.add ((j + 1) * 4)) = some (.int .i64 b1_) ∧ w_.cell? ⟨(ad.add ((j + 1) * 4)).block, (ad.add ((j + 1) * 4)).off + 1, none⟩ = some (.int .i64 b2_) ∧ w_.cell? (ad.add (j * 4)) = some (.int .i64 a1) ∧ w_.cell? ⟨(ad.add (j * 4)).block, (ad.add (j * 4)).off + 1, none⟩ = some (.int .i64 a2) ∧ w_.cell? ⟨gx, 0, none⟩ = some (.int .i64 x1) ∧ w_.cell? ⟨gx, 1, none⟩ = some (.int .i64 x2)))
        have BV : Fx w.heap.size V V := Fx.refl _ _
        have vsS := VS.out
        go_wp2_with fail
        go_region_held3 (fun w_ => Fx w.heap.size W w_ ∧ w_.cell? (ad.add ((j + 1) * 4)) = some (.int .i64 b1_) ∧ w_.cell? ⟨(ad.add ((j + 1) * 4)).block, (ad.add ((j + 1) * 4)).off + 1, none⟩ = some (.int .i64 b2_) ∧ w_.cell? (ad.add (j * 4)) = some (.int .i64 a1) ∧ w_.cell? ⟨(ad.add (j * 4)).block, (ad.add (j * 4)).off + 1, none⟩ = some (.int .i64 a2) ∧ w_.cell? ⟨gx, 0, none⟩ = some (.int .i64 x1) ∧ w_.cell? ⟨gx, 1, none⟩ = some (.int .i64 x2)) (first | exact GROW9.out _ _ FB hgrow | (refine KEEP9.out _ ?_; repeat (with_reducible first | assumption | apply Fx.drew | apply Fx.alloc | refine Fx.setNew ?_ (by first | omega | (simp only [World.size_alloc, World.size_drew]; omega)) _ _))) (first | (go_at_call 42; ((with_reducible refine (M2.out _ (by first | assumption | (simp (disch := (first | omega | (simp only [World.size_alloc, World.size_drew, World.size_setCell]; first | done | omega))) only [Hand.q5, Hand.q4]; assumption))).mono ?_); rintro e w5 ⟨rfl, hx_w5, hF_w5⟩; have BB : Fx w.heap.size V w5 := Fx.trans (by repeat (with_reducible first | assumption | apply Fx.drew | apply Fx.alloc | refine Fx.setNew ?_ (by first | omega | (simp only [World.size_alloc, World.size_drew]; omega)) _ _)) hF_w5; have zB_w5 := BB.size; obtain ⟨cs, fs⟩ := Hand.hc1 hx_w5; obtain ⟨sz0, sz1, sz2, sy0, sy1⟩ := Hand.hz hx_w5)) | (go_at_call 42; ((with_reducible refine (M3.out _ (by first | assumption | (simp (disch := (first | omega | (simp only [World.size_alloc, World.size_drew, World.size_setCell]; first | done | omega))) only [Hand.q5, Hand.q4]; assumption))).mono ?_); rintro e w6 ⟨rfl, hx_w6, hF_w6⟩; have BB : Fx w.heap.size V w6 := Fx.trans (by repeat (with_reducible first | assumption | apply Fx.drew | apply Fx.alloc | refine Fx.setNew ?_ (by first | omega | (simp only [World.size_alloc, World.size_drew]; omega)) _ _)) hF_w6; have zB_w6 := BB.size; obtain ⟨cs, fs⟩ := Hand.hc1 hx_w6; obtain ⟨sz0, sz1, sz2, sy0, sy1⟩ := Hand.hz hx_w6)) | (refine step_append_lies _ rfl (.tmp 31) (.tmp 46) 23 rfl W.heap.size 31 _ (.agg #[.int .i64 0, .int .i64 0]) 2 16 Try.underlying23 rfl rfl rfl rfl rfl (by decide) u4 j (flatT xs) rfl (own_fx (own_fx VO.out BB gs0) (Fx.alloc (Fx.refl _ _) _) gs0) ⟨w6.heap.size, 0, none⟩ 1 1 [.int .i64 z1, .int .i64 z2] rfl rfl (World.news_of_block (Hand.q3 _ _ _ rfl)) (by intro u hu; simp at hu; rcases hu with rfl | rfl <;> rfl) (by decide) (by unfold maxLen; omega) (by omega) (by have := VF.out.size; have := BB.size; simp only [World.size_alloc]; omega) _ rfl ?_; intro go_g go_c w7 hown hgrow hat hlt; have FB : Fx w.heap.size V (w6.alloc (.cells #[.int .i64 z1, .int .i64 z2] 31)) := Fx.alloc BB _))
        have hst7 : w7.heap[w.heap.size]? = some (stp e3) := by rw [hgrow.block _ (by have := zB_w6; simp only [World.size_alloc]; omega) (fun h => by have := VO.out.lt _ h.symm; omega)]; simp (disch := (first | omega | (simp only [World.size_alloc, World.size_drew, World.size_setCell]; first | done | omega))) only [Hand.q4, hx_w6]
        have hF7 := Fx.grown (VF.out.trans FB) hgrow (fun k hk => (VO.out.lt k hk).1)
        go_wp2
        go_roundw
        case rel => exact ⟨j + 1, xs ++ [(z1, z2)], e3, by omega, by rw [Int.natCast_add]; rfl, by rw [HSTEP.out, HP.out], by rw [flatT_snoc]; exact hown, fun _ => ⟨_, _, rfl⟩, hst7, hF7⟩
        case measure => simp [intOf]; omega
      · have hF4 : Fx w.heap.size W w4 := hF.trans BB
        have own4 := own_fx HOWN.out BB gs0
        obtain ⟨V, hV⟩ : ∃ V_, V_ = (w4.setCell ⟨wr.heap.size, 0, none⟩ (.int .i64 x1)).setCell ⟨wr.heap.size, 1, none⟩ (.int .i64 x2) := ⟨_, rfl⟩
        rw [← hV]
        have vX : V.heap[wr.heap.size]? = some (.cells #[.int .i64 x1, .int .i64 x2] 31 (0, 0)) := by rw [hV]; simp (disch := (first | omega | (simp only [World.size_alloc, World.size_drew, World.size_setCell]; first | done | omega))) only [Hand.q1, nx]; rfl
        have vS : V.heap[w.heap.size]? = some (stp e1) := by rw [hV]; simp (disch := (first | omega | (simp only [World.size_alloc, World.size_drew, World.size_setCell]; first | done | omega))) only [Hand.q2, Hand.q4, hx_w4]
        have vF : Fx w.heap.size W V := by rw [hV]; repeat (with_reducible first | exact hF4 | refine Fx.setNew ?_ (by have := hF.size; omega) _ _ | apply Fx.alloc)
        have vO : V.ownsRow W.heap.size 31 2 u4 j (flatT xs) := own_keep own4 (fun k hk => by have hl := HOWN.out.lt k hk; have := BB.size; rw [hV]; simp (disch := (first | omega | (simp only [World.size_alloc, World.size_drew, World.size_setCell]; first | done | omega))) only [Hand.q2, Hand.q4])
        have vN : ∀ k, u4.ownBlock = some k → k ≠ wr.heap.size := fun k hk => by have hl := HOWN.out.lt k hk; have := BB.size; omega
        have vZ : w.heap.size < wr.heap.size := by have := BB.size; omega
        obtain ⟨gx, hgx⟩ : ∃ gx, gx = wr.heap.size := ⟨_, rfl⟩
        rw [← hgx] at vX vN vZ ⊢
        have VX := Lib.hid vX
        have VS := Lib.hid vS
        have VF := Lib.hid vF
        have VO := Lib.hid vO
        have VN := Lib.hid vN
        clear hV hgx vX vS vF vO vN HKEEP BB hF4 own4 hF_w4 hx_w4 cs fs sz0 sz1 sz2 sy0 sy1 zB_w4 BR
        clear nx nc0 nf0 nc1 nf1 nz0 nz1 nz2 ny0 ny1 ne1 ne2
        obtain ⟨u0, f0, u1, f1⟩ := Hand.hc2 VX.out
        have vxz := (Hand.hz VX.out).1
        have KEEP9 := Lib.hid (fun (w_ : World) (h : Fx w.heap.size V w_) => (by obtain ⟨_, _, _, _, o1, o2, o3, o4⟩ := KC.out w_ (VF.out.trans h); exact ⟨VF.out.trans h, o1, o2, o3, o4, (h.cell _ vxz (by dsimp only; omega)).trans u0, (h.cell _ vxz (by dsimp only; omega)).trans u1⟩ : Fx w.heap.size W w_ ∧ w_.cell? (ad.add ((j + 1) * 4)) = some (.int .i64 b1_) ∧ w_.cell? ⟨(ad.add ((j + 1) * 4)).block, (ad.add ((j + 1) * 4)).off + 1, none⟩ = some (.int .i64 b2_) ∧ w_.cell? (ad.add (j * 4)) = some (.int .i64 a1) ∧ w_.cell? ⟨(ad.add (j * 4)).block, (ad.add (j * 4)).off + 1, none⟩ = some (.int .i64 a2) ∧ w_.cell? ⟨gx, 0, none⟩ = some (.int .i64 x1) ∧ w_.cell? ⟨gx, 1, none⟩ = some (.int .i64 x2)))
        have GROW9 := Lib.hid (fun (a_ w_ : World) (h : Fx w.heap.size V a_) (hg : a_.grownBy w_ u4.ownBlock) => (by have hW2 := Fx.grown (VF.out.trans h) hg (fun k hk => (VO.out.lt k hk).1); obtain ⟨_, _, _, _, o1, o2, o3, o4⟩ := KC.out w_ hW2; have sz := h.size; have ng : some gx ≠ u4.ownBlock := (fun e => VN.out gx e.symm rfl); exact ⟨hW2, o1, o2, o3, o4, (World.grownBy.cell hg ((h.cell _ vxz (by dsimp only; omega)).trans u0) ng), (World.grownBy.cell hg ((h.cell _ vxz (by dsimp only; omega)).trans u1) ng)⟩ : Fx w.heap.size W w_ ∧ w_.cell? (ad.add ((j + 1) * 4)) = some (.int .i64 b1_) ∧ w_.cell? ⟨(ad.add ((j + 1) * 4)).block, (ad.add ((j + 1) * 4)).off + 1, none⟩ = some (.int .i64 b2_) ∧ w_.cell? (ad.add (j * 4)) = some (.int .i64 a1) ∧ w_.cell? ⟨(ad.add (j * 4)).block, (ad.add (j * 4)).off + 1, none⟩ = some (.int .i64 a2) ∧ w_.cell? ⟨gx, 0, none⟩ = some (.int .i64 x1) ∧ w_.cell? ⟨gx, 1, none⟩ = some (.int .i64 x2)))
        have BV : Fx w.heap.size V V := Fx.refl _ _
        have vsS := VS.out
        go_wp2_with fail
        go_region_held3 (fun w_ => Fx w.heap.size W w_ ∧ w_.cell? (ad.add ((j + 1) * 4)) = some (.int .i64 b1_) ∧ w_.cell? ⟨(ad.add ((j + 1) * 4)).block, (ad.add ((j + 1) * 4)).off + 1, none⟩ = some (.int .i64 b2_) ∧ w_.cell? (ad.add (j * 4)) = some (.int .i64 a1) ∧ w_.cell? ⟨(ad.add (j * 4)).block, (ad.add (j * 4)).off + 1, none⟩ = some (.int .i64 a2) ∧ w_.cell? ⟨gx, 0, none⟩ = some (.int .i64 x1) ∧ w_.cell? ⟨gx, 1, none⟩ = some (.int .i64 x2)) (first | exact GROW9.out _ _ FB hgrow | (refine KEEP9.out _ ?_; repeat (with_reducible first | assumption | apply Fx.drew | apply Fx.alloc | refine Fx.setNew ?_ (by first | omega | (simp only [World.size_alloc, World.size_drew]; omega)) _ _))) (first | (go_at_call 42; ((with_reducible refine (M2.out _ (by first | assumption | (simp (disch := (first | omega | (simp only [World.size_alloc, World.size_drew, World.size_setCell]; first | done | omega))) only [Hand.q5, Hand.q4]; assumption))).mono ?_); rintro e w5 ⟨rfl, hx_w5, hF_w5⟩; have BB : Fx w.heap.size V w5 := Fx.trans (by repeat (with_reducible first | assumption | apply Fx.drew | apply Fx.alloc | refine Fx.setNew ?_ (by first | omega | (simp only [World.size_alloc, World.size_drew]; omega)) _ _)) hF_w5; have zB_w5 := BB.size; obtain ⟨cs, fs⟩ := Hand.hc1 hx_w5; obtain ⟨sz0, sz1, sz2, sy0, sy1⟩ := Hand.hz hx_w5)) | (go_at_call 42; ((with_reducible refine (M3.out _ (by first | assumption | (simp (disch := (first | omega | (simp only [World.size_alloc, World.size_drew, World.size_setCell]; first | done | omega))) only [Hand.q5, Hand.q4]; assumption))).mono ?_); rintro e w6 ⟨rfl, hx_w6, hF_w6⟩; have BB : Fx w.heap.size V w6 := Fx.trans (by repeat (with_reducible first | assumption | apply Fx.drew | apply Fx.alloc | refine Fx.setNew ?_ (by first | omega | (simp only [World.size_alloc, World.size_drew]; omega)) _ _)) hF_w6; have zB_w6 := BB.size; obtain ⟨cs, fs⟩ := Hand.hc1 hx_w6; obtain ⟨sz0, sz1, sz2, sy0, sy1⟩ := Hand.hz hx_w6)) | (refine step_append_lies _ rfl (.tmp 31) (.tmp 46) 23 rfl W.heap.size 31 _ (.agg #[.int .i64 0, .int .i64 0]) 2 16 Try.underlying23 rfl rfl rfl rfl rfl (by decide) u4 j (flatT xs) rfl (own_fx (own_fx VO.out BB gs0) (Fx.alloc (Fx.refl _ _) _) gs0) ⟨w6.heap.size, 0, none⟩ 1 1 [.int .i64 z1, .int .i64 z2] rfl rfl (World.news_of_block (Hand.q3 _ _ _ rfl)) (by intro u hu; simp at hu; rcases hu with rfl | rfl <;> rfl) (by decide) (by unfold maxLen; omega) (by omega) (by have := VF.out.size; have := BB.size; simp only [World.size_alloc]; omega) _ rfl ?_; intro go_g go_c w7 hown hgrow hat hlt; have FB : Fx w.heap.size V (w6.alloc (.cells #[.int .i64 z1, .int .i64 z2] 31)) := Fx.alloc BB _))
        have hst7 : w7.heap[w.heap.size]? = some (stp e3) := by rw [hgrow.block _ (by have := zB_w6; simp only [World.size_alloc]; omega) (fun h => by have := VO.out.lt _ h.symm; omega)]; simp (disch := (first | omega | (simp only [World.size_alloc, World.size_drew, World.size_setCell]; first | done | omega))) only [Hand.q4, hx_w6]
        have hF7 := Fx.grown (VF.out.trans FB) hgrow (fun k hk => (VO.out.lt k hk).1)
        go_wp2
        go_roundw
        case rel => exact ⟨j + 1, xs ++ [(z1, z2)], e3, by omega, by rw [Int.natCast_add]; rfl, by rw [HSTEP.out, HP.out], by rw [flatT_snoc]; exact hown, fun _ => ⟨_, _, rfl⟩, hst7, hF7⟩
        case measure => simp [intOf]; omega
    · have p1 : ((j : Int) + 1 < (n : Int)) = False := eq_false (by omega)
      obtain ⟨go_g, go_c, rfl⟩ := HVAL.out (by omega)
      have hBr : Below w.heap.size w wr := hF.below HBW.out (Nat.le_refl _) HBW.out.size
      obtain ⟨cs, fs⟩ := Hand.hc1 hst
      have HLX := Lib.hid (show slpF l 0 = (xs, e) from by have := HXS.out; rwa [List.take_of_length_le (by rw [← HN.out]; omega)] at this)
      have HJ := Lib.hid (show j = n - 1 from by omega)
      go_wp2_with fail
      go_region_held3 (fun w_ => w_.cell? ⟨w.heap.size, 0, none⟩ = some (.int .i64 e)) (first | exact cs | go_keep) (first | fail)
      go_wp2
      go_ret2
      rw [HLX.out, ← HJ.out]
      exact ⟨go_g, go_c, rfl, own_base (own_keep HOWN.out fun k hk => rfl) (by omega), hBr.drew⟩
set_option maxHeartbeats 800000 in
set_option maxRecDepth 100000 in
theorem whole_any (n : Int) (w : World) : Calls Try.prog 41 #[.int .i64 n] w fun e w' => e = .returned (rv (n, 1)) ∧ Below w.heap.size w w' := by
  go_enter Try.func41, Try.ntmps41
  go_wp2
  refine bodyPost_ret (results_cell_row rfl _ _ (w.heap.size) 31 #[.int .i64 n, .int .i64 1] (0, 0) _ rfl (Hand.q3 _ _ _ (by simp)) Try.underlying31 rfl (by kernel_rfl)) rfl ⟨rfl, ?_⟩
  exact (Below.refl _ _).alloc (Nat.le_refl _) _
set_option maxHeartbeats 800000 in
set_option maxRecDepth 100000 in
theorem sls_one (A : Option Addr) (cap : Nat) (w : World) :
    Calls Try.prog 38 #[.slice A 1 cap] w fun e w' => ∃ g c, e = .returned (.tuple #[.slice (some ⟨g, 0, none⟩) 1 c, .int .i64 0]) ∧ w'.ownsRow w.heap.size 31 2 (.slice (some ⟨g, 0, none⟩) 1 c) 1 (flatT [(1, 1)]) ∧ Below w.heap.size w w' := by
  have M1 := Lib.hid (fun w => whole_any 1 w)
  go_enter Try.func38, Try.ntmps38
  go_wp2_with fail
  with_reducible refine (M1.out _).mono ?_
  rintro e w1 ⟨rfl, hb1⟩
  go_wp2
  go_ret2
  refine ⟨_, _, rfl, ⟨rfl, .inr ⟨_, _, _, rfl, hb1.size, Hand.q3 _ _ _ rfl, by decide, by decide, rfl, rfl⟩⟩, hb1.alloc hb1.size _⟩
theorem slopesS_len (l : List Kn) (h : 0 < l.length) : (slopesS l).1.length = max 1 (l.length - 1) := by
  unfold slopesS
  by_cases h1 : l.length = 1
  · rw [if_pos h1, h1]; rfl
  · rw [if_neg h1, slpF_len]; omega
theorem slopesS_R (l : List Kn) : ∀ s ∈ (slopesS l).1, R64 s := by
  unfold slopesS
  by_cases h1 : l.length = 1
  · rw [if_pos h1]; intro s hs; simp at hs; rw [hs]; exact ⟨by decide, by decide, by decide, by decide⟩
  · rw [if_neg h1]; exact slpF_R l 0
theorem sls_any (ad : Addr) (l : List Kn) (cap : Nat) (w : World) (hK : KnA w ad l) (hR : KnR l) (h0 : 0 < l.length) (h1 : l.length ≤ 66) :
    Calls Try.prog 38 #[.slice (some ad) l.length cap] w fun e w' => ∃ g c, e = .returned (.tuple #[.slice (some ⟨g, 0, none⟩) (slopesS l).1.length c, .int .i64 (slopesS l).2]) ∧ w'.ownsRow w.heap.size 31 2 (.slice (some ⟨g, 0, none⟩) (slopesS l).1.length c) (slopesS l).1.length (flatT (slopesS l).1) ∧ Below w.heap.size w w' := by
  rw [slopesS_len l h0]
  unfold slopesS
  by_cases h : l.length = 1
  · rw [if_pos h, h]; exact sls_one _ cap w
  · rw [if_neg h, show max 1 (l.length - 1) = l.length - 1 by omega]
    exact sls_many ad l l.length cap w rfl hK hR (by omega) h1
end Go.Proofs.Ythlpaglldhgmfaa.PA
