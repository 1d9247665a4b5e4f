/- Chapter 6: slices.Grow, Concat, Clone. -/
import Derived.Test.YthlpaglldhgmfaaRw6
import Derived.Lib.AppendZerosOnto
import Derived.Lib.SliceRun
import Derived.Lib.Walk
namespace Go.Proofs.Ythlpaglldhgmfaa.PA
open Go Go.RowKit Go.Proofs.YthlpaglldhgmfaaW.PrintWords Go.Proofs.YthlpaglldhgmfaaW.PrintLast Go.Proofs.YthlpaglldhgmfaaW.PrintMore
set_option linter.unusedSimpArgs false
set_option linter.unusedVariables false
set_option maxHeartbeats 1600000 in
set_option maxRecDepth 100000 in
theorem growK (n : Nat) (h0 : 0 < n) (h1 : n ≤ 1000000) (w : World) :
    Calls Try.prog 85 #[.slice none 0 0, .int .i64 n] w fun e w' => ∃ g cap, e = .returned (.slice (some ⟨g, 0, none⟩) 0 cap) ∧ w'.ownsRow w.heap.size 35 4 (.slice (some ⟨g, 0, none⟩) 0 cap) 0 [] ∧ Below w.heap.size w w' := by
  have p1 : ((n : Int) < 0) = False := eq_false (by omega)
  have p2 : (0 < (n : Int)) = True := eq_true (by omega)
  have w1 : IntKind.i64.wrap (n : Int) = (n : Int) := by rw [IntKind.wrap_i64]; omega
  have p3 : (0 < n) = True := eq_true h0
  have w2 : IntKind.i64.wrap ((n : Int) - 0) = (n : Int) := by rw [IntKind.wrap_i64]; omega
  have hrz : ∀ ty, (Builtin.append_ #[22, 3] ty #[.slice none 0 0, .int .i64 (n : Int)]).run Try.prog w = _ := fun ty =>
    Lib.run_append_grow_zeros w 22 3 ty 35 _ (.agg #[.int .i64 0, .int .i64 0, .int .i64 0, .int .i64 0]) .i64 .i64 Try.underlying22 Try.underlying3 rfl rfl none 0 0 [] (run_firstCells_none w.drew 4 0 0 0) n h0 (by show 0 < 4; decide) (by omega) (by omega) (by show n * 32 ≤ _; omega)
      (by have := growslice_fits (need := n) (old := 0) (bytes := 32) (by omega) (by omega); rw [Nat.zero_add]; exact this)
  simp only [Nat.zero_add] at hrz
  have hge : n ≤ grownCap w n 0 35 := grownCap_ge w _ _ _
  have hle : grownCap w n 0 35 ≤ maxLen := grownCap_le_maxLen w n 0 35 (by unfold maxLen; omega)
  obtain ⟨G, hG⟩ : ∃ G, G = grownCap w n 0 35 := ⟨_, rfl⟩
  rw [← hG] at hrz hge hle
  have q1 : (0 : Int) ≤ (G : Int) := by omega
  have q2 : ((0 : Int) ≤ (n : Int)) := by omega
  have hm : (G : Int) ≤ 9223372036854775807 := by unfold maxLen at hle; omega
  clear hG
  go_enter Try.func85, Try.ntmps85
  go_wp2_with (at_builtin; refine Lib.wpList_append_run _ rfl _ _ _ _ rfl _ _ rfl rfl _ _ (hrz _) ?_)
  go_ret
  refine ⟨_, _, rfl, ⟨rfl, .inr ⟨_, _, _, rfl, Nat.le_refl _, Hand.q3 _ _ _ rfl, Nat.zero_le _, hle, ?_, rfl⟩⟩, (Below.refl w.heap.size w).drew.alloc (Nat.le_refl _) _⟩
  simp only [Array.size_append, List.size_toArray, List.length_nil, size_zeroCells]
  show n * 4 + (G - n) * 4 = G * 4
  omega
set_option maxHeartbeats 4000000 in
set_option maxRecDepth 100000 in
theorem concatK (gq : Nat) (a1 a2 a3 : Addr) (n1 n2 n3 c1 c2 c3 c : Nat) (x1 x2 x3 : List Value) (w : World) (hq : w.heap[gq]? = some (.cells #[.slice (some a1) n1 c1, .slice (some a2) n2 c2, .slice (some a3) n3 c3] 22 (0, 0)))
    (z1 : 0 < n1) (z2 : 0 < n2) (z3 : 0 < n3) (b1 : n1 ≤ 1000) (b2 : n2 ≤ 300000) (b3 : n3 ≤ 1000) (l1 : x1.length = n1 * 4) (l2 : x2.length = n2 * 4) (l3 : x3.length = n3 * 4)
    (h1 : ∀ j u, x1[j]? = some u → w.cell? (a1.add j) = some u) (h2 : ∀ j u, x2[j]? = some u → w.cell? (a2.add j) = some u) (h3 : ∀ j u, x3[j]? = some u → w.cell? (a3.add j) = some u) (o1 : ∀ u ∈ x1, u.oneCell' = true) (o2 : ∀ u ∈ x2, u.oneCell' = true) (o3 : ∀ u ∈ x3, u.oneCell' = true) :
    Calls Try.prog 45 #[.slice (some ⟨gq, 0, none⟩) 3 c] w fun e w' => ∃ g cap, e = .returned (.slice (some ⟨g, 0, none⟩) (n1 + n2 + n3) cap) ∧ w'.ownsRow w.heap.size 35 4 (.slice (some ⟨g, 0, none⟩) (n1 + n2 + n3) cap) (n1 + n2 + n3) (x1 ++ x2 ++ x3) ∧ Below w.heap.size w w' := by
  obtain ⟨q0, f0, q1, f1, q2, f2⟩ := Hand.hc3 hq
  have HQ := Lib.hid hq
  have L1 := Lib.hid l1
  have L2 := Lib.hid l2
  have L3 := Lib.hid l3
  have H1 := Lib.hid h1
  have H2 := Lib.hid h2
  have H3 := Lib.hid h3
  have O1 := Lib.hid o1
  have O2 := Lib.hid o2
  have O3 := Lib.hid o3
  have NZ1 := Lib.hid z1
  have NZ2 := Lib.hid z2
  have NZ3 := Lib.hid z3
  have GR := Lib.hid (growK (n1 + n2 + n3) (by omega) (by omega))
  clear hq l1 l2 l3 h1 h2 h3 o1 o2 o3
  have e1 : IntKind.i64.wrap ((0 : Int) + (n1 : Int)) = (n1 : Int) := by rw [IntKind.wrap_i64]; omega
  have e2 : IntKind.i64.wrap ((n1 : Int) + (n2 : Int)) = (n1 : Int) + (n2 : Int) := by rw [IntKind.wrap_i64]; omega
  have e3 : IntKind.i64.wrap ((n1 : Int) + (n2 : Int) + (n3 : Int)) = (n1 : Int) + (n2 : Int) + (n3 : Int) := by rw [IntKind.wrap_i64]; omega
  have e4 : IntKind.i64.wrap (n1 : Int) = (n1 : Int) := by rw [IntKind.wrap_i64]; omega
  have r1 : ((n1 : Int) < 0) = False := eq_false (by omega)
  have r2 : ((n1 : Int) + (n2 : Int) < 0) = False := eq_false (by omega)
  have r3 : ((n1 : Int) + (n2 : Int) + (n3 : Int) < 0) = False := eq_false (by omega)
  go_enter Try.func45, Try.ntmps45
  go_wp2_with fail
  go_loopw [3, 11] (fun s i wr => w = wr ∧ ((i = .int .i64 0 ∧ s = .int .i64 0) ∨ (i = .int .i64 1 ∧ s = .int .i64 n1) ∨ (i = .int .i64 2 ∧ s = .int .i64 ((n1 : Int) + (n2 : Int))) ∨ (i = .int .i64 3 ∧ s = .int .i64 ((n1 : Int) + (n2 : Int) + (n3 : Int))))) (fun _ i _ => 3 - (intOf i).toNat)
  case atStart => exact ⟨rfl, .inl ⟨rfl, rfl⟩⟩
  case round =>
    obtain ⟨rfl, hr⟩ := hrel
    rcases hr with ⟨rfl, rfl⟩ | ⟨rfl, rfl⟩ | ⟨rfl, rfl⟩ | ⟨rfl, rfl⟩
    · go_wp2
      go_roundw
      case rel => exact ⟨by first | trivial | rfl, .inr (.inl ⟨rfl, rfl⟩)⟩
      case measure => simp [intOf]
    · go_wp2
      go_roundw
      case rel => exact ⟨by first | trivial | rfl, .inr (.inr (.inl ⟨rfl, rfl⟩))⟩
      case measure => simp [intOf]
    · go_wp2
      go_roundw
      case rel => exact ⟨by first | trivial | rfl, .inr (.inr (.inr ⟨rfl, rfl⟩))⟩
      case measure => simp [intOf]
    · go_wp2_with fail
      have e6 : (n1 : Int) + (n2 : Int) + (n3 : Int) = ((n1 + n2 + n3 : Nat) : Int) := by omega
      rw [e6]
      with_reducible refine (GR.out _).mono ?_
      rintro e w1 ⟨gg, cg, rfl, hown1, hb1⟩
      have HB1 := Lib.hid hb1
      have HOWN1 := Lib.hid hown1
      clear hb1 hown1 e6
      go_wp2_with fail
      clear q0 q1 q2 f0 f1 f2
      go_loopw [6, 27] (fun v i wr => Below w.heap.size w wr ∧ ∃ g cap, ((i = .int .i64 0 ∧ v = .slice (some ⟨g, 0, none⟩) 0 cap ∧ wr.ownsRow w.heap.size 35 4 v 0 []) ∨ (i = .int .i64 1 ∧ v = .slice (some ⟨g, 0, none⟩) n1 cap ∧ wr.ownsRow w.heap.size 35 4 v n1 x1) ∨ (i = .int .i64 2 ∧ v = .slice (some ⟨g, 0, none⟩) (n1 + n2) cap ∧ wr.ownsRow w.heap.size 35 4 v (n1 + n2) (x1 ++ x2)) ∨ (i = .int .i64 3 ∧ v = .slice (some ⟨g, 0, none⟩) (n1 + n2 + n3) cap ∧ wr.ownsRow w.heap.size 35 4 v (n1 + n2 + n3) (x1 ++ x2 ++ x3)))) (fun _ i _ => 3 - (intOf i).toNat)
      case atStart => exact ⟨HB1.out, gg, cg, .inl ⟨rfl, rfl, HOWN1.out⟩⟩
      case round =>
        obtain ⟨hBr, gv, cv, hr⟩ := hrel
        have HG := Lib.hid hBr
        clear hBr
        obtain ⟨q0, f0, q1, f1, q2, f2⟩ := Hand.hc3 (Hand.kb HG.out HQ.out)
        rcases hr with ⟨rfl, rfl, hown⟩ | ⟨rfl, rfl, hown⟩ | ⟨rfl, rfl, hown⟩ | ⟨rfl, rfl, hown⟩
        · have HOWN := Lib.hid hown
          clear hown
          go_wp2_with (at_builtin; refine wpList_append_lies _ rfl (.tmp 31) (.tmp 32) 22 rfl w.heap.size 35 _ (.agg #[.int .i64 0, .int .i64 0, .int .i64 0, .int .i64 0]) 4 32 Try.underlying22 rfl rfl rfl rfl rfl (by decide) _ 0 [] rfl HOWN.out a1 n1 c1 x1 rfl L1.out (fun j u hj => (HG.out.cell (World.block_lt_of_cell? w _ (H1.out j u hj))).trans (H1.out j u hj)) O1.out NZ1.out (by unfold maxLen; omega) (by omega) HG.out.size _ rfl ?_)
          intro g1 cap1 w2 hown2 hgrow2 hat2 hlt2
          have hB2 := HG.out.grown hgrow2 HG.out.size (by intro k hk; exact (HOWN.out.lt k hk).1)
          try simp only [Nat.zero_add, List.nil_append] at hown2
          clear hgrow2 hat2 hlt2
          go_wp2
          go_roundw
          case rel => exact ⟨hB2, g1, cap1, .inr (.inl ⟨rfl, by first | rfl | simp only [Nat.zero_add], by first | exact hown2 | (have h := hown2; simp only [Nat.zero_add, List.nil_append] at h; exact h) | (rw [List.append_assoc]; exact hown2)⟩)⟩
          case measure => simp [intOf]
        · have HOWN := Lib.hid hown
          clear hown
          go_wp2_with (at_builtin; refine wpList_append_lies _ rfl (.tmp 31) (.tmp 32) 22 rfl w.heap.size 35 _ (.agg #[.int .i64 0, .int .i64 0, .int .i64 0, .int .i64 0]) 4 32 Try.underlying22 rfl rfl rfl rfl rfl (by decide) _ n1 x1 rfl HOWN.out a2 n2 c2 x2 rfl L2.out (fun j u hj => (HG.out.cell (World.block_lt_of_cell? w _ (H2.out j u hj))).trans (H2.out j u hj)) O2.out NZ2.out (by unfold maxLen; omega) (by omega) HG.out.size _ rfl ?_)
          intro g1 cap1 w2 hown2 hgrow2 hat2 hlt2
          have hB2 := HG.out.grown hgrow2 HG.out.size (by intro k hk; exact (HOWN.out.lt k hk).1)
          skip
          clear hgrow2 hat2 hlt2
          go_wp2
          go_roundw
          case rel => exact ⟨hB2, g1, cap1, .inr (.inr (.inl ⟨rfl, by first | rfl | simp only [Nat.zero_add], by first | exact hown2 | (have h := hown2; simp only [Nat.zero_add, List.nil_append] at h; exact h) | (rw [List.append_assoc]; exact hown2)⟩))⟩
          case measure => simp [intOf]
        · have HOWN := Lib.hid hown
          clear hown
          go_wp2_with (at_builtin; refine wpList_append_lies _ rfl (.tmp 31) (.tmp 32) 22 rfl w.heap.size 35 _ (.agg #[.int .i64 0, .int .i64 0, .int .i64 0, .int .i64 0]) 4 32 Try.underlying22 rfl rfl rfl rfl rfl (by decide) _ (n1 + n2) (x1 ++ x2) rfl HOWN.out a3 n3 c3 x3 rfl L3.out (fun j u hj => (HG.out.cell (World.block_lt_of_cell? w _ (H3.out j u hj))).trans (H3.out j u hj)) O3.out NZ3.out (by unfold maxLen; omega) (by omega) HG.out.size _ rfl ?_)
          intro g1 cap1 w2 hown2 hgrow2 hat2 hlt2
          have hB2 := HG.out.grown hgrow2 HG.out.size (by intro k hk; exact (HOWN.out.lt k hk).1)
          skip
          clear hgrow2 hat2 hlt2
          go_wp2
          go_roundw
          case rel => exact ⟨hB2, g1, cap1, .inr (.inr (.inr ⟨rfl, by first | rfl | simp only [Nat.zero_add], by first | exact hown2 | (have h := hown2; simp only [Nat.zero_add, List.nil_append] at h; exact h) | (rw [List.append_assoc]; exact hown2)⟩))⟩
          case measure => simp [intOf]
        · go_wp2
          go_ret
          exact ⟨gv, cv, rfl, hown, HG.out⟩
set_option maxHeartbeats 1600000 in
set_option maxRecDepth 100000 in
theorem growT (n : Nat) (h0 : 0 < n) (h1 : n ≤ 1000000) (w : World) :
    Calls Try.prog 117 #[.slice none 0 0, .int .i64 n] w fun e w' => ∃ g cap, e = .returned (.slice (some ⟨g, 0, none⟩) 0 cap) ∧ w'.ownsRow w.heap.size 31 2 (.slice (some ⟨g, 0, none⟩) 0 cap) 0 [] ∧ Below w.heap.size w w' := by
  have p1 : ((n : Int) < 0) = False := eq_false (by omega)
  have p2 : (0 < (n : Int)) = True := eq_true (by omega)
  have w1 : IntKind.i64.wrap (n : Int) = (n : Int) := by rw [IntKind.wrap_i64]; omega
  have p3 : (0 < n) = True := eq_true h0
  have w2 : IntKind.i64.wrap ((n : Int) - 0) = (n : Int) := by rw [IntKind.wrap_i64]; omega
  have hrz : ∀ ty, (Builtin.append_ #[23, 3] ty #[.slice none 0 0, .int .i64 (n : Int)]).run Try.prog w = _ := fun ty =>
    Lib.run_append_grow_zeros w 23 3 ty 31 _ (.agg #[.int .i64 0, .int .i64 0]) .i64 .i64 Try.underlying23 Try.underlying3 rfl rfl none 0 0 [] (run_firstCells_none w.drew 2 0 0 0) n h0 (by show 0 < 2; decide) (by omega) (by omega) (by show n * 16 ≤ _; omega)
      (by have := growslice_fits (need := n) (old := 0) (bytes := 16) (by omega) (by omega); rw [Nat.zero_add]; exact this)
  simp only [Nat.zero_add] at hrz
  have hge : n ≤ grownCap w n 0 31 := grownCap_ge w _ _ _
  have hle : grownCap w n 0 31 ≤ maxLen := grownCap_le_maxLen w n 0 31 (by unfold maxLen; omega)
  obtain ⟨G, hG⟩ : ∃ G, G = grownCap w n 0 31 := ⟨_, rfl⟩
  rw [← hG] at hrz hge hle
  have q1 : (0 : Int) ≤ (G : Int) := by omega
  have q2 : ((0 : Int) ≤ (n : Int)) := by omega
  have hm : (G : Int) ≤ 9223372036854775807 := by unfold maxLen at hle; omega
  clear hG
  go_enter Try.func117, Try.ntmps117
  go_wp2_with (at_builtin; refine Lib.wpList_append_run _ rfl _ _ _ _ rfl _ _ rfl rfl _ _ (hrz _) ?_)
  go_ret
  refine ⟨_, _, rfl, ⟨rfl, .inr ⟨_, _, _, rfl, Nat.le_refl _, Hand.q3 _ _ _ rfl, Nat.zero_le _, hle, ?_, rfl⟩⟩, (Below.refl w.heap.size w).drew.alloc (Nat.le_refl _) _⟩
  simp only [Array.size_append, List.size_toArray, List.length_nil, size_zeroCells]
  show n * 2 + (G - n) * 2 = G * 2
  omega
set_option maxHeartbeats 4000000 in
set_option maxRecDepth 100000 in
theorem concatT (gq : Nat) (a1 a2 a3 : Addr) (n1 n2 n3 c1 c2 c3 c : Nat) (x1 x2 x3 : List Value) (w : World) (hq : w.heap[gq]? = some (.cells #[.slice (some a1) n1 c1, .slice (some a2) n2 c2, .slice (some a3) n3 c3] 23 (0, 0)))
    (z1 : 0 < n1) (z2 : 0 < n2) (z3 : 0 < n3) (b1 : n1 ≤ 1000) (b2 : n2 ≤ 300000) (b3 : n3 ≤ 1000) (l1 : x1.length = n1 * 2) (l2 : x2.length = n2 * 2) (l3 : x3.length = n3 * 2)
    (h1 : ∀ j u, x1[j]? = some u → w.cell? (a1.add j) = some u) (h2 : ∀ j u, x2[j]? = some u → w.cell? (a2.add j) = some u) (h3 : ∀ j u, x3[j]? = some u → w.cell? (a3.add j) = some u) (o1 : ∀ u ∈ x1, u.oneCell' = true) (o2 : ∀ u ∈ x2, u.oneCell' = true) (o3 : ∀ u ∈ x3, u.oneCell' = true) :
    Calls Try.prog 103 #[.slice (some ⟨gq, 0, none⟩) 3 c] w fun e w' => ∃ g cap, e = .returned (.slice (some ⟨g, 0, none⟩) (n1 + n2 + n3) cap) ∧ w'.ownsRow w.heap.size 31 2 (.slice (some ⟨g, 0, none⟩) (n1 + n2 + n3) cap) (n1 + n2 + n3) (x1 ++ x2 ++ x3) ∧ Below w.heap.size w w' := by
  obtain ⟨q0, f0, q1, f1, q2, f2⟩ := Hand.hc3 hq
  have HQ := Lib.hid hq
  have L1 := Lib.hid l1
  have L2 := Lib.hid l2
  have L3 := Lib.hid l3
  have H1 := Lib.hid h1
  have H2 := Lib.hid h2
  have H3 := Lib.hid h3
  have O1 := Lib.hid o1
  have O2 := Lib.hid o2
  have O3 := Lib.hid o3
  have NZ1 := Lib.hid z1
  have NZ2 := Lib.hid z2
  have NZ3 := Lib.hid z3
  have GR := Lib.hid (growT (n1 + n2 + n3) (by omega) (by omega))
  clear hq l1 l2 l3 h1 h2 h3 o1 o2 o3
  have e1 : IntKind.i64.wrap ((0 : Int) + (n1 : Int)) = (n1 : Int) := by rw [IntKind.wrap_i64]; omega
  have e2 : IntKind.i64.wrap ((n1 : Int) + (n2 : Int)) = (n1 : Int) + (n2 : Int) := by rw [IntKind.wrap_i64]; omega
  have e3 : IntKind.i64.wrap ((n1 : Int) + (n2 : Int) + (n3 : Int)) = (n1 : Int) + (n2 : Int) + (n3 : Int) := by rw [IntKind.wrap_i64]; omega
  have e4 : IntKind.i64.wrap (n1 : Int) = (n1 : Int) := by rw [IntKind.wrap_i64]; omega
  have r1 : ((n1 : Int) < 0) = False := eq_false (by omega)
  have r2 : ((n1 : Int) + (n2 : Int) < 0) = False := eq_false (by omega)
  have r3 : ((n1 : Int) + (n2 : Int) + (n3 : Int) < 0) = False := eq_false (by omega)
  go_enter Try.func103, Try.ntmps103
  go_wp2_with fail
  go_loopw [3, 11] (fun s i wr => w = wr ∧ ((i = .int .i64 0 ∧ s = .int .i64 0) ∨ (i = .int .i64 1 ∧ s = .int .i64 n1) ∨ (i = .int .i64 2 ∧ s = .int .i64 ((n1 : Int) + (n2 : Int))) ∨ (i = .int .i64 3 ∧ s = .int .i64 ((n1 : Int) + (n2 : Int) + (n3 : Int))))) (fun _ i _ => 3 - (intOf i).toNat)
  case atStart => exact ⟨rfl, .inl ⟨rfl, rfl⟩⟩
  case round =>
    obtain ⟨rfl, hr⟩ := hrel
    rcases hr with ⟨rfl, rfl⟩ | ⟨rfl, rfl⟩ | ⟨rfl, rfl⟩ | ⟨rfl, rfl⟩
    · go_wp2
      go_roundw
      case rel => exact ⟨by first | trivial | rfl, .inr (.inl ⟨rfl, rfl⟩)⟩
      case measure => simp [intOf]
    · go_wp2
      go_roundw
      case rel => exact ⟨by first | trivial | rfl, .inr (.inr (.inl ⟨rfl, rfl⟩))⟩
      case measure => simp [intOf]
    · go_wp2
      go_roundw
      case rel => exact ⟨by first | trivial | rfl, .inr (.inr (.inr ⟨rfl, rfl⟩))⟩
      case measure => simp [intOf]
    · go_wp2_with fail
      have e6 : (n1 : Int) + (n2 : Int) + (n3 : Int) = ((n1 + n2 + n3 : Nat) : Int) := by omega
      rw [e6]
      with_reducible refine (GR.out _).mono ?_
      rintro e w1 ⟨gg, cg, rfl, hown1, hb1⟩
      have HB1 := Lib.hid hb1
      have HOWN1 := Lib.hid hown1
      clear hb1 hown1 e6
      go_wp2_with fail
      clear q0 q1 q2 f0 f1 f2
      go_loopw [6, 27] (fun v i wr => Below w.heap.size w wr ∧ ∃ g cap, ((i = .int .i64 0 ∧ v = .slice (some ⟨g, 0, none⟩) 0 cap ∧ wr.ownsRow w.heap.size 31 2 v 0 []) ∨ (i = .int .i64 1 ∧ v = .slice (some ⟨g, 0, none⟩) n1 cap ∧ wr.ownsRow w.heap.size 31 2 v n1 x1) ∨ (i = .int .i64 2 ∧ v = .slice (some ⟨g, 0, none⟩) (n1 + n2) cap ∧ wr.ownsRow w.heap.size 31 2 v (n1 + n2) (x1 ++ x2)) ∨ (i = .int .i64 3 ∧ v = .slice (some ⟨g, 0, none⟩) (n1 + n2 + n3) cap ∧ wr.ownsRow w.heap.size 31 2 v (n1 + n2 + n3) (x1 ++ x2 ++ x3)))) (fun _ i _ => 3 - (intOf i).toNat)
      case atStart => exact ⟨HB1.out, gg, cg, .inl ⟨rfl, rfl, HOWN1.out⟩⟩
      case round =>
        obtain ⟨hBr, gv, cv, hr⟩ := hrel
        have HG := Lib.hid hBr
        clear hBr
        obtain ⟨q0, f0, q1, f1, q2, f2⟩ := Hand.hc3 (Hand.kb HG.out HQ.out)
        rcases hr with ⟨rfl, rfl, hown⟩ | ⟨rfl, rfl, hown⟩ | ⟨rfl, rfl, hown⟩ | ⟨rfl, rfl, hown⟩
        · have HOWN := Lib.hid hown
          clear hown
          go_wp2_with (at_builtin; refine wpList_append_lies _ rfl (.tmp 31) (.tmp 32) 23 rfl w.heap.size 31 _ (.agg #[.int .i64 0, .int .i64 0]) 2 16 Try.underlying23 rfl rfl rfl rfl rfl (by decide) _ 0 [] rfl HOWN.out a1 n1 c1 x1 rfl L1.out (fun j u hj => (HG.out.cell (World.block_lt_of_cell? w _ (H1.out j u hj))).trans (H1.out j u hj)) O1.out NZ1.out (by unfold maxLen; omega) (by omega) HG.out.size _ rfl ?_)
          intro g1 cap1 w2 hown2 hgrow2 hat2 hlt2
          have hB2 := HG.out.grown hgrow2 HG.out.size (by intro k hk; exact (HOWN.out.lt k hk).1)
          try simp only [Nat.zero_add, List.nil_append] at hown2
          clear hgrow2 hat2 hlt2
          go_wp2
          go_roundw
          case rel => exact ⟨hB2, g1, cap1, .inr (.inl ⟨rfl, by first | rfl | simp only [Nat.zero_add], by first | exact hown2 | (have h := hown2; simp only [Nat.zero_add, List.nil_append] at h; exact h) | (rw [List.append_assoc]; exact hown2)⟩)⟩
          case measure => simp [intOf]
        · have HOWN := Lib.hid hown
          clear hown
          go_wp2_with (at_builtin; refine wpList_append_lies _ rfl (.tmp 31) (.tmp 32) 23 rfl w.heap.size 31 _ (.agg #[.int .i64 0, .int .i64 0]) 2 16 Try.underlying23 rfl rfl rfl rfl rfl (by decide) _ n1 x1 rfl HOWN.out a2 n2 c2 x2 rfl L2.out (fun j u hj => (HG.out.cell (World.block_lt_of_cell? w _ (H2.out j u hj))).trans (H2.out j u hj)) O2.out NZ2.out (by unfold maxLen; omega) (by omega) HG.out.size _ rfl ?_)
          intro g1 cap1 w2 hown2 hgrow2 hat2 hlt2
          have hB2 := HG.out.grown hgrow2 HG.out.size (by intro k hk; exact (HOWN.out.lt k hk).1)
          skip
          clear hgrow2 hat2 hlt2
          go_wp2
          go_roundw
          case rel => exact ⟨hB2, g1, cap1, .inr (.inr (.inl ⟨rfl, by first | rfl | simp only [Nat.zero_add], by first | exact hown2 | (have h := hown2; simp only [Nat.zero_add, List.nil_append] at h; exact h) | (rw [List.append_assoc]; exact hown2)⟩))⟩
          case measure => simp [intOf]
        · have HOWN := Lib.hid hown
          clear hown
          go_wp2_with (at_builtin; refine wpList_append_lies _ rfl (.tmp 31) (.tmp 32) 23 rfl w.heap.size 31 _ (.agg #[.int .i64 0, .int .i64 0]) 2 16 Try.underlying23 rfl rfl rfl rfl rfl (by decide) _ (n1 + n2) (x1 ++ x2) rfl HOWN.out a3 n3 c3 x3 rfl L3.out (fun j u hj => (HG.out.cell (World.block_lt_of_cell? w _ (H3.out j u hj))).trans (H3.out j u hj)) O3.out NZ3.out (by unfold maxLen; omega) (by omega) HG.out.size _ rfl ?_)
          intro g1 cap1 w2 hown2 hgrow2 hat2 hlt2
          have hB2 := HG.out.grown hgrow2 HG.out.size (by intro k hk; exact (HOWN.out.lt k hk).1)
          skip
          clear hgrow2 hat2 hlt2
          go_wp2
          go_roundw
          case rel => exact ⟨hB2, g1, cap1, .inr (.inr (.inr ⟨rfl, by first | rfl | simp only [Nat.zero_add], by first | exact hown2 | (have h := hown2; simp only [Nat.zero_add, List.nil_append] at h; exact h) | (rw [List.append_assoc]; exact hown2)⟩))⟩
          case measure => simp [intOf]
        · go_wp2
          go_ret
          exact ⟨gv, cv, rfl, hown, HG.out⟩
set_option maxHeartbeats 1600000 in
set_option maxRecDepth 100000 in
theorem cloneK (ad : Addr) (n cap : Nat) (xs : List Value) (w : World) (h0 : 0 < n) (h1 : n ≤ 1000000) (hl : xs.length = n * 4) (hc : ∀ j u, xs[j]? = some u → w.cell? (ad.add j) = some u) (ho : ∀ u ∈ xs, u.oneCell' = true) :
    Calls Try.prog 48 #[.slice (some ad) n cap] w fun e w' => ∃ g c, e = .returned (.slice (some ⟨g, 0, none⟩) n c) ∧ w'.ownsRow w.heap.size 35 4 (.slice (some ⟨g, 0, none⟩) n c) n xs ∧ Below w.heap.size w w' := by
  have q22 : ∀ (w : World) (a : Option Addr) (n c n' c' : Nat), (binOp .eql 22 (.slice a n c) (.slice none n' c')).run Try.prog w = .ok (.bool a.isNone) w := fun w a n c n' c' => Lib.run_eql_slice_nil w _ _ a n c n' c' Try.underlying22
  have HL := Lib.hid hl
  have HC := Lib.hid hc
  have HO := Lib.hid ho
  clear hl hc ho
  go_enter Try.func48, Try.ntmps48
  go_wp2_with (at_builtin; refine wpList_append_lies _ rfl _ _ 22 rfl w.heap.size 35 _ (.agg #[.int .i64 0, .int .i64 0, .int .i64 0, .int .i64 0]) 4 32 Try.underlying22 rfl rfl rfl rfl rfl (by decide) _ _ _ rfl (World.ownsRow_made w #[] 0 (Nat.le_refl _) (Nat.zero_le _) rfl) ad n cap xs rfl HL.out (fun j u hj => by rw [World.cell?_alloc_lt _ _ _ (World.block_lt_of_cell? w _ (HC.out j u hj))]; exact HC.out j u hj) HO.out h0 (by unfold maxLen; omega) (by omega) (by simp) _ rfl ?_)
  intro g1 cap1 w2 hown2 hgrow2 hat2 hlt2
  have hB2 := ((Below.refl _ w).alloc (Nat.le_refl _) _).grown hgrow2 (by simp) (by intro k hk; simp [Value.ownBlock] at hk; omega)
  try simp only [Nat.zero_add, List.nil_append] at hown2
  clear hgrow2 hat2 hlt2
  go_wp2
  go_ret
  exact ⟨_, _, by first | rfl | (simp only [Nat.zero_add]), hown2, hB2⟩
end Go.Proofs.Ythlpaglldhgmfaa.PA
