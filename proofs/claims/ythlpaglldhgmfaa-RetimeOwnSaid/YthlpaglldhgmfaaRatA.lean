/- common, fit, New, Right: ratios in lowest terms. -/
import Derived.Test.YthlpaglldhgmfaaRatW
namespace Go.Proofs.Ythlpaglldhgmfaa.PA
open Go.RowKit Go.Proofs.YthlpaglldhgmfaaW.PrintWords Go.Proofs.YthlpaglldhgmfaaW.PrintLast Go.Proofs.YthlpaglldhgmfaaW.PrintMore
attribute [local go_sem high] eqA85
theorem hl_zero {b : Nat} (h : b ≠ 0) : (hiN b == 0 && loN b == 0) = false := by
  have : ¬ (hiN b = 0 ∧ loN b = 0) := by unfold hiN loN; omega
  simpa using this
theorem alloc3 (w : World) (o1 o2 o3 : Obj) : (((w.alloc o1).alloc o2).alloc o3).heap[w.heap.size]? = some o1 ∧ (((w.alloc o1).alloc o2).alloc o3).heap[w.heap.size + 1]? = some o2 ∧ (((w.alloc o1).alloc o2).alloc o3).heap[w.heap.size + 1 + 1]? = some o3 := by
  refine ⟨?_, ?_, ?_⟩
  · simp (disch := first | omega | (simp only [World.size_alloc]; done) | (simp only [World.size_alloc]; omega)) only [Hand.q4, Hand.q3]
  · simp (disch := first | omega | (simp only [World.size_alloc]; done) | (simp only [World.size_alloc]; omega)) only [Hand.q4, Hand.q3]
  · simp (disch := first | omega | (simp only [World.size_alloc]; done) | (simp only [World.size_alloc]; omega)) only [Hand.q3]
set_option maxHeartbeats 2000000 in
set_option maxRecDepth 100000 in
theorem common_any (X Y : Nat) (hX : X < 340282366920938463463374607431768211456) (hY : Y < 340282366920938463463374607431768211456) (w : World) :
    Calls Try.prog 108 #[.agg #[.int .u64 (hiN X), .int .u64 (loN X)], .agg #[.int .u64 (hiN Y), .int .u64 (loN Y)]] w fun e w' =>
      e = .returned (.agg #[.int .u64 (hiN (Nat.gcd X Y)), .int .u64 (loN (Nat.gcd X Y))]) ∧ Below w.heap.size w w' := by
  go_enter Try.func108, Try.ntmps108
  go_wp2
  go_loopg [5] Y (fun b _ wr => ∃ a : Nat, a < 340282366920938463463374607431768211456 ∧ b < 340282366920938463463374607431768211456 ∧ Nat.gcd a b = Nat.gcd X Y ∧
      wr.heap[w.heap.size]? = some (.cells #[.int .u64 (hiN a), .int .u64 (loN a)] 85 (0, 0)) ∧
      wr.heap[w.heap.size + 1]? = some (.cells #[.int .u64 (hiN b), .int .u64 (loN b)] 85 (0, 0)) ∧
      wr.heap[w.heap.size + 1 + 1]? = some (.cells #[.int .u64 0, .int .u64 0] 85 (0, 0)) ∧ Below w.heap.size w wr)
  case atStart =>
    obtain ⟨a1, a2, a3⟩ := alloc3 w (.cells #[.int .u64 (hiN X), .int .u64 (loN X)] 85) (.cells #[.int .u64 (hiN Y), .int .u64 (loN Y)] 85) (.cells #[.int .u64 0, .int .u64 0] 85)
    exact ⟨X, hX, hY, rfl, a1, a2, a3, ((((Below.refl _ _).alloc (Nat.le_refl _) _).alloc (by simp) _).alloc (by simp; omega) _)⟩
  case round =>
    obtain ⟨a, ha, hb, hg, b0, b1, b2, hB⟩ := hrel
    have sz := World.block_lt_of_cell? wr _ (Hand.cell_of b2 0 _ rfl)
    have c0 := Hand.cell_of b0 0 (.int .u64 (hiN a)) rfl
    have c1 := Hand.cell_of b0 1 (.int .u64 (loN a)) rfl
    have c2 := Hand.cell_of b1 0 (.int .u64 (hiN gk)) rfl
    have c3 := Hand.cell_of b1 1 (.int .u64 (loN gk)) rfl
    have c4 := Hand.cell_of b2 0 (.int .u64 0) rfl
    have c5 := Hand.cell_of b2 1 (.int .u64 0) rfl
    have f0 := Hand.free_of b0 0
    have f1 := Hand.free_of b0 1
    have f2 := Hand.free_of b1 0
    have f3 := Hand.free_of b1 1
    have f4 := Hand.free_of b2 0
    have f5 := Hand.free_of b2 1
    have HG := Lib.hid (And.intro hg (And.intro b0 (And.intro b1 (And.intro b2 hB))))
    clear hg b0 b1 b2 hB
    by_cases h : gk = 0
    · subst h
      have z0 : hiN 0 = 0 := rfl
      have z1 : loN 0 = 0 := rfl
      go_wp2
      obtain ⟨hg, b0, b1, b2, hB⟩ := HG.out
      rw [Nat.gcd_zero_right] at hg
      subst hg
      refine bodyPost_ret (results_cell_row rfl _ _ (w.heap.size + 1 + 1) 85 #[.int .u64 (hiN (Nat.gcd X Y)), .int .u64 (loN (Nat.gcd X Y))] (0, 0) _ rfl ?_ Try.underlying85 rfl (by kernel_rfl)) rfl ⟨rfl, ?_⟩
      · simp (disch := omega) only [Hand.q1, b2]; rfl
      · exact (hB.setCell (by dsimp only; omega) _).setCell (by dsimp only; omega) _
    · have hz := hl_zero h
      go_wp2_with fail
      refine (over_any a gk ha (by omega) hb wr).mono ?_
      rintro e w1 ⟨rfl, hb1⟩
      obtain ⟨hg, b0, b1, b2, hB⟩ := HG.out
      have m0 := (Hand.hp_below hb1 (show w.heap.size < wr.heap.size by omega)).trans b0
      have m1 := (Hand.hp_below hb1 (show w.heap.size + 1 < wr.heap.size by omega)).trans b1
      have m2 := (Hand.hp_below hb1 (show w.heap.size + 1 + 1 < wr.heap.size by omega)).trans b2
      have hB1 : Below w.heap.size w w1 := hB.trans (hb1.mono (by omega))
      have sz1 : w.heap.size + 1 + 1 < w1.heap.size := World.block_lt_of_cell? w1 _ (Hand.cell_of m2 0 _ rfl)
      have n0 : w.heap.size < w1.heap.size := by omega
      have n1 : w.heap.size + 1 < w1.heap.size := by omega
      have n2 : w.heap.size < w1.heap.size + 1 := by omega
      have n3 : w.heap.size + 1 < w1.heap.size + 1 := by omega
      have n4 : w.heap.size ≠ w1.heap.size := by omega
      have c0 := Hand.cell_of m0 0 (.int .u64 (hiN a)) rfl
      have c1 := Hand.cell_of m0 1 (.int .u64 (loN a)) rfl
      have c2 := Hand.cell_of m1 0 (.int .u64 (hiN gk)) rfl
      have c3 := Hand.cell_of m1 1 (.int .u64 (loN gk)) rfl
      have f0 := Hand.free_of m0 0
      have f1 := Hand.free_of m0 1
      have f2 := Hand.free_of m1 0
      have f3 := Hand.free_of m1 1
      have HM := Lib.hid (And.intro hg (And.intro m0 (And.intro m1 (And.intro m2 hB1))))
      clear hg b0 b1 b2 hB hb1 HG m0 m1 m2 hB1
      go_wp2
      go_region
      go_wp2
      go_roundg (a % gk)
      case measure => exact Nat.mod_lt _ (by omega)
      case rel =>
        obtain ⟨hg, m0, m1, m2, hB1⟩ := HM.out
        refine ⟨gk, hb, Nat.lt_trans (Nat.mod_lt _ (by omega)) hb, by rw [← hg, Nat.gcd_comm a gk, Nat.gcd_rec gk a, Nat.gcd_comm], ?_, ?_, ?_, ?_⟩
        · simp (disch := first | omega | (simp only [Hand.sa, Hand.ss, Hand.sd, Hand.sn]; first | done | omega)) only [Hand.q2, Hand.q1, Hand.q5, Hand.q4, m0]; rfl
        · simp (disch := first | omega | (simp only [Hand.sa, Hand.ss, Hand.sd, Hand.sn]; first | done | omega)) only [Hand.q2, Hand.q1, Hand.q5, Hand.q4, m1]; rfl
        · simp (disch := first | omega | (simp only [Hand.sa, Hand.ss, Hand.sd, Hand.sn]; first | done | omega)) only [Hand.q2, Hand.q5, Hand.q4, m2]
        · repeat (first | exact hB1 | (with_reducible first | apply Below.drew | refine Below.setCell ?_ (by dsimp only; omega) _ | refine Below.alloc ?_ (by first | omega | (simp only [World.size_alloc, World.size_setCell]; omega)) _))
end Go.Proofs.Ythlpaglldhgmfaa.PA
