/- Chapter 6: a map's slope at a piece. -/
import Derived.Test.YthlpaglldhgmfaaChk6
import Derived.StillTailTactics
namespace Go.Proofs.Ythlpaglldhgmfaa.PA
open Go Go.RowKit Go.Proofs.YthlpaglldhgmfaaW.PrintWords Go.Proofs.YthlpaglldhgmfaaW.PrintLast Go.Proofs.YthlpaglldhgmfaaW.PrintMore
set_option linter.unusedSimpArgs false
set_option linter.unusedVariables false
/-- a slice's ratios as they lie -/
def RtA (w : World) (ad : Addr) (l : List Rt) : Prop := ∀ j (h : j < l.length), w.cell? (ad.add (j * 2)) = some (.int .i64 l[j].1) ∧ w.cell? ⟨(ad.add (j * 2)).block, (ad.add (j * 2)).off + 1, none⟩ = some (.int .i64 l[j].2)
theorem RtA.below {w w' : World} {ad : Addr} {l : List Rt} (h : RtA w ad l) (hb : Below w.heap.size w w') : RtA w' ad l := fun j hj => by
  obtain ⟨a, b⟩ := h j hj
  have st : ∀ p v, w.cell? p = some v → w'.cell? p = some v := fun p v hp => (hb.cell (World.block_lt_of_cell? w _ hp)).trans hp
  exact ⟨st _ _ a, st _ _ b⟩
set_option maxHeartbeats 800000 in
set_option maxRecDepth 100000 in
theorem slope_any (p : Nat) (kv_ : Value) (as_ : Addr) (ns cs : Nat) (bn : Int) (i : Nat) (l : List Rt) (w : World) (hm : w.heap[p]? = some (.cells #[kv_, .slice (some as_) ns cs, .int .i64 bn] 70 (0, 0))) (hS : RtA w as_ l) (hn : ns = l.length) (h0 : 0 < ns) (h1 : ns ≤ 64) (hi : i ≤ 100) :
    Calls Try.prog 86 #[.pointer (some ⟨p, 0, none⟩), .int .i64 (i : Int)] w fun e w' => e = .returned (rv (l.getD (min i (ns - 1)) (0, 0))) ∧ Below w.heap.size w w' := by
  obtain ⟨q, hq⟩ : ∃ q, min i (ns - 1) = q := ⟨_, rfl⟩
  have hql : q < l.length := by omega
  have HV := Lib.hid (show l.getD q (0, 0) = l[q] from by rw [List.getD_eq_getElem?_getD, List.getElem?_eq_getElem hql]; rfl)
  rw [hq, HV.out]
  have w1 : IntKind.i64.wrap ((ns : Int) - 1) = (ns : Int) - 1 := by rw [IntKind.wrap_i64]; omega
  have w2 : min (i : Int) ((ns : Int) - 1) = (q : Int) := by omega
  have p1 : (0 : Int) ≤ (q : Int) := by omega
  have p2 : ((q : Int) < (ns : Int)) = True := eq_true (by omega)
  have p3 : (q < ns) = True := eq_true (by omega)
  have HM := Lib.hid hm
  have HS := Lib.hid hS
  clear hm hS hn hq
  go_enter Try.func86, Try.ntmps86
  go_wp2_with fail
  obtain ⟨W, hW⟩ : ∃ W_, W_ = w.alloc (.cells #[.int .i64 0, .int .i64 0] 31) := ⟨_, rfl⟩
  rw [← hW]
  have hB : Below w.heap.size w W := by rw [hW]; exact (Below.refl _ _).alloc (Nat.le_refl _) _
  have gR : W.heap[w.heap.size]? = some (.cells #[.int .i64 0, .int .i64 0] 31 (0, 0)) := by rw [hW]; exact Hand.q3 _ _ _ rfl
  obtain ⟨c0, f0, c1, f1, c2, f2⟩ := Hand.hc3 (Hand.kb hB HM.out)
  obtain ⟨d0, d1⟩ := HS.out.below hB q hql
  obtain ⟨r0, fr0, r1, fr1⟩ := Hand.hc2 gR
  have HGR := Lib.hid gR
  clear hW gR
  go_still_tail 14, (by kernel_rfl)
  change wpList _ _ _ _ _ W.drew
  go_wp2
  refine bodyPost_ret (results_cell_row rfl _ _ (w.heap.size) 31 #[.int .i64 l[q].1, .int .i64 l[q].2] (0, 0) _ rfl ?_ Try.underlying31 rfl (by kernel_rfl)) rfl ⟨rfl, ?_⟩
  · simp (disch := omega) only [Hand.q5, Hand.q1, HGR.out]; rfl
  · repeat (with_reducible first | exact hB | apply Below.drew | refine Below.setCell ?_ (by dsimp only; omega) _)
end Go.Proofs.Ythlpaglldhgmfaa.PA
