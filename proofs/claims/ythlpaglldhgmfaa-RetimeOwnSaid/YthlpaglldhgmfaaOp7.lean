/- Chapter 6: how long a slice that is read can be. -/
import Derived.Test.YthlpaglldhgmfaaOp6
import Derived.SizedLaws
namespace Go.Proofs.Ythlpaglldhgmfaa.PA
open Go Go.RowKit Go.ChangeShapes Go.WideShapes Go.Deep
set_option linter.unusedVariables false
section
variable {H : Type} {enc : TypeId × Value → H} {w : World} {base : Nat} {spare : Nat → Bool} {held : Bool}
theorem slice_dat {A : Option Addr} {len cap : Nat} {d : DataW H} {p : List MemPlace} {t e : TypeId} (ht : Try.prog.underlying t = some (.slice e)) (h : DataW.Trod enc Try.prog w base spare held t (.slice A len cap) d p) :
    len = 0 ∨ ∃ el sp, d = .slice el sp ∧ el.length = len := by
  obtain ⟨fuel, hf⟩ := h
  rcases open_slice ht hf with ⟨hcs, _⟩ | ⟨a, len', cap', m, n, D, Pl, hcs, hb, hl, hm, hmm, hx, hi⟩
  · simp [Value.cells] at hcs
    exact .inl hcs.2.1
  · simp [Value.cells] at hcs
    obtain ⟨rfl, rfl, rfl⟩ := hcs
    simp only [Prod.mk.injEq] at hx
    exact .inr ⟨_, _, hx.1, by simp⟩
theorem room_K {A : Option Addr} {len cap : Nat} {d : DataW H} {p : List MemPlace} (h : DataW.Trod enc Try.prog w base spare held 22 (.slice A len cap) d p) {ts : List TypeId} {ds : List (DataW H)} (hz : (DataW.weightsEach Try.prog ts ds).all (· ≤ reachBytes) = true) {j : Nat} (h1 : ts[j]? = some 22) (h2 : ds[j]? = some d) : len * 32 ≤ 140737488355328 := by
  rcases slice_dat Try.underlying22 h with h0 | ⟨el, sp, hd, hl⟩
  · omega
  · have := sized_slice hz h1 (by rw [h2, hd]) Try.underlying22
    have hb : Try.prog.bytesOf 35 = 32 := by kernel_rfl
    rw [hb, hl] at this
    have := reachBytes_lt
    omega
end
end Go.Proofs.Ythlpaglldhgmfaa.PA
