/- Chapter 6: steps: one behind the other. -/
import Derived.Test.YthlpaglldhgmfaaChecked
import Derived.Test.YthlpaglldhgmfaaHand
import Derived.Deep.QuietTactic
import Derived.BigQuiet
import Derived.Deep.RegionHeld3
namespace Go.Proofs.Ythlpaglldhgmfaa.PA
open Go Go.RowKit Go.Proofs.YthlpaglldhgmfaaW.PrintWords Go.Proofs.YthlpaglldhgmfaaW.PrintLast Go.Proofs.YthlpaglldhgmfaaW.PrintMore
set_option linter.unusedSimpArgs false
set_option linter.unusedVariables false
/-- all but one block lies as it lay -/
structure Fx (g : Nat) (w w' : World) : Prop where
  os : w'.os = w.os
  tape : w'.tape = w.tape
  output : w'.output = w.output
  size : w.heap.size ≤ w'.heap.size
  block : ∀ k, k < w.heap.size → k ≠ g → w'.heap[k]? = w.heap[k]?
theorem Fx.refl (g : Nat) (w : World) : Fx g w w := ⟨rfl, rfl, rfl, Nat.le_refl _, fun _ _ _ => rfl⟩
theorem Fx.of_below {g : Nat} {w w' : World} (h : Below w.heap.size w w') : Fx g w w' := ⟨h.os, h.tape, h.output, h.size, fun k hk _ => h.block k hk⟩
theorem Fx.drewN {g : Nat} {w W : World} (h : Fx g w W) (n : Nat) : Fx g w (W.drewN n) := ⟨h.os, h.tape, h.output, h.size, h.block⟩
theorem Fx.setCell {g : Nat} {w W : World} (h : Fx g w W) (j : Nat) (u : Value) : Fx g w (W.setCell ⟨g, j, none⟩ u) := by
  have b := (Below.refl 0 W).setCell (p := ⟨g, j, none⟩) (Nat.zero_le _) u
  refine ⟨b.os.trans h.os, b.tape.trans h.tape, b.output.trans h.output, Nat.le_trans h.size b.size, fun k hk hne => ?_⟩
  rw [← h.block k hk hne]
  rcases Nat.lt_or_ge k g with hl | hl
  · exact ((Below.refl g W).setCell (p := ⟨g, j, none⟩) (Nat.le_refl _) u).block k hl
  · exact Below.heap_setCell _ _ _ _ hne
theorem Fx.below {g B : Nat} {a w w' : World} (h : Fx g w w') (hB : Below B a w) (hg : B ≤ g) (hs : B ≤ w.heap.size) : Below B a w' :=
  hB.trans ⟨h.os, h.tape, h.output, h.size, fun k hk => h.block k (by omega) (by omega)⟩
theorem Fx.kb {g k : Nat} {w w' : World} (h : Fx g w w') {o : Obj} (hk : w.heap[k]? = some o) (hne : k ≠ g) : w'.heap[k]? = some o := by
  have hl : k < w.heap.size := by
    rcases Nat.lt_or_ge k w.heap.size with hl | hl
    · exact hl
    · rw [Array.getElem?_eq_none hl] at hk; cases hk
  rw [h.block k hl hne]; exact hk
theorem Fx.step {g B : Nat} {a w w' : World} (h : Fx g a w) (k : Below B w w') (hB : a.heap.size ≤ B) : Fx g a w' :=
  ⟨k.os.trans h.os, k.tape.trans h.tape, k.output.trans h.output, Nat.le_trans h.size k.size, fun i hi hne => (k.block i (by omega)).trans (h.block i hi hne)⟩
theorem Fx.trans {g : Nat} {a b c : World} (h : Fx g a b) (k : Fx g b c) : Fx g a c :=
  ⟨k.os.trans h.os, k.tape.trans h.tape, k.output.trans h.output, Nat.le_trans h.size k.size, fun i hi hne => (k.block i (Nat.lt_of_lt_of_le hi h.size) hne).trans (h.block i hi hne)⟩
theorem Fx.cell {g : Nat} {w w' : World} (h : Fx g w w') (p : Addr) (hp : p.block < w.heap.size) (hne : p.block ≠ g) : w'.cell? p = w.cell? p := by
  unfold World.cell?
  rw [h.block _ hp hne]
theorem Fx.setNew {g k : Nat} {w W : World} (h : Fx g w W) (hk : w.heap.size ≤ k) (j : Nat) (u : Value) : Fx g w (W.setCell ⟨k, j, none⟩ u) :=
  h.step ((Below.refl w.heap.size W).setCell (p := ⟨k, j, none⟩) hk u) (Nat.le_refl _)
theorem Fx.alloc {g : Nat} {w W : World} (h : Fx g w W) (o : Obj) : Fx g w (W.alloc o) := h.step ((Below.refl w.heap.size W).alloc h.size o) (Nat.le_refl _)
theorem Fx.drew {g : Nat} {w W : World} (h : Fx g w W) : Fx g w W.drew := h.step ((Below.refl w.heap.size W).drew) (Nat.le_refl _)
end Go.Proofs.Ythlpaglldhgmfaa.PA
