/- RetimeOwn: rows that are written over; what lies elsewhere. -/
import Derived.Test.YthlpaglldhgmfaaLh6
namespace Go.Proofs.Ythlpaglldhgmfaa.PA
open Go Go.RowKit Go.Proofs.YthlpaglldhgmfaaW.PrintWords Go.Proofs.YthlpaglldhgmfaaW.PrintLast Go.Proofs.YthlpaglldhgmfaaW.PrintMore
set_option linter.unusedSimpArgs false
set_option linter.unusedVariables false
/-- a row's block, whatever its cells hold -/
def VR (w : World) (g n cap size : Nat) (e : TypeId) : Prop := n ≤ cap ∧ cap ≤ maxLen ∧ ∃ C, w.heap[g]? = some (.cells C e (0, 0)) ∧ C.size = cap * size
theorem VR.of_own {w : World} {base g n cap size : Nat} {e : TypeId} {xs : List Value} (h : w.ownsRow base e size (.slice (some ⟨g, 0, none⟩) n cap) n xs) : VR w g n cap size e := by
  rcases h.2 with ⟨h0, _⟩ | ⟨g', cap', cur, hv, hb, hg, hn, hm, hs, ht⟩
  · cases h0
  · cases hv; exact ⟨hn, hm, cur, hg, hs⟩
theorem VR.own {w : World} {base g n cap size : Nat} {e : TypeId} (h : VR w g n cap size e) (hb : base ≤ g) : ∃ xs, w.ownsRow base e size (.slice (some ⟨g, 0, none⟩) n cap) n xs := by
  obtain ⟨hn, hm, C, hg, hs⟩ := h
  refine ⟨C.toList.take (n * size), ?_, .inr ⟨g, cap, C, rfl, hb, hg, hn, hm, hs, rfl⟩⟩
  rw [List.length_take, Array.length_toList, hs]
  have := Nat.mul_le_mul_right size hn
  omega
theorem VR.set {w : World} {g n cap size : Nat} {e : TypeId} (h : VR w g n cap size e) (i : Nat) (u : Value) : VR (w.setCell ⟨g, i, none⟩ u) g n cap size e := by
  obtain ⟨hn, hm, C, hg, hs⟩ := h
  exact ⟨hn, hm, C.setIfInBounds i u, by rw [Hand.q1, hg]; rfl, by simp [hs]⟩
theorem VR.keep {w w' : World} {g n cap size : Nat} {e : TypeId} (h : VR w g n cap size e) (k : w'.heap[g]? = w.heap[g]?) : VR w' g n cap size e := by
  obtain ⟨hn, hm, C, hg, hs⟩ := h
  exact ⟨hn, hm, C, by rw [k]; exact hg, hs⟩
theorem VR.below {w w' : World} {g n cap size : Nat} {e : TypeId} (h : VR w g n cap size e) (k : Below w.heap.size w w') : VR w' g n cap size e := by
  obtain ⟨hn, hm, C, hg, hs⟩ := h
  exact ⟨hn, hm, C, Hand.kb k hg, hs⟩
theorem VR.lt {w : World} {g n cap size : Nat} {e : TypeId} (h : VR w g n cap size e) : g < w.heap.size := by
  obtain ⟨hn, hm, C, hg, hs⟩ := h
  exact (Hand.hz hg).1
theorem VR.cell {w : World} {g n cap size : Nat} {e : TypeId} (h : VR w g n cap size e) (i : Nat) (hi : i < cap * size) : ∃ u, w.cell? ⟨g, i, none⟩ = some u ∧ w.frozen? ⟨g, i, none⟩ = false := by
  obtain ⟨hn, hm, C, hg, hs⟩ := h
  exact ⟨_, Hand.cell_of hg _ _ (Array.getElem?_eq_getElem (by omega)), Hand.free_of hg i⟩
theorem F2.trans {g h : Nat} {a b c : World} (f : F2 g h a b) (k : F2 g h b c) : F2 g h a c :=
  ⟨k.os.trans f.os, k.tape.trans f.tape, k.output.trans f.output, Nat.le_trans f.size k.size, fun i hi h1 h2 => (k.block i (Nat.lt_of_lt_of_le hi f.size) h1 h2).trans (f.block i hi h1 h2)⟩
theorem F2.wide {g : Nat} {a b : World} (f : F2 g g a b) (h : Nat) : F2 g h a b := ⟨f.os, f.tape, f.output, f.size, fun i hi h1 _ => f.block i hi h1 h1⟩
theorem F2.widel {g : Nat} {a b : World} (f : F2 g g a b) (h : Nat) : F2 h g a b := ⟨f.os, f.tape, f.output, f.size, fun i hi _ h1 => f.block i hi h1 h1⟩
theorem F2.of_below {a b : World} (g h : Nat) (f : Below a.heap.size a b) : F2 g h a b := ⟨f.os, f.tape, f.output, f.size, fun i hi _ _ => f.block i hi⟩
theorem F2.grown {g h : Nat} {a w w' : World} (f : F2 g h a w) {row : Option Nat} (k : w.grownBy w' row) (hr : ∀ q, row = some q → q = g ∨ q = h ∨ a.heap.size ≤ q) : F2 g h a w' :=
  ⟨k.os.trans f.os, k.tape.trans f.tape, k.output.trans f.output, Nat.le_trans f.size k.size, fun i hi h1 h2 => (k.block i (Nat.lt_of_lt_of_le hi f.size) (fun e => by rcases hr i e.symm with h | h | h <;> omega)).trans (f.block i hi h1 h2)⟩
theorem MapA.f2 {w w' : World} {g h p : Nat} {ak as_ : Addr} {ck cs : Nat} {m : MapV} (a : MapA w p ak as_ ck cs m) (f : F2 g h w w') (h1 : p ≠ g ∧ p ≠ h) (h2 : ak.block ≠ g ∧ ak.block ≠ h) (h3 : as_.block ≠ g ∧ as_.block ≠ h) : MapA w' p ak as_ ck cs m :=
  ⟨f.kb a.blk h1.1 h1.2, a.kn.f2 f h2.1 h2.2, a.sl.f2 f h3.1 h3.2⟩
theorem RtS.f2 {w w' : World} {g h : Nat} {A : Option Addr} {l : List Rt} (r : RtS w A l) (f : F2 g h w w') (hn : l = [] ∨ ∀ ad, A = some ad → ad.block ≠ g ∧ ad.block ≠ h) : RtS w' A l := by
  rcases r with r | ⟨ad, h1, h2⟩
  · exact .inl r
  · rcases hn with hn | hn
    · exact .inl hn
    · exact .inr ⟨ad, h1, h2.f2 f (hn ad h1).1 (hn ad h1).2⟩
theorem rts_lt {w : World} {A : Option Addr} {l : List Rt} (r : RtS w A l) : l = [] ∨ ∃ ad, A = some ad ∧ ad.block < w.heap.size ∧ RtA w ad l := by
  cases l with
  | nil => exact .inl rfl
  | cons t l =>
    rcases r with r | ⟨ad, h1, h2⟩
    · cases r
    · exact .inr ⟨ad, h1, World.block_lt_of_cell? w _ h2.zero.1, h2⟩
theorem own_rts {w : World} {base n : Nat} {e : TypeId} {v : Value} {l : List Rt} (h : w.ownsRow base e 2 v n (flatT l)) : ∃ A c, v = .slice A l.length c ∧ n = l.length ∧ RtS w A l ∧ ((l = [] ∧ v = .slice none 0 0) ∨ ∃ g, A = some ⟨g, 0, none⟩ ∧ base ≤ g ∧ g < w.heap.size ∧ VR w g n c 2 e) := by
  have hl := h.1
  rw [flatT_len] at hl
  have hn : n = l.length := by omega
  rcases h.2 with ⟨h0, h1⟩ | ⟨g, cap, cur, hv, hb, r⟩
  · have : l = [] := List.length_eq_zero_iff.mp (by omega)
    subst this
    exact ⟨none, 0, h0, hn, .inl rfl, .inl ⟨rfl, h0⟩⟩
  · have hlt := h.lt g (by rw [hv]; rfl)
    refine ⟨some ⟨g, 0, none⟩, cap, by rw [hv, hn], hn, .inr ⟨_, rfl, ?_⟩, .inr ⟨g, rfl, hb, hlt.2, ?_⟩⟩
    · rw [hv] at h; exact own_rta h
    · rw [hv] at h; exact VR.of_own h
theorem MapA.lt {w : World} {p : Nat} {ak as_ : Addr} {ck cs : Nat} {m : MapV} (a : MapA w p ak as_ ck cs m) (ok : MapOk m) : p < w.heap.size ∧ ak.block < w.heap.size ∧ as_.block < w.heap.size := by
  refine ⟨(Hand.hz a.blk).1, ?_, ?_⟩
  · have h := a.kn 0 ok.k0
    rw [Nat.zero_mul, show ak.add 0 = ak from rfl] at h
    exact World.block_lt_of_cell? w _ h.1
  · have h := a.sl 0 ok.s0
    rw [Nat.zero_mul, show as_.add 0 = as_ from rfl] at h
    exact World.block_lt_of_cell? w _ h.1
end Go.Proofs.Ythlpaglldhgmfaa.PA
