/- RatioOwn: what sums and looks at a row tell of any row; a row as it is read. -/
import Derived.Deep.Slices
import Derived.ChangeSame
import Derived.ProofKit
import Derived.Test.YtofndakpenpkbaaDoorCmpO
import Derived.Test.YtofndakpenpkbaaDoorPLox1
import Derived.Test.YtofndakpenpkbaaDoorStrE
import Derived.Test.YtofndakpenpkbaaDoorRatQ
import Derived.OpenShut
namespace Go.Proofs.YtofndakpenpkbaaDoor.PA
open Go.RowKit Go.ChangeShapes Go.WideShapes Go.Proofs.YtofndakpenpkbaaDoorW.PrintWords Go.Proofs.YtofndakpenpkbaaDoor.PSn
set_option linter.unusedVariables false
theorem rd_at (l : List PSn.S24) (j : Nat) (h : j < l.length) : PSn.rd_T24 l (j : Int) = l[j] := by
  unfold PSn.rd_T24
  rw [Int.toNat_natCast, List.getD_eq_getElem?_getD, List.getElem?_eq_getElem h]; rfl
theorem wrap_succ (j : Nat) (h : j ≤ 3000) : wrap64 ((j : Int) + 1) = ((j + 1 : Nat) : Int) := by unfold wrap64; omega
def sumL (n d : Int) : List PSn.S24 → Int × Int × Int
  | [] => (n, d, 0)
  | r :: l => if (addS n d r.f0 r.f1).2.2 = 0 then sumL (addS n d r.f0 r.f1).1 (addS n d r.f0 r.f1).2.1 l else (0, 0, (addS n d r.f0 r.f1).2.2)
theorem addS_ok64 (a b c d : Int) : i64ok (addS a b c d).1 = true ∧ i64ok (addS a b c d).2.1 = true := by
  by_cases hr : (rightS a b && rightS c d) = true
  · rw [Bool.and_eq_true] at hr
    rw [addS_T3 hr.1 hr.2]
    unfold T3
    split
    · rename_i hc
      exact ⟨i64ok_iff.mpr (by dsimp only; omega), i64ok_iff.mpr (by dsimp only; omega)⟩
    · exact ⟨by decide, by decide⟩
  · rw [(bad2 (by simpa only [Bool.not_eq_true] using hr)).1]; exact ⟨by decide, by decide⟩
def okL (l : List PSn.S24) : Prop := ∀ r ∈ l, i64ok r.f0 = true ∧ i64ok r.f1 = true
theorem okL_at {l : List PSn.S24} (h : okL l) (j : Nat) (hj : j < l.length) : i64ok l[j].f0 = true ∧ i64ok l[j].f1 = true := h _ (List.getElem_mem hj)
theorem sum_ratio (l : List PSn.S24) (hl : okL l) (hn : l.length ≤ 3000) : ∀ (m j k : Nat) (n d : Int), l.length - j = m → j ≤ l.length → m < k → i64ok n = true → i64ok d = true →
    ratio_Sum.l0 k l (l.length : Int) (j : Int) n d = some (sumL n d (l.drop j)) := by
  intro m
  induction m with
  | zero =>
    intro j k n d hm hj hk h1 h2
    obtain ⟨k, rfl⟩ : ∃ q, k = q + 1 := ⟨k - 1, by omega⟩
    simp only [ratio_Sum.l0]
    rw [if_neg (by omega), List.drop_of_length_le (by omega)]; rfl
  | succ m ih =>
    intro j k n d hm hj hk h1 h2
    obtain ⟨k, rfl⟩ : ∃ q, k = q + 1 := ⟨k - 1, by omega⟩
    have hjl : j < l.length := by omega
    have ho := okL_at hl j hjl
    have ha := addS_ok64 n d l[j].f0 l[j].f1
    simp only [ratio_Sum.l0]
    rw [if_pos (by omega), if_pos (by omega), if_pos (by omega), rd_at l j hjl, List.drop_eq_getElem_cons hjl]
    unfold ratio_Add.f
    rw [if_pos ⟨h1, h2, ho.1, ho.2⟩]
    simp only [Option.bind_some, sumL]
    by_cases h0 : (addS n d l[j].f0 l[j].f1).2.2 = 0
    · rw [if_pos h0, if_pos h0, wrap_succ j (by omega)]
      exact ih (j + 1) k _ _ (by omega) (by omega) (by omega) ha.1 ha.2
    · rw [if_neg h0, if_neg h0]
theorem best_o (side : Int) (l : List PSn.S24) (hl : okL l) (hn : l.length ≤ 3000) : ∀ (m j k : Nat) (n d : Int), l.length - j = m → j ≤ l.length → m < k → i64ok n = true →
    ∃ r, PLo.ratio_best.l0 k side l (l.length : Int) (j : Int) n d = some r := by
  intro m
  induction m with
  | zero =>
    intro j k n d hm hj hk h1
    obtain ⟨k, rfl⟩ : ∃ q, k = q + 1 := ⟨k - 1, by omega⟩
    simp only [PLo.ratio_best.l0]
    rw [if_neg (by omega)]; exact ⟨_, rfl⟩
  | succ m ih =>
    intro j k n d hm hj hk h1
    obtain ⟨k, rfl⟩ : ∃ q, k = q + 1 := ⟨k - 1, by omega⟩
    have hjl : j < l.length := by omega
    have ho := okL_at hl j hjl
    simp only [PLo.ratio_best.l0]
    rw [if_pos (by omega), if_pos (by omega), if_pos (by omega), rd_at l j hjl]
    unfold ratio_CmpO.f
    rw [if_pos ⟨ho.1, h1⟩]
    simp only [Option.bind_some]
    rw [wrap_succ j (by omega)]
    split
    · exact ih (j + 1) k _ _ (by omega) (by omega) (by omega) ho.1
    · exact ih (j + 1) k _ _ (by omega) (by omega) (by omega) h1
theorem best_f (side : Int) (l : List PSn.S24) (hl : okL l) (hn : l.length ≤ 3000) (k : Nat) (hk : 3000 < k) : ∃ r, PLo.ratio_best.f k side l = some r := by
  unfold PLo.ratio_best.f
  cases l with
  | nil => exact ⟨_, rfl⟩
  | cons r l =>
    have hlen : (r :: l).length = l.length + 1 := rfl
    rw [if_neg (by rw [hlen]; omega), if_pos (by rw [hlen]; omega), if_pos (by rw [hlen]; omega)]
    simp only [Option.bind_some]
    have e : PSn.rd_T24 (r :: l) 0 = r := rfl
    rw [e, show (r :: l).drop 1 = l from rfl]
    have h := best_o side l (fun x hx => hl x (List.mem_cons_of_mem _ hx)) (by rw [hlen] at hn; omega) l.length 0 k r.f0 r.f1 (by omega) (by omega) (by rw [hlen] at hn; omega) (hl r List.mem_cons_self).1
    exact h
/-- the three calls: they come back, and they write nothing that was there -/
theorem sum_o (l : List PSn.S24) (hl : okL l) (hn : l.length ≤ 3000) (A : Option Addr) (cap : Nat) (hc : l.length ≤ cap) : ∃ x y z, ∀ w, Kd.C PSn.k24 w A l.length l →
    Calls Tryd.prog 34 #[.slice A l.length cap] w fun e w' => e = .returned (.tuple #[.agg #[.int .i64 x, .int .i64 y], .int .i64 z]) ∧ Below w.heap.size w w' := by
  have h1 := sum_ratio l hl (by omega) l.length 0 3001 0 1 (by omega) (by omega) (by omega) (by decide) (by decide)
  exact ⟨_, _, _, fun w hC => PSn.ratio_Sum.calls 3001 A cap l _ _ _ w hC hc h1⟩
theorem least_o (l : List PSn.S24) (hl : okL l) (hn : l.length ≤ 3000) (A : Option Addr) (cap : Nat) (hc : l.length ≤ cap) : ∃ (x y : Int) (z : Bool), ∀ w, Kd.C PSn.k24 w A l.length l →
    Calls Tryd.prog 36 #[.slice A l.length cap] w fun e w' => e = .returned (.tuple #[.agg #[.int .i64 x, .int .i64 y], .bool z]) ∧ Below w.heap.size w w' := by
  obtain ⟨⟨x, y, z⟩, h1⟩ := best_f (-1) l hl hn 3001 (by omega)
  exact ⟨x, y, z, fun w hC => PLo.ratio_Least.calls 3001 A cap l _ _ _ w hC hc (by unfold PLo.ratio_Least.f; rw [h1]; rfl)⟩
theorem most_o (l : List PSn.S24) (hl : okL l) (hn : l.length ≤ 3000) (A : Option Addr) (cap : Nat) (hc : l.length ≤ cap) : ∃ (x y : Int) (z : Bool), ∀ w, Kd.C PSn.k24 w A l.length l →
    Calls Tryd.prog 38 #[.slice A l.length cap] w fun e w' => e = .returned (.tuple #[.agg #[.int .i64 x, .int .i64 y], .bool z]) ∧ Below w.heap.size w w' := by
  obtain ⟨⟨x, y, z⟩, h1⟩ := best_f 1 l hl hn 3001 (by omega)
  exact ⟨x, y, z, fun w hC => PLo.ratio_Most.calls 3001 A cap l _ _ _ w hC hc (by unfold PLo.ratio_Most.f; rw [h1]; rfl)⟩
end Go.Proofs.YtofndakpenpkbaaDoor.PA
namespace Go.Proofs.YtofndakpenpkbaaDoor.PA
open Go.RowKit Go.ChangeShapes Go.WideShapes Go.Deep Go.Proofs.YtofndakpenpkbaaDoorW.PrintWords Go.Proofs.YtofndakpenpkbaaDoor.PSn
set_option linter.unusedVariables false
section
variable {H : Type} {enc : TypeId × Value → H} {w : World} {base : Nat} {spare : Nat → Bool} {held : Bool}
theorem cells_R : Tryd.prog.cellsOf 24 = 2 := by kernel_rfl
set_option maxRecDepth 100000 in
/-- a ratio's two cells, as they read -/
theorem two_of {fuel : Nat} {cs : List Value} {x : DataW H × List MemPlace} (h : DataW.trod enc Tryd.prog w base spare held fuel 24 cs = some x) :
    ∃ a b : Int, cs = [.int .i64 a, .int .i64 b] ∧ i64ok a = true ∧ i64ok b = true := by
  obtain ⟨xs, n, _, _, hc, hl, hf⟩ := DataW.trod_struct Tryd.underlying24 h
  rw [cells_R] at hc
  match cs, hc with
  | [c0, c1], _ =>
    have h0 := hf 0 _ rfl
    have h1 := hf 1 _ rfl
    match xs, hl with
    | [y0, y1], _ =>
      have e0 : DataW.trod enc Tryd.prog w base spare held n 2 [c0] = some y0 := h0
      have e1 : DataW.trod enc Tryd.prog w base spare held n 2 [c1] = some y1 := h1
      obtain ⟨a, ha, _, wa⟩ := DataW.trod_int Tryd.underlying2 e0
      obtain ⟨b, hb, _, wb⟩ := DataW.trod_int Tryd.underlying2 e1
      simp at ha hb
      subst ha hb
      exact ⟨a, b, rfl, i64ok_iff.mpr (bounds_i64 wa), i64ok_iff.mpr (bounds_i64 wb)⟩
theorem slice_R {A : Option Addr} {len cap : Nat} {d : DataW H} {p : List MemPlace} {t : TypeId} (ht : Tryd.prog.underlying t = some (.slice 24)) (h : DataW.Trod enc Tryd.prog w base spare held t (.slice A len cap) d p) :
    ∃ l : List PSn.S24, l.length = len ∧ Kd.C PSn.k24 w A l.length l ∧ l.length ≤ cap ∧ okL l := by
  obtain ⟨fuel, hf⟩ := h
  rcases open_slice ht hf with ⟨hcs, _⟩ | ⟨a, len', cap', m, n, D, Pl, hcs, hb, hl, hm, hmm, _, hi⟩
  · simp [Value.cells] at hcs
    obtain ⟨rfl, rfl, rfl⟩ := hcs
    exact ⟨[], rfl, ⟨rfl, by decide, fun h => absurd h (by decide)⟩, by decide, fun r hr => by simp at hr⟩
  · simp [Value.cells] at hcs
    obtain ⟨rfl, rfl, rfl⟩ := hcs
    have hle : len ≤ m := by rw [hmm]; split <;> omega
    have key : ∀ i, ∃ r : PSn.S24, i < len → w.cell? (a.add (i * 2)) = some (.int .i64 r.f0) ∧ w.cell? (a.add (i * 2 + 1)) = some (.int .i64 r.f1) ∧ i64ok r.f0 = true ∧ i64ok r.f1 = true := fun i => by
      by_cases hil : i < len
      · obtain ⟨cs', hc, htr⟩ := hi i (by omega)
        rw [cells_R] at hc
        obtain ⟨x, y, rfl, hx, hy⟩ := two_of htr
        obtain ⟨_, _, hat⟩ := World.cells?_some hc
        refine ⟨⟨x, y⟩, fun _ => ⟨hat 0 (by decide), ?_, hx, hy⟩⟩
        have := hat 1 (by decide)
        rw [Go.Deep.add_add] at this
        exact this
      · exact ⟨⟨0, 0⟩, fun h => absurd h hil⟩
    obtain ⟨f, hf'⟩ := Classical.axiomOfChoice key
    refine ⟨(List.range len).map f, by simp, ⟨rfl, ?_, fun _ => ⟨a, rfl, fun j p hj => ?_⟩⟩, by simpa using hl, fun r hr => ?_⟩
    · have : maxLen ≤ 9223372036854775807 := by decide
      simp only [List.length_map, List.length_range]; omega
    · rw [List.getElem?_map] at hj
      have hjl : j < len := by
        by_cases h : j < len
        · exact h
        · rw [List.getElem?_eq_none (by simpa using h)] at hj; simp at hj
      rw [List.getElem?_range hjl] at hj
      simp only [Option.map_some, Option.some.injEq] at hj
      subst hj
      obtain ⟨h0, h1, _⟩ := hf' j hjl
      refine ⟨[.int .i64 (f j).f0, .int .i64 (f j).f1], rfl, PSn.k24_mk w (f j), fun i u hu => ?_⟩
      match i, hu with
      | 0, hu => simp at hu; subst hu; exact h0
      | 1, hu => simp at hu; subst hu; exact h1
    · simp only [List.mem_map, List.mem_range] at hr
      obtain ⟨j, hj, rfl⟩ := hr
      exact (hf' j hj).2.2
end
end Go.Proofs.YtofndakpenpkbaaDoor.PA
