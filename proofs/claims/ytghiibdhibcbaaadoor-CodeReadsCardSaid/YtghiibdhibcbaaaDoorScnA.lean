/- code: scan.number. -/
import Derived.Test.YtghiibdhibcbaaaDoorFmtT
import Derived.Lib.ConvBytes
namespace Go.Proofs.YtghiibdhibcbaaaDoor.PA
open Go Go.RowKit Go.Proofs.YtghiibdhibcbaaaDoorW.PrintWords Go.Proofs.YtghiibdhibcbaaaDoorW.PrintLast Go.Proofs.YtghiibdhibcbaaaDoorW.PrintMore
set_option linter.unusedSimpArgs false
set_option linter.unusedVariables false
/-- the reader's block -/
abbrev scan (s : ByteArray) (b : Bool) : Obj := .cells #[.string s, .bool b] 79 (0, 0)
/-- what a method leaves: its block, and all that lies below the base as it was -/
abbrev SL (w0 w' : World) (g : Nat) (s : ByteArray) (b : Bool) : Prop := w'.heap[g]? = some (scan s b) ∧ Below w0.heap.size w0 w'
set_option maxHeartbeats 800000 in
set_option maxRecDepth 100000 in
theorem number_short (s : ByteArray) (b : Bool) (n : Int) (g : Nat) (w0 w : World) (hg : w0.heap.size ≤ g) (hx : w.heap[g]? = some (scan s b)) (hB : Below w0.heap.size w0 w) (h : (s.size : Int) < n ∨ n < 1) :
    Calls Tryd.prog 73 #[.pointer (some ⟨g, 0, none⟩), .int .i64 n] w fun e w' => e = .returned (.int .i64 0) ∧ SL w0 w' g s true := by
  obtain ⟨c0, f0, c1, f1⟩ := Hand.hc2 hx
  have HX := Lib.hid hx
  have HB := Lib.hid hB
  have HH := Lib.hid h
  clear hx hB h
  go_enter Tryd.func73, Tryd.ntmps73
  go_wp2
  all_goals first
    | (exfalso; have := HH.out; omega)
    | (go_ret; exact ⟨rfl, by rw [Hand.q1, HX.out]; rfl, HB.out.setCell (by dsimp only; omega) _⟩)
/-- digits as a number, whatever they are; are they none? -/
def vg (l : List UInt8) : Int := l.foldl (fun v c => 10 * v + ((c.toNat : Int) - 48) % 256) 0
def isD (c : UInt8) : Bool := decide (48 ≤ c.toNat) && decide (c.toNat ≤ 57)
def noD (l : List UInt8) : Bool := l.any (fun c => !isD c)
theorem vg_snoc (l : List UInt8) (c : UInt8) : vg (l ++ [c]) = 10 * vg l + ((c.toNat : Int) - 48) % 256 := by unfold vg; rw [List.foldl_append]; rfl
theorem noD_snoc (l : List UInt8) (c : UInt8) : noD (l ++ [c]) = (noD l || !isD c) := by unfold noD; rw [List.any_append]; simp
theorem snoc_ind {P : List UInt8 → Prop} (h0 : P []) (h1 : ∀ l c, P l → P (l ++ [c])) (l : List UInt8) : P l := by
  rw [← List.reverse_reverse l]
  induction l.reverse with
  | nil => exact h0
  | cons c l ih => rw [List.reverse_cons]; exact h1 _ _ ih
theorem vg_le (l : List UInt8) : 0 ≤ vg l ∧ vg l + 29 ≤ 29 * 10 ^ l.length := by
  refine snoc_ind (P := fun l => 0 ≤ vg l ∧ vg l + 29 ≤ 29 * 10 ^ l.length) ⟨by decide, by decide⟩ (fun l c h => ?_) l
  rw [vg_snoc, List.length_append, List.length_singleton, Int.pow_succ]
  omega
theorem vg_9 {l : List UInt8} (h : l.length ≤ 9) : 0 ≤ vg l ∧ vg l ≤ 29000000000 := by
  have h1 := vg_le l
  have h2 : (10 : Nat) ^ l.length ≤ 10 ^ 9 := Nat.pow_le_pow_right (by decide) h
  have h3 : (10 : Int) ^ l.length = (((10 : Nat) ^ l.length : Nat) : Int) := by simp
  omega
theorem take_snoc (l : List UInt8) (i : Nat) (h : i < l.length) : l.take (i + 1) = l.take i ++ [l.getD i 0] := by
  rw [List.take_succ_eq_append_getElem h, List.getD_eq_getElem?_getD, List.getElem?_eq_getElem h]; rfl
def loopN (w0 wr : World) (g m k : Nat) (S : ByteArray) (b : Bool) (l : List UInt8) (v x : Value) : Prop :=
  ∃ i : Nat, i ≤ k ∧ v = .int .i64 (vg (l.take i)) ∧ x = .int .i64 i ∧ wr.heap[g]? = some (scan S (b || noD (l.take i))) ∧ (∀ j, j < k → wr.cell? ⟨m, j, none⟩ = some (.int .u8 ((l.getD j 0).toNat : Int))) ∧ m < wr.heap.size ∧ Below w0.heap.size w0 wr
set_option maxHeartbeats 1600000 in
set_option maxRecDepth 100000 in
theorem number_in (S L R : ByteArray) (b : Bool) (k : Nat) (g : Nat) (w0 w : World) (hg : w0.heap.size ≤ g) (hx : w.heap[g]? = some (scan S b)) (hB : Below w0.heap.size w0 w) (k1 : 1 ≤ k) (k2 : k ≤ 9) (hk : (k : Int) ≤ (S.size : Int)) (e1 : S.extract 0 k = L) (e2 : S.extract k S.size = R) (hL : L.size = k) :
    Calls Tryd.prog 73 #[.pointer (some ⟨g, 0, none⟩), .int .i64 (k : Int)] w fun e w' => e = .returned (.int .i64 (vg L.data.toList)) ∧ SL w0 w' g R (b || noD L.data.toList) := by
  obtain ⟨c0, f0, c1, f1⟩ := Hand.hc2 hx
  have kc : ∀ w, (convert 9 92 (.string L)).run Tryd.prog w = .ok (.slice (some ⟨w.heap.size, 0, none⟩) L.size (grownCap w L.size 0 5)) (Lib.bytesWorld w 5 L) := fun w => Lib.run_convert_string_bytes w _ _ _ L Tryd.underlying9 Tryd.underlying92 Tryd.underlying5
  have HX := Lib.hid hx
  have HB := Lib.hid hB
  have hs1 : decide (S.size < k) = false := decide_eq_false (by omega)
  have hs2 : decide ((S.size : Int) < (k : Int)) = false := decide_eq_false (by omega)
  have hs3 : decide ((k : Int) < 1) = false := decide_eq_false (by omega)
  clear hx hB
  go_enter Tryd.func73, Tryd.ntmps73
  go_wp2
  clear hs1 hs2 hs3
  go_loopw [5, 30] (fun v x wr => loopN w0 wr g w.heap.size k S b L.data.toList v x) (fun _ x _ => k - (intOf x).toNat)
  case atStart =>
    have hgl : g < w.heap.size := (Array.getElem?_eq_some_iff.1 HX.out).1
    refine ⟨0, Nat.zero_le _, rfl, rfl, ?_, ?_, ?_, ?_⟩
    · rw [Lib.bytesWorld_at_old w _ L g hgl, HX.out]; simp [noD]
    · intro j hj; exact Lib.bytesWorld_cell w _ L j (by omega)
    · rw [Lib.bytesWorld_size]; omega
    · exact ⟨HB.out.os, HB.out.tape, HB.out.output, by rw [Lib.bytesWorld_size]; have := HB.out.size; omega, fun i hi => (Lib.bytesWorld_at_old w _ L i (by have := HB.out.size; omega)).trans (HB.out.block i hi)⟩
  case round =>
    obtain ⟨i, hi, rfl, rfl, q1, q2, q3, q4⟩ := hrel
    have hLl : L.data.toList.length = k := by rw [Array.length_toList]; exact hL
    have hv := vg_9 (l := L.data.toList.take i) (by rw [List.length_take]; omega)
    obtain ⟨V, hV⟩ : ∃ V, vg (L.data.toList.take i) = V := ⟨_, rfl⟩
    obtain ⟨B, hBB⟩ : ∃ B, (b || noD (L.data.toList.take i)) = B := ⟨_, rfl⟩
    rw [hV] at hv ⊢
    rw [hBB] at q1
    obtain ⟨c0, f0, c1, f1⟩ := Hand.hc2 q1
    have hmg : w.heap.size ≠ g := by have := (Array.getElem?_eq_some_iff.1 HX.out).1; omega
    by_cases hlt : i < k
    · have hc := q2 i hlt
      have ht := take_snoc L.data.toList i (by omega)
      obtain ⟨c, hcc⟩ : ∃ c, L.data.toList.getD i 0 = c := ⟨_, rfl⟩
      rw [hcc] at hc ht
      have hn1 := vg_snoc (L.data.toList.take i) c
      have hn2 := noD_snoc (L.data.toList.take i) c
      rw [← ht, hV] at hn1
      rw [← ht] at hn2
      have hcb : c.toNat ≤ 255 := by have := c.toNat_lt; omega
      obtain ⟨u, hu⟩ : ∃ u, c.toNat = u := ⟨_, rfl⟩
      have HN := Lib.hid hn1
      have HN2 := Lib.hid hn2
      have HU := Lib.hid hu
      have HV := Lib.hid hV
      have HBB := Lib.hid hBB
      have Q1 := Lib.hid q1
      have Q2 := Lib.hid q2
      have HT := Lib.hid ht
      have HCC := Lib.hid hcc
      have HL := Lib.hid hL
      have HLl := Lib.hid hLl
      rw [hu] at hc hcb
      have key := Lib.hid (fun (x : Int) (wr' : World) (B' : Bool) (h1 : x = 10 * V + ((u : Int) - 48) % 256) (h2 : B' = (B || !isD c)) (h3 : wr'.heap[g]? = some (scan S B')) (h4 : ∀ j, j < k → wr'.cell? ⟨w.heap.size, j, none⟩ = wr.cell? ⟨w.heap.size, j, none⟩) (h5 : w.heap.size < wr'.heap.size) (h6 : Below w0.heap.size w0 wr') =>
        (⟨i + 1, hlt, by rw [HN.out, HU.out, h1], by rw [Int.natCast_add]; rfl, by rw [h3, h2, HN2.out, ← HBB.out, Bool.or_assoc], fun j hj => (h4 j hj).trans (Q2.out j hj), h5, h6⟩ : loopN w0 wr' g w.heap.size k S b L.data.toList (.int .i64 x) (.int .i64 ((i : Int) + 1))))
      clear hn1 hn2 hu hV hBB q1 q2 ht hcc hLl hL
      rcases (by omega : u < 48 ∨ 57 < u ∨ (48 ≤ u ∧ u ≤ 57)) with h1 | h1 | ⟨h1, h2⟩
      all_goals
        go_wp2
        go_roundw
        case rel =>
          first
            | exact key.out _ _ true (by first | rfl | omega) (by rw [show isD c = false by unfold isD; rw [HU.out]; simp; omega]; simp) (by rw [Hand.q1, Q1.out]; rfl) (fun j hj => World.cell?_setCell_other _ _ _ _ (fun e => hmg (by have := congrArg Addr.block e; first | exact this | exact this.symm))) (by rw [Hand.ss]; exact q3) (q4.setCell (by dsimp only; omega) _)
            | exact key.out _ _ B (by first | rfl | omega) (by rw [show isD c = true by unfold isD; rw [HU.out]; simp; omega]; simp) Q1.out (fun j hj => rfl) q3 q4
        case measure => simp [intOf]; omega
    · have hik : i = k := by omega
      subst hik
      have ht : L.data.toList.take i = L.data.toList := List.take_of_length_le (by omega)
      rw [ht] at hV hBB
      have HV := Lib.hid hV
      have HBB := Lib.hid hBB
      have Q1 := Lib.hid q1
      have Q2 := Lib.hid q2
      clear hV hBB q1 q2 ht
      go_wp2
      go_ret
      exact ⟨by rw [HV.out]; rfl, by rw [Hand.q1, Q1.out, HBB.out]; rfl, q4.setCell (by dsimp only; omega) _⟩
end Go.Proofs.YtghiibdhibcbaaaDoor.PA
