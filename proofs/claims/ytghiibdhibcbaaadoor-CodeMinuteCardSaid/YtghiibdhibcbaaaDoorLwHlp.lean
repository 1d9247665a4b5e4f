/- The law's own helpers: a number below another, two and three digits. -/
import Derived.Test.YtghiibdhibcbaaaDoorRfF
import Derived.OpenShut
namespace Go.Proofs.YtghiibdhibcbaaaDoor.PA
open Go Go.RowKit Go.Proofs.YtghiibdhibcbaaaDoorW.PrintWords Go.Proofs.YtghiibdhibcbaaaDoorW.PrintLast Go.Proofs.YtghiibdhibcbaaaDoorW.PrintMore Go.Proofs.YtghiibdhibcbaaaDoor.CS
set_option linter.unusedSimpArgs false
set_option linter.unusedVariables false
set_option maxHeartbeats 800000 in
set_option maxRecDepth 100000 in
theorem within_pos (a n k : Int) (hn : 1 ≤ n) (hn2 : n ≤ 1000000000) (hk : a.tmod n = k) (k0 : 0 ≤ k) (k1 : k < n) (w : World) :
    Calls Tryd.prog 26 #[.int .i64 a, .int .i64 n] w fun e w' => e = .returned (.int .i64 k) ∧ Below w.heap.size w w' := by
  have hn0 : ¬ n = 0 := by omega
  have h1 : (k < 0) = False := eq_false (by omega)
  go_enter Tryd.func26, Tryd.ntmps26
  go_wp2
  go_ret
  exact ⟨rfl, Below.refl _ _⟩
set_option maxHeartbeats 800000 in
set_option maxRecDepth 100000 in
theorem within_neg (a n k : Int) (hn : 1 ≤ n) (hn2 : n ≤ 1000000000) (hk : a.tmod n = k) (k0 : k < 0) (k1 : -n < k) (w : World) :
    Calls Tryd.prog 26 #[.int .i64 a, .int .i64 n] w fun e w' => e = .returned (.int .i64 (k + n)) ∧ Below w.heap.size w w' := by
  have hn0 : ¬ n = 0 := by omega
  have h1 : (k < 0) = True := eq_true (by omega)
  have h2 : IntKind.i64.wrap (k + n) = k + n := by rw [IntKind.wrap_i64]; omega
  go_enter Tryd.func26, Tryd.ntmps26
  go_wp2
  go_ret
  exact ⟨rfl, Below.refl _ _⟩
theorem within5_any (a n : Int) (hn : 1 ≤ n) (hn2 : n ≤ 1000000000) (w : World) :
    Calls Tryd.prog 26 #[.int .i64 a, .int .i64 n] w fun e w' => e = .returned (.int .i64 (a % n)) ∧ Below w.heap.size w w' := by
  have h0 := Int.emod_nonneg a (show n ≠ 0 by omega)
  have h1 := Int.emod_lt_of_pos a (show 0 < n by omega)
  have e : a.tmod n = a % n ∨ (a.tmod n = a % n - n ∧ 0 < a % n) := by
    rw [Int.tmod_eq_emod]
    split
    · left; omega
    · rename_i h
      right
      have hna : (n.natAbs : Int) = n := by omega
      refine ⟨by omega, ?_⟩
      have : ¬ (n ∣ a) := fun hd => h (.inr hd)
      rw [Int.dvd_iff_emod_eq_zero] at this
      omega
  rcases e with e | ⟨e, e2⟩
  · exact within_pos a n _ hn hn2 e h0 h1 w
  · have := within_neg a n _ hn hn2 e (by omega) (by omega) w
    rwa [show a % n - n + n = a % n by omega] at this
set_option maxHeartbeats 800000 in
set_option maxRecDepth 100000 in
theorem two_any (n : Int) (h0 : 0 ≤ n) (h1 : n < 100) (w : World) :
    Calls Tryd.prog 27 #[.int .i64 n] w fun e w' => e = .returned (.string (bs (digL n 2))) ∧ Below w.heap.size w w' := by
  rw [digL2 h0 h1]
  obtain ⟨u, rfl⟩ : ∃ u : Nat, n = u := ⟨n.toNat, by omega⟩
  have ht : (u : Int).toNat = u := by omega
  rw [ht]
  have c1 : ((dg (u / 10)).toNat : Int) = 48 + (u : Int) / 10 := by rw [dg_nat]; omega
  have c2 : ((dg u).toNat : Int) = 48 + (u : Int) % 10 := by rw [dg_nat]; omega
  have C1 := Lib.hid c1
  have C2 := Lib.hid c2
  clear c1 c2
  have kc : (convert 92 9 (.slice (some ⟨w.heap.size, 0, none⟩) 2 2)).run Tryd.prog (w.alloc (.cells #[.int .u8 (48 + (u : Int) / 10), .int .u8 (48 + (u : Int) % 10)] 5)) = .ok (.string ⟨#[dg (u / 10), dg u]⟩) (w.alloc (.cells #[.int .u8 (48 + (u : Int) / 10), .int .u8 (48 + (u : Int) % 10)] 5)) := by
    refine run_convert_bytes_back (P := Tryd.prog) _ 92 9 5 ⟨w.heap.size, 0, none⟩ 2 [dg (u / 10), dg u] Tryd.underlying92 Tryd.underlying5 Tryd.underlying9 (fun j hj => ?_)
    have hj2 : j < 2 := by simpa using hj
    rcases (by omega : j = 0 ∨ j = 1) with rfl | rfl
    · have := C1.out
      simp only [List.getElem_cons_zero, this]
      exact Hand.cell_of (Hand.q3 _ _ _ rfl) 0 _ rfl
    · have := C2.out
      simp only [List.getElem_cons_succ, List.getElem_cons_zero, this]
      exact Hand.cell_of (Hand.q3 _ _ _ rfl) 1 _ rfl
  go_enter Tryd.func27, Tryd.ntmps27
  go_wp2
  go_ret
  exact ⟨rfl, (Below.refl _ _).alloc (Nat.le_refl _) _⟩
set_option maxHeartbeats 800000 in
set_option maxRecDepth 100000 in
theorem three_yes (n : Int) (h0 : 0 ≤ n) (h1 : n < 1000) (w : World) :
    Calls Tryd.prog 29 #[.int .i64 n, .bool true] w fun e w' => e = .returned (.string (bs (digL n 3))) ∧ Below w.heap.size w w' := by
  rw [digL3 h0 h1]
  obtain ⟨u, rfl⟩ : ∃ u : Nat, n = u := ⟨n.toNat, by omega⟩
  have ht : (u : Int).toNat = u := by omega
  rw [ht]
  have c0 : ((dg (u / 100)).toNat : Int) = 48 + (u : Int) / 100 := by rw [dg_nat]; omega
  have c1 : ((dg (u / 10)).toNat : Int) = 48 + (u : Int) / 10 % 10 := by rw [dg_nat]; omega
  have c2 : ((dg u).toNat : Int) = 48 + (u : Int) % 10 := by rw [dg_nat]; omega
  have C0 := Lib.hid c0
  have C1 := Lib.hid c1
  have C2 := Lib.hid c2
  clear c0 c1 c2
  have kc : (convert 92 9 (.slice (some ⟨w.heap.size, 0, none⟩) 3 3)).run Tryd.prog (w.alloc (.cells #[.int .u8 (48 + (u : Int) / 100), .int .u8 (48 + (u : Int) / 10 % 10), .int .u8 (48 + (u : Int) % 10)] 5)) = .ok (.string ⟨#[dg (u / 100), dg (u / 10), dg u]⟩) (w.alloc (.cells #[.int .u8 (48 + (u : Int) / 100), .int .u8 (48 + (u : Int) / 10 % 10), .int .u8 (48 + (u : Int) % 10)] 5)) := by
    refine run_convert_bytes_back (P := Tryd.prog) _ 92 9 5 ⟨w.heap.size, 0, none⟩ 3 [dg (u / 100), dg (u / 10), dg u] Tryd.underlying92 Tryd.underlying5 Tryd.underlying9 (fun j hj => ?_)
    have hj2 : j < 3 := by simpa using hj
    rcases (by omega : j = 0 ∨ j = 1 ∨ j = 2) with rfl | rfl | rfl
    · have := C0.out
      simp only [List.getElem_cons_zero, this]
      exact Hand.cell_of (Hand.q3 _ _ _ rfl) 0 _ rfl
    · have := C1.out
      simp only [List.getElem_cons_succ, List.getElem_cons_zero, this]
      exact Hand.cell_of (Hand.q3 _ _ _ rfl) 1 _ rfl
    · have := C2.out
      simp only [List.getElem_cons_succ, List.getElem_cons_zero, this]
      exact Hand.cell_of (Hand.q3 _ _ _ rfl) 2 _ rfl
  go_enter Tryd.func29, Tryd.ntmps29
  go_wp2
  go_ret
  exact ⟨rfl, (Below.refl _ _).alloc (Nat.le_refl _) _⟩
set_option maxHeartbeats 800000 in
set_option maxRecDepth 100000 in
theorem three_no (n : Int) (S : ByteArray) (w : World) (m : ∀ w, Calls Tryd.prog 27 #[.int .i64 n] w fun e w' => e = .returned (.string S) ∧ Below w.heap.size w w') :
    Calls Tryd.prog 29 #[.int .i64 n, .bool false] w fun e w' => e = .returned (.string S) ∧ Below w.heap.size w w' := by
  have M := Lib.hid m
  clear m
  go_enter Tryd.func29, Tryd.ntmps29
  go_wp2_with fail
  with_reducible refine (M.out _).mono ?_
  rintro e w1 ⟨rfl, hb1⟩
  go_wp2
  go_ret
  exact ⟨rfl, hb1⟩
/-- a number within a second, in the rate's digits -/
theorem three_any (n f : Int) (h0 : 0 ≤ n) (h1 : n < f) (f1 : f ≤ 240) (w : World) :
    Calls Tryd.prog 29 #[.int .i64 n, .bool (decide (100 < f))] w fun e w' => e = .returned (.string (bs (digL n (wide f)))) ∧ Below w.heap.size w w' := by
  unfold wide
  by_cases h : f > 100
  · rw [if_pos h, decide_eq_true h]; exact three_yes n h0 (by omega) w
  · rw [if_neg h, decide_eq_false h]; exact three_no n _ w (two_any n h0 (by omega))
end Go.Proofs.YtghiibdhibcbaaaDoor.PA
