/- The reference's reader: mark, run, hours, sixty. -/
import Derived.Test.YtghiibdhibcbaaaDoorRdrA
import Derived.Test.YtghiibdhibcbaaaDoorPlnP
namespace Go.Proofs.YtghiibdhibcbaaaDoor.PA
open Go Go.RowKit Go.Proofs.YtghiibdhibcbaaaDoorW.PrintWords Go.Proofs.YtghiibdhibcbaaaDoorW.PrintLast Go.Proofs.YtghiibdhibcbaaaDoorW.PrintMore
set_option linter.unusedSimpArgs false
set_option linter.unusedVariables false
/-- just that byte -/
def rmarkS (S : ByteArray) (a : Nat) (b : Bool) (c : UInt8) : Nat × Bool := if (S.data.toList.drop a).head? = some c then (a + 1, b) else (a, true)
theorem head_drop (S : ByteArray) (a : Nat) (h : a < S.size) : (S.data.toList.drop a).head? = some (S[a]'h) := by
  rw [List.head?_drop, List.getElem?_eq_getElem (by rw [Array.length_toList]; exact h)]; rfl
theorem head_none (S : ByteArray) (a : Nat) (h : S.size ≤ a) : (S.data.toList.drop a).head? = none := by
  rw [List.head?_drop, List.getElem?_eq_none (by rw [Array.length_toList]; exact h)]
set_option maxHeartbeats 1600000 in
set_option maxRecDepth 100000 in
theorem rmark_any (S : ByteArray) (a : Nat) (b : Bool) (c : UInt8) (g : Nat) (w0 w : World) (hS : S.size ≤ 9223372036854775807) (hat : a ≤ S.size) (hg : w0.heap.size ≤ g) (hx : w.heap[g]? = some (rdr S (a : Int) b)) (hB : Below w0.heap.size w0 w) :
    Calls Tryd.prog 61 #[.pointer (some ⟨g, 0, none⟩), .int .u8 (c.toNat : Int)] w fun e w' => e = .returned (.tuple #[]) ∧ RL w0 w' g S ((rmarkS S a b c).1 : Int) (rmarkS S a b c).2 := by
  obtain ⟨c0, f0, c1, f1, c2, f2⟩ := Hand.hc3 hx
  have HX := Lib.hid hx
  have HB := Lib.hid hB
  clear hx hB
  obtain ⟨v, hv⟩ : ∃ v : Nat, c.toNat = v := ⟨_, rfl⟩
  rw [hv]
  have HV := Lib.hid hv
  clear hv
  by_cases hp : a < S.size
  · have g1 : ((S.size : Int) ≤ (a : Int)) = False := eq_false (by omega)
    have g2 : (S.size ≤ a) = False := eq_false (by omega)
    obtain ⟨u, hu⟩ : ∃ u : Nat, (S[a]'hp).toNat = u := ⟨_, rfl⟩
    have hu2 : ((S[a]'hp).toNat : Int) = (u : Int) := by rw [hu]
    have hh := head_drop S a hp
    have HH := Lib.hid hh
    have HU := Lib.hid hu
    clear hh hu
    by_cases he : u = v
    · have hs : rmarkS S a b c = (a + 1, b) := by
        unfold rmarkS
        rw [HH.out, if_pos]
        rw [Option.some.injEq]
        exact UInt8.toNat_inj.mp (by rw [HU.out, HV.out, he])
      have HS := Lib.hid hs
      subst he
      clear hs
      go_enter Tryd.func61, Tryd.ntmps61
      go_wp2
      go_quiet (fail)
      go_wp2
      go_end0
      rw [HS.out]
      exact ⟨rfl, by rw [Hand.q1, Hand.q6, HX.out]; rfl, (pw_below_drewN HB.out _).setCell (by dsimp only; omega) _⟩
    · have hs : rmarkS S a b c = (a, true) := by
        unfold rmarkS
        rw [HH.out, if_neg]
        rw [Option.some.injEq]
        intro e
        apply he
        rw [← HU.out, ← HV.out, e]
      have HS := Lib.hid hs
      have q1 : ((u : Int) == (v : Int)) = false := by simp; omega
      have q2 : ((u : Int) != (v : Int)) = true := by simp; omega
      clear hs he
      go_enter Tryd.func61, Tryd.ntmps61
      go_wp2
      go_quiet (fail)
      go_wp2
      refine bodyPost_ret (results_none rfl _ _ _) rfl ?_
      rw [HS.out]
      exact ⟨rfl, by rw [Hand.q1, Hand.q6, HX.out]; rfl, (pw_below_drewN HB.out _).setCell (by dsimp only; omega) _⟩
  · have g1 : ((S.size : Int) ≤ (a : Int)) = True := eq_true (by omega)
    have g2 : (S.size ≤ a) = True := eq_true (by omega)
    have hs : rmarkS S a b c = (a, true) := by unfold rmarkS; rw [head_none S a (by omega), if_neg (by simp)]
    have HS := Lib.hid hs
    clear hs
    go_enter Tryd.func61, Tryd.ntmps61
    go_wp2
    go_quiet (fail)
    go_wp2
    refine bodyPost_ret (results_none rfl _ _ _) rfl ?_
    rw [HS.out]
    exact ⟨rfl, by rw [Hand.q1, Hand.q6, HX.out]; rfl, (pw_below_drewN HB.out _).setCell (by dsimp only; omega) _⟩
def loopU (w0 wr : World) (g : Nat) (S : ByteArray) (a : Nat) (b : Bool) (x : Value) : Prop :=
  ∃ i : Nat, i ≤ runN (S.data.toList.drop a) ∧ x = .int .i64 i ∧ wr.heap[g]? = some (rdr S (a : Int) b) ∧ Below w0.heap.size w0 wr
set_option maxHeartbeats 1600000 in
set_option maxRecDepth 100000 in
theorem rrun_any (S : ByteArray) (a : Nat) (b : Bool) (g : Nat) (w0 w : World) (hS : S.size ≤ 9223372036854775807) (hat : a ≤ S.size) (hg : w0.heap.size ≤ g) (hx : w.heap[g]? = some (rdr S (a : Int) b)) (hB : Below w0.heap.size w0 w) :
    Calls Tryd.prog 84 #[.pointer (some ⟨g, 0, none⟩)] w fun e w' => e = .returned (.int .i64 (runN (S.data.toList.drop a) : Int)) ∧ RL w0 w' g S (a : Int) b := by
  obtain ⟨c0, f0, c1, f1, c2, f2⟩ := Hand.hc3 hx
  have HX := Lib.hid hx
  have HB := Lib.hid hB
  have hrl := run_le (S.data.toList.drop a)
  rw [List.length_drop, Array.length_toList] at hrl
  have hrl2 : runN (S.data.toList.drop a) ≤ S.size - a := hrl
  have HRL := Lib.hid hrl2
  clear hx hB hrl hrl2
  go_enter Tryd.func84, Tryd.ntmps84
  go_wp2
  go_loopw [3] (fun x wr => loopU w0 wr g S a b x) (fun x _ => S.size + 1 - (intOf x).toNat)
  case atStart => exact ⟨0, Nat.zero_le _, rfl, HX.out, HB.out⟩
  case round =>
    obtain ⟨i, hr, rfl, q1, q2⟩ := hrel
    obtain ⟨c0, f0, c1, f1, c2, f2⟩ := Hand.hc3 q1
    have hi9 : a + i ≤ S.size := by have := HRL.out; omega
    obtain ⟨p, hpe⟩ : ∃ p, a + i = p := ⟨_, rfl⟩
    have hpi : (a : Int) + (i : Int) = (p : Int) := by rw [← hpe]; rfl
    have HR := Lib.hid hr
    have HP := Lib.hid hpe
    have Q1 := Lib.hid q1
    have Q2 := Lib.hid q2
    have hp0 : p ≤ 9223372036854775807 := by omega
    have hw : IntKind.i64.wrap ((a : Int) + (i : Int)) = (p : Int) := by rw [IntKind.wrap_i64]; omega
    clear hpe q1 q2 hr
    by_cases hp : p < S.size
    · have hi8 : i + 1 ≤ 9223372036854775807 := by have := HP.out; omega
      have g1 : ((p : Int) < (S.size : Int)) = True := eq_true (by omega)
      have g2 : (p < S.size) = True := eq_true (by omega)
      obtain ⟨u, hu⟩ : ∃ u : Nat, (S[p]'hp).toNat = u := ⟨_, rfl⟩
      have hu2 : ((S[p]'hp).toNat : Int) = (u : Int) := by rw [hu]
      have hat2 : (S.data.toList.drop a)[i]? = some (S[p]'hp) := by
        have := at_drop S a i (by rw [HP.out]; exact hp)
        simpa only [HP.out] using this
      have HAT := Lib.hid hat2
      have HU := Lib.hid hu
      clear hat2 hu
      rcases (by omega : u < 48 ∨ 57 < u ∨ (48 ≤ u ∧ u ≤ 57)) with h1 | h1 | ⟨h1, h2⟩
      · have k1 : (48 ≤ (u : Int)) = False := eq_false (by omega)
        have hf := Lib.hid (run_stop _ i HR.out (fun c hc => by rw [HAT.out, Option.some.injEq] at hc; subst hc; unfold isD; rw [HU.out]; simp; omega))
        go_wp2
        go_quiet (fail)
        clear hpi hw
        go_wp2
        go_ret
        rw [hf.out]
        exact ⟨rfl, Q1.out, pw_below_drewN Q2.out _⟩
      · have k1 : (48 ≤ (u : Int)) = True := eq_true (by omega)
        have k2 : ((u : Int) ≤ 57) = False := eq_false (by omega)
        have hf := Lib.hid (run_stop _ i HR.out (fun c hc => by rw [HAT.out, Option.some.injEq] at hc; subst hc; unfold isD; rw [HU.out]; simp; omega))
        go_wp2
        go_quiet (fail)
        clear hpi hw
        go_wp2
        go_ret
        rw [hf.out]
        exact ⟨rfl, Q1.out, pw_below_drewN Q2.out _⟩
      · have k1 : (48 ≤ (u : Int)) = True := eq_true (by omega)
        have k2 : ((u : Int) ≤ 57) = True := eq_true (by omega)
        have hm := Lib.hid (run_more _ i _ HR.out HAT.out (by unfold isD; rw [HU.out]; simp; omega))
        go_wp2
        go_quiet (fail)
        clear hpi hw
        go_wp2
        go_roundw
        case rel => exact ⟨i + 1, hm.out, by rw [Int.natCast_add]; rfl, Q1.out, pw_below_drewN Q2.out _⟩
        case measure => simp [intOf]; omega
    · have g1 : ((p : Int) < (S.size : Int)) = False := eq_false (by omega)
      have g2 : (p < S.size) = False := eq_false (by omega)
      have hf := Lib.hid (run_stop _ i HR.out (fun c hc => by rw [at_none S a i (by rw [HP.out]; omega)] at hc; cases hc))
      go_wp2
      go_quiet (fail)
      clear hpi hw
      go_wp2
      go_ret
      rw [hf.out]
      exact ⟨rfl, Q1.out, pw_below_drewN Q2.out _⟩
end Go.Proofs.YtghiibdhibcbaaaDoor.PA
