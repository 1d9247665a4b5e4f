/- The reference's reader: number. -/
import Derived.Test.YtghiibdhibcbaaaDoorScnB
namespace Go.Proofs.YtghiibdhibcbaaaDoor.PA
open Go Go.RowKit Go.Proofs.YtghiibdhibcbaaaDoorW.PrintWords Go.Proofs.YtghiibdhibcbaaaDoorW.PrintLast Go.Proofs.YtghiibdhibcbaaaDoorW.PrintMore
set_option linter.unusedSimpArgs false
set_option linter.unusedVariables false
/-- the reader's block -/
abbrev rdr (s : ByteArray) (a : Int) (b : Bool) : Obj := .cells #[.string s, .int .i64 a, .bool b] 87 (0, 0)
abbrev RL (w0 w' : World) (g : Nat) (s : ByteArray) (a : Int) (b : Bool) : Prop := w'.heap[g]? = some (rdr s a b) ∧ Below w0.heap.size w0 w'
/-- how many digits stand there -/
def runN (l : List UInt8) : Nat := (l.takeWhile isD).length
theorem run_le (l : List UInt8) : runN l ≤ l.length := (List.takeWhile_prefix _).length_le
theorem run_more : ∀ (l : List UInt8) (i : Nat) (c : UInt8), i ≤ runN l → l[i]? = some c → isD c = true → i + 1 ≤ runN l := by
  intro l
  induction l with
  | nil => intro i c _ h _; simp at h
  | cons a l ih =>
    intro i c h1 h2 h3
    unfold runN at h1 ⊢
    by_cases ha : isD a = true
    · rw [List.takeWhile_cons_of_pos ha, List.length_cons] at h1 ⊢
      cases i with
      | zero => omega
      | succ i =>
        have := ih i c (by unfold runN; omega) (by simpa using h2) h3
        unfold runN at this; omega
    · rw [List.takeWhile_cons_of_neg ha] at h1
      have : i = 0 := by simpa using h1
      subst this
      rw [List.getElem?_cons_zero, Option.some.injEq] at h2
      rw [h2] at ha; exact absurd h3 ha
theorem run_stop : ∀ (l : List UInt8) (i : Nat), i ≤ runN l → (∀ c, l[i]? = some c → isD c = false) → runN l = i := by
  intro l
  induction l with
  | nil => intro i h _; unfold runN at h ⊢; simp at h ⊢; omega
  | cons a l ih =>
    intro i h1 h2
    unfold runN at h1 ⊢
    by_cases ha : isD a = true
    · rw [List.takeWhile_cons_of_pos ha, List.length_cons] at h1 ⊢
      cases i with
      | zero => have := h2 a (by simp); rw [ha] at this; cases this
      | succ i =>
        have := ih i (by unfold runN; omega) (fun c hc => h2 c (by simpa using hc))
        unfold runN at this; omega
    · rw [List.takeWhile_cons_of_neg ha] at h1 ⊢
      have : i = 0 := by simpa using h1
      subst this; rfl
theorem at_drop (S : ByteArray) (a i : Nat) (h : a + i < S.size) : (S.data.toList.drop a)[i]? = some (S[a + i]'h) := by
  rw [List.getElem?_drop, List.getElem?_eq_getElem (by rw [Array.length_toList]; exact h)]
  rfl
theorem at_none (S : ByteArray) (a i : Nat) (h : S.size ≤ a + i) : (S.data.toList.drop a)[i]? = none := by
  rw [List.getElem?_drop, List.getElem?_eq_none (by rw [Array.length_toList]; exact h)]
/-- so many digits -/
def rnumS (S : ByteArray) (a : Nat) (b : Bool) (k : Nat) : Int × Nat × Bool := if k ≤ runN (S.data.toList.drop a) then (vg ((S.data.toList.drop a).take k), a + k, b) else (0, a + runN (S.data.toList.drop a), true)
def loopR (w0 wr : World) (g : Nat) (S : ByteArray) (at_ k : Nat) (b : Bool) (v x : Value) : Prop :=
  ∃ i : Nat, i ≤ k ∧ i ≤ runN (S.data.toList.drop at_) ∧ v = .int .i64 (vg ((S.data.toList.drop at_).take i)) ∧ x = .int .i64 i ∧ wr.heap[g]? = some (rdr S ((at_ + i : Nat) : Int) b) ∧ Below w0.heap.size w0 wr
set_option maxHeartbeats 1600000 in
set_option maxRecDepth 100000 in
theorem rnumber_any (S : ByteArray) (at_ k : Nat) (b : Bool) (g : Nat) (w0 w : World) (hS : S.size ≤ 9223372036854775807) (hat : at_ ≤ S.size) (k9 : k ≤ 9) (hg : w0.heap.size ≤ g) (hx : w.heap[g]? = some (rdr S (at_ : Int) b)) (hB : Below w0.heap.size w0 w) :
    Calls Tryd.prog 63 #[.pointer (some ⟨g, 0, none⟩), .int .i64 (k : Int)] w fun e w' => e = .returned (.int .i64 (rnumS S at_ b k).1) ∧ RL w0 w' g S ((rnumS S at_ b k).2.1 : Int) (rnumS S at_ b k).2.2 := by
  obtain ⟨c0, f0, c1, f1, c2, f2⟩ := Hand.hc3 hx
  have HX := Lib.hid hx
  have HB := Lib.hid hB
  clear hx hB
  go_enter Tryd.func63, Tryd.ntmps63
  go_wp2
  go_loopw [5, 6] (fun v x wr => loopR w0 wr g S at_ k b v x) (fun _ x _ => k - (intOf x).toNat)
  case atStart => exact ⟨0, Nat.zero_le _, Nat.zero_le _, rfl, rfl, HX.out, HB.out⟩
  case round =>
    obtain ⟨i, hi, hr, rfl, rfl, q1, q2⟩ := hrel
    obtain ⟨c0, f0, c1, f1, c2, f2⟩ := Hand.hc3 q1
    obtain ⟨p, hpe⟩ : ∃ p, at_ + i = p := ⟨_, rfl⟩
    rw [hpe] at q1 c1
    have HP := Lib.hid hpe
    have Q1 := Lib.hid q1
    have Q2 := Lib.hid q2
    clear hpe q1 q2
    have hvb := vg_9 (l := (S.data.toList.drop at_).take i) (by rw [List.length_take]; omega)
    obtain ⟨V, hV⟩ : ∃ V, vg ((S.data.toList.drop at_).take i) = V := ⟨_, rfl⟩
    rw [hV] at hvb ⊢
    have HV := Lib.hid hV
    clear hV
    have FAIL := Lib.hid (fun (hk : i < k) (hs : ∀ c, (S.data.toList.drop at_)[i]? = some c → isD c = false) =>
      (show rnumS S at_ b k = (0, p, true) by
        have e := run_stop _ i hr hs
        unfold rnumS
        rw [e, if_neg (by omega), HP.out]))
    by_cases hlt : i < k
    · by_cases hp : p < S.size
      · have g1 : ((S.size : Int) ≤ (p : Int)) = False := eq_false (by omega)
        have g2 : (S.size ≤ p) = False := eq_false (by omega)
        obtain ⟨u, hu⟩ : ∃ u : Nat, (S[p]'hp).toNat = u := ⟨_, rfl⟩
        have hu2 : ((S[p]'hp).toNat : Int) = (u : Int) := by rw [hu]
        have hub : u ≤ 255 := by have := (S[p]'hp).toNat_lt; omega
        have hat2 : (S.data.toList.drop at_)[i]? = some (S[p]'hp) := by
          have := at_drop S at_ i (by rw [HP.out]; exact hp)
          simpa only [HP.out] using this
        have HAT := Lib.hid hat2
        have HU := Lib.hid hu
        clear hat2 hu
        rcases (by omega : u < 48 ∨ 57 < u ∨ (48 ≤ u ∧ u ≤ 57)) with h1 | h1 | ⟨h1, h2⟩
        · have k1 : ((u : Int) < 48) = True := eq_true (by omega)
          have hf := Lib.hid (FAIL.out hlt (fun c hc => by rw [HAT.out, Option.some.injEq] at hc; subst hc; unfold isD; rw [HU.out]; simp; omega))
          go_wp2
          go_quiet (fail)
          go_wp2
          go_ret
          rw [hf.out]
          exact ⟨rfl, by rw [Hand.q1, Hand.q6, Q1.out]; rfl, (pw_below_drewN Q2.out _).setCell (by dsimp only; omega) _⟩
        · have k1 : ((u : Int) < 48) = False := eq_false (by omega)
          have k2 : (57 < (u : Int)) = True := eq_true (by omega)
          have hf := Lib.hid (FAIL.out hlt (fun c hc => by rw [HAT.out, Option.some.injEq] at hc; subst hc; unfold isD; rw [HU.out]; simp; omega))
          go_wp2
          go_quiet (fail)
          go_wp2
          go_ret
          rw [hf.out]
          exact ⟨rfl, by rw [Hand.q1, Hand.q6, Q1.out]; rfl, (pw_below_drewN Q2.out _).setCell (by dsimp only; omega) _⟩
        · have k1 : ((u : Int) < 48) = False := eq_false (by omega)
          have k2 : (57 < (u : Int)) = False := eq_false (by omega)
          have hd : isD (S[p]'hp) = true := by unfold isD; rw [HU.out]; simp; omega
          have hm := run_more _ i _ hr HAT.out hd
          have hsn : (S.data.toList.drop at_).take (i + 1) = (S.data.toList.drop at_).take i ++ [S[p]'hp] := by
            have hl : i < (S.data.toList.drop at_).length := by have := run_le (S.data.toList.drop at_); omega
            rw [List.take_succ_eq_append_getElem hl]
            have := HAT.out
            rw [List.getElem?_eq_getElem hl, Option.some.injEq] at this
            rw [this]
          have hvn := vg_snoc ((S.data.toList.drop at_).take i) (S[p]'hp)
          rw [← hsn, HV.out, HU.out] at hvn
          have HVN := Lib.hid hvn
          have HM := Lib.hid hm
          clear hvn hsn hm hd
          have KEY := Lib.hid (fun (n : Nat) => (⟨i + 1, hlt, HM.out, by rw [HVN.out]; congr 1; omega, by rw [Int.natCast_add]; rfl, by rw [Hand.q1, Hand.q6, Q1.out, ← Nat.add_assoc, HP.out, Int.natCast_add]; rfl, (pw_below_drewN Q2.out _).setCell (by dsimp only; omega) _⟩ : loopR w0 ((wr.drewN n).setCell ⟨g, 1, none⟩ (.int .i64 ((p : Int) + 1))) g S at_ k b (.int .i64 (10 * V + ((u : Int) - 48))) (.int .i64 ((i : Int) + 1))))
          go_wp2
          go_quiet (fail)
          go_wp2
          have e1 : IntKind.u8.wrap ((u : Int) - 48) = (u : Int) - 48 := by rw [IntKind.wrap_u8]; omega
          have e2 : IntKind.i64.wrap (10 * V) = 10 * V := by rw [IntKind.wrap_i64]; omega
          have e3 : IntKind.i64.wrap (10 * V + ((u : Int) - 48)) = 10 * V + ((u : Int) - 48) := by rw [IntKind.wrap_i64]; omega
          go_quiet (fail)
          clear e1 e2 e3
          go_wp2
          go_roundw
          case rel => exact KEY.out _
          case measure => simp [intOf]; omega
      · have g1 : ((S.size : Int) ≤ (p : Int)) = True := eq_true (by omega)
        have g2 : (S.size ≤ p) = True := eq_true (by omega)
        have hf := Lib.hid (FAIL.out hlt (fun c hc => by rw [at_none S at_ i (by rw [HP.out]; omega)] at hc; cases hc))
        go_wp2
        go_quiet (fail)
        go_wp2
        go_ret
        rw [hf.out]
        exact ⟨rfl, by rw [Hand.q1, Hand.q6, Q1.out]; rfl, (pw_below_drewN Q2.out _).setCell (by dsimp only; omega) _⟩
    · have hik : i = k := by omega
      subst hik
      have e : rnumS S at_ b i = (V, p, b) := by unfold rnumS; rw [if_pos hr, HV.out, HP.out]
      have HE := Lib.hid e
      clear e
      go_wp2
      go_ret
      rw [HE.out]
      exact ⟨rfl, Q1.out, Q2.out⟩
end Go.Proofs.YtghiibdhibcbaaaDoor.PA
