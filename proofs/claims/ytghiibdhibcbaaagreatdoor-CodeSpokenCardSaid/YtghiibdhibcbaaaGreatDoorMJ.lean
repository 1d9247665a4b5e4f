/- The reference's reader: number. The reference's reader: mark, run, hours, sixty. The reference's reader: hours, sixty. The reference's reader told; what it comes to, in plain lists. -/
import Derived.Test.YtghiibdhibcbaaaGreatDoorME
import Derived.Test.YtghiibdhibcbaaaGreatDoorMF
namespace Go.Proofs.YtghiibdhibcbaaaGreatDoor.PA
open Go Go.RowKit Go.Proofs.YtghiibdhibcbaaaGreatDoorW.PrintWords Go.Proofs.YtghiibdhibcbaaaGreatDoorW.PrintLast Go.Proofs.YtghiibdhibcbaaaGreatDoorW.PrintMore
set_option linter.unusedSimpArgs false
set_option linter.unusedVariables false
/-- the reader's block -/
abbrev rdr (s : ByteArray) (a : Int) (b : Bool) : Obj := .cells #[.string s, .int .i64 a, .bool b] 111 (0, 0)
abbrev RL (w0 w' : World) (g : Nat) (s : ByteArray) (a : Int) (b : Bool) : Prop := w'.heap[g]? = some (rdr s a b) ∧ Below w0.heap.size w0 w'
/-- how many digits stand there -/
def runN (l : List UInt8) : Nat := (l.takeWhile isD).length
theorem run_le (l : List UInt8) : runN l ≤ l.length := (List.takeWhile_prefix _).length_le
theorem run_more : ∀ (l : List UInt8) (i : Nat) (c : UInt8), i ≤ runN l → l[i]? = some c → isD c = true → i + 1 ≤ runN l := by
  intro l
  induction l with
  | nil => intro i c _ h _; simp at h
  | cons a l ih =>
    intro i c h1 h2 h3
    unfold runN at h1 ⊢
    by_cases ha : isD a = true
    · rw [List.takeWhile_cons_of_pos ha, List.length_cons] at h1 ⊢
      cases i with
      | zero => omega
      | succ i =>
        have := ih i c (by unfold runN; omega) (by simpa using h2) h3
        unfold runN at this; omega
    · rw [List.takeWhile_cons_of_neg ha] at h1
      have : i = 0 := by simpa using h1
      subst this
      rw [List.getElem?_cons_zero, Option.some.injEq] at h2
      rw [h2] at ha; exact absurd h3 ha
theorem run_stop : ∀ (l : List UInt8) (i : Nat), i ≤ runN l → (∀ c, l[i]? = some c → isD c = false) → runN l = i := by
  intro l
  induction l with
  | nil => intro i h _; unfold runN at h ⊢; simp at h ⊢; omega
  | cons a l ih =>
    intro i h1 h2
    unfold runN at h1 ⊢
    by_cases ha : isD a = true
    · rw [List.takeWhile_cons_of_pos ha, List.length_cons] at h1 ⊢
      cases i with
      | zero => have := h2 a (by simp); rw [ha] at this; cases this
      | succ i =>
        have := ih i (by unfold runN; omega) (fun c hc => h2 c (by simpa using hc))
        unfold runN at this; omega
    · rw [List.takeWhile_cons_of_neg ha] at h1 ⊢
      have : i = 0 := by simpa using h1
      subst this; rfl
theorem at_drop (S : ByteArray) (a i : Nat) (h : a + i < S.size) : (S.data.toList.drop a)[i]? = some (S[a + i]'h) := by
  rw [List.getElem?_drop, List.getElem?_eq_getElem (by rw [Array.length_toList]; exact h)]
  rfl
theorem at_none (S : ByteArray) (a i : Nat) (h : S.size ≤ a + i) : (S.data.toList.drop a)[i]? = none := by
  rw [List.getElem?_drop, List.getElem?_eq_none (by rw [Array.length_toList]; exact h)]
/-- so many digits -/
def rnumS (S : ByteArray) (a : Nat) (b : Bool) (k : Nat) : Int × Nat × Bool := if k ≤ runN (S.data.toList.drop a) then (vg ((S.data.toList.drop a).take k), a + k, b) else (0, a + runN (S.data.toList.drop a), true)
def loopR (w0 wr : World) (g : Nat) (S : ByteArray) (at_ k : Nat) (b : Bool) (v x : Value) : Prop :=
  ∃ i : Nat, i ≤ k ∧ i ≤ runN (S.data.toList.drop at_) ∧ v = .int .i64 (vg ((S.data.toList.drop at_).take i)) ∧ x = .int .i64 i ∧ wr.heap[g]? = some (rdr S ((at_ + i : Nat) : Int) b) ∧ Below w0.heap.size w0 wr
set_option maxHeartbeats 1600000 in
set_option maxRecDepth 100000 in
theorem rnumber_any (S : ByteArray) (at_ k : Nat) (b : Bool) (g : Nat) (w0 w : World) (hS : S.size ≤ 9223372036854775807) (hat : at_ ≤ S.size) (k9 : k ≤ 9) (hg : w0.heap.size ≤ g) (hx : w.heap[g]? = some (rdr S (at_ : Int) b)) (hB : Below w0.heap.size w0 w) :
    Calls Tryz.prog 82 #[.pointer (some ⟨g, 0, none⟩), .int .i64 (k : Int)] w fun e w' => e = .returned (.int .i64 (rnumS S at_ b k).1) ∧ RL w0 w' g S ((rnumS S at_ b k).2.1 : Int) (rnumS S at_ b k).2.2 := by
  obtain ⟨c0, f0, c1, f1, c2, f2⟩ := Hand.hc3 hx
  have HX := Lib.hid hx
  have HB := Lib.hid hB
  clear hx hB
  go_enter Tryz.func82, Tryz.ntmps82
  go_wp2
  go_loopw [5, 6] (fun v x wr => loopR w0 wr g S at_ k b v x) (fun _ x _ => k - (intOf x).toNat)
  case atStart => exact ⟨0, Nat.zero_le _, Nat.zero_le _, rfl, rfl, HX.out, HB.out⟩
  case round =>
    obtain ⟨i, hi, hr, rfl, rfl, q1, q2⟩ := hrel
    obtain ⟨c0, f0, c1, f1, c2, f2⟩ := Hand.hc3 q1
    obtain ⟨p, hpe⟩ : ∃ p, at_ + i = p := ⟨_, rfl⟩
    rw [hpe] at q1 c1
    have HP := Lib.hid hpe
    have Q1 := Lib.hid q1
    have Q2 := Lib.hid q2
    clear hpe q1 q2
    have hvb := vg_9 (l := (S.data.toList.drop at_).take i) (by rw [List.length_take]; omega)
    obtain ⟨V, hV⟩ : ∃ V, vg ((S.data.toList.drop at_).take i) = V := ⟨_, rfl⟩
    rw [hV] at hvb ⊢
    have HV := Lib.hid hV
    clear hV
    have FAIL := Lib.hid (fun (hk : i < k) (hs : ∀ c, (S.data.toList.drop at_)[i]? = some c → isD c = false) =>
      (show rnumS S at_ b k = (0, p, true) by
        have e := run_stop _ i hr hs
        unfold rnumS
        rw [e, if_neg (by omega), HP.out]))
    by_cases hlt : i < k
    · by_cases hp : p < S.size
      · have g1 : ((S.size : Int) ≤ (p : Int)) = False := eq_false (by omega)
        have g2 : (S.size ≤ p) = False := eq_false (by omega)
        obtain ⟨u, hu⟩ : ∃ u : Nat, (S[p]'hp).toNat = u := ⟨_, rfl⟩
        have hu2 : ((S[p]'hp).toNat : Int) = (u : Int) := by rw [hu]
        have hub : u ≤ 255 := by have := (S[p]'hp).toNat_lt; omega
        have hat2 : (S.data.toList.drop at_)[i]? = some (S[p]'hp) := by
          have := at_drop S at_ i (by rw [HP.out]; exact hp)
          simpa only [HP.out] using this
        have HAT := Lib.hid hat2
        have HU := Lib.hid hu
        clear hat2 hu
        rcases (by omega : u < 48 ∨ 57 < u ∨ (48 ≤ u ∧ u ≤ 57)) with h1 | h1 | ⟨h1, h2⟩
        · have k1 : ((u : Int) < 48) = True := eq_true (by omega)
          have hf := Lib.hid (FAIL.out hlt (fun c hc => by rw [HAT.out, Option.some.injEq] at hc; subst hc; unfold isD; rw [HU.out]; simp; omega))
          go_wp2
          go_quiet (fail)
          go_wp2
          go_ret
          rw [hf.out]
          exact ⟨rfl, by rw [Hand.q1, Hand.q6, Q1.out]; rfl, (pw_below_drewN Q2.out _).setCell (by dsimp only; omega) _⟩
        · have k1 : ((u : Int) < 48) = False := eq_false (by omega)
          have k2 : (57 < (u : Int)) = True := eq_true (by omega)
          have hf := Lib.hid (FAIL.out hlt (fun c hc => by rw [HAT.out, Option.some.injEq] at hc; subst hc; unfold isD; rw [HU.out]; simp; omega))
          go_wp2
          go_quiet (fail)
          go_wp2
          go_ret
          rw [hf.out]
          exact ⟨rfl, by rw [Hand.q1, Hand.q6, Q1.out]; rfl, (pw_below_drewN Q2.out _).setCell (by dsimp only; omega) _⟩
        · have k1 : ((u : Int) < 48) = False := eq_false (by omega)
          have k2 : (57 < (u : Int)) = False := eq_false (by omega)
          have hd : isD (S[p]'hp) = true := by unfold isD; rw [HU.out]; simp; omega
          have hm := run_more _ i _ hr HAT.out hd
          have hsn : (S.data.toList.drop at_).take (i + 1) = (S.data.toList.drop at_).take i ++ [S[p]'hp] := by
            have hl : i < (S.data.toList.drop at_).length := by have := run_le (S.data.toList.drop at_); omega
            rw [List.take_succ_eq_append_getElem hl]
            have := HAT.out
            rw [List.getElem?_eq_getElem hl, Option.some.injEq] at this
            rw [this]
          have hvn := vg_snoc ((S.data.toList.drop at_).take i) (S[p]'hp)
          rw [← hsn, HV.out, HU.out] at hvn
          have HVN := Lib.hid hvn
          have HM := Lib.hid hm
          clear hvn hsn hm hd
          have KEY := Lib.hid (fun (n : Nat) => (⟨i + 1, hlt, HM.out, by rw [HVN.out]; congr 1; omega, by rw [Int.natCast_add]; rfl, by rw [Hand.q1, Hand.q6, Q1.out, ← Nat.add_assoc, HP.out, Int.natCast_add]; rfl, (pw_below_drewN Q2.out _).setCell (by dsimp only; omega) _⟩ : loopR w0 ((wr.drewN n).setCell ⟨g, 1, none⟩ (.int .i64 ((p : Int) + 1))) g S at_ k b (.int .i64 (10 * V + ((u : Int) - 48))) (.int .i64 ((i : Int) + 1))))
          go_wp2
          go_quiet (fail)
          go_wp2
          have e1 : IntKind.u8.wrap ((u : Int) - 48) = (u : Int) - 48 := by rw [IntKind.wrap_u8]; omega
          have e2 : IntKind.i64.wrap (10 * V) = 10 * V := by rw [IntKind.wrap_i64]; omega
          have e3 : IntKind.i64.wrap (10 * V + ((u : Int) - 48)) = 10 * V + ((u : Int) - 48) := by rw [IntKind.wrap_i64]; omega
          go_quiet (fail)
          clear e1 e2 e3
          go_wp2
          go_roundw
          case rel => exact KEY.out _
          case measure => simp [intOf]; omega
      · have g1 : ((S.size : Int) ≤ (p : Int)) = True := eq_true (by omega)
        have g2 : (S.size ≤ p) = True := eq_true (by omega)
        have hf := Lib.hid (FAIL.out hlt (fun c hc => by rw [at_none S at_ i (by rw [HP.out]; omega)] at hc; cases hc))
        go_wp2
        go_quiet (fail)
        go_wp2
        go_ret
        rw [hf.out]
        exact ⟨rfl, by rw [Hand.q1, Hand.q6, Q1.out]; rfl, (pw_below_drewN Q2.out _).setCell (by dsimp only; omega) _⟩
    · have hik : i = k := by omega
      subst hik
      have e : rnumS S at_ b i = (V, p, b) := by unfold rnumS; rw [if_pos hr, HV.out, HP.out]
      have HE := Lib.hid e
      clear e
      go_wp2
      go_ret
      rw [HE.out]
      exact ⟨rfl, Q1.out, Q2.out⟩
end Go.Proofs.YtghiibdhibcbaaaGreatDoor.PA
namespace Go.Proofs.YtghiibdhibcbaaaGreatDoor.PA
open Go Go.RowKit Go.Proofs.YtghiibdhibcbaaaGreatDoorW.PrintWords Go.Proofs.YtghiibdhibcbaaaGreatDoorW.PrintLast Go.Proofs.YtghiibdhibcbaaaGreatDoorW.PrintMore
set_option linter.unusedSimpArgs false
set_option linter.unusedVariables false
/-- just that byte -/
def rmarkS (S : ByteArray) (a : Nat) (b : Bool) (c : UInt8) : Nat × Bool := if (S.data.toList.drop a).head? = some c then (a + 1, b) else (a, true)
theorem head_drop (S : ByteArray) (a : Nat) (h : a < S.size) : (S.data.toList.drop a).head? = some (S[a]'h) := by
  rw [List.head?_drop, List.getElem?_eq_getElem (by rw [Array.length_toList]; exact h)]; rfl
theorem head_none (S : ByteArray) (a : Nat) (h : S.size ≤ a) : (S.data.toList.drop a).head? = none := by
  rw [List.head?_drop, List.getElem?_eq_none (by rw [Array.length_toList]; exact h)]
set_option maxHeartbeats 1600000 in
set_option maxRecDepth 100000 in
theorem rmark_any (S : ByteArray) (a : Nat) (b : Bool) (c : UInt8) (g : Nat) (w0 w : World) (hS : S.size ≤ 9223372036854775807) (hat : a ≤ S.size) (hg : w0.heap.size ≤ g) (hx : w.heap[g]? = some (rdr S (a : Int) b)) (hB : Below w0.heap.size w0 w) :
    Calls Tryz.prog 80 #[.pointer (some ⟨g, 0, none⟩), .int .u8 (c.toNat : Int)] w fun e w' => e = .returned (.tuple #[]) ∧ RL w0 w' g S ((rmarkS S a b c).1 : Int) (rmarkS S a b c).2 := by
  obtain ⟨c0, f0, c1, f1, c2, f2⟩ := Hand.hc3 hx
  have HX := Lib.hid hx
  have HB := Lib.hid hB
  clear hx hB
  obtain ⟨v, hv⟩ : ∃ v : Nat, c.toNat = v := ⟨_, rfl⟩
  rw [hv]
  have HV := Lib.hid hv
  clear hv
  by_cases hp : a < S.size
  · have g1 : ((S.size : Int) ≤ (a : Int)) = False := eq_false (by omega)
    have g2 : (S.size ≤ a) = False := eq_false (by omega)
    obtain ⟨u, hu⟩ : ∃ u : Nat, (S[a]'hp).toNat = u := ⟨_, rfl⟩
    have hu2 : ((S[a]'hp).toNat : Int) = (u : Int) := by rw [hu]
    have hh := head_drop S a hp
    have HH := Lib.hid hh
    have HU := Lib.hid hu
    clear hh hu
    by_cases he : u = v
    · have hs : rmarkS S a b c = (a + 1, b) := by
        unfold rmarkS
        rw [HH.out, if_pos]
        rw [Option.some.injEq]
        exact UInt8.toNat_inj.mp (by rw [HU.out, HV.out, he])
      have HS := Lib.hid hs
      subst he
      clear hs
      go_enter Tryz.func80, Tryz.ntmps80
      go_wp2
      go_quiet (fail)
      go_wp2
      go_end0
      rw [HS.out]
      exact ⟨rfl, by rw [Hand.q1, Hand.q6, HX.out]; rfl, (pw_below_drewN HB.out _).setCell (by dsimp only; omega) _⟩
    · have hs : rmarkS S a b c = (a, true) := by
        unfold rmarkS
        rw [HH.out, if_neg]
        rw [Option.some.injEq]
        intro e
        apply he
        rw [← HU.out, ← HV.out, e]
      have HS := Lib.hid hs
      have q1 : ((u : Int) == (v : Int)) = false := by simp; omega
      have q2 : ((u : Int) != (v : Int)) = true := by simp; omega
      clear hs he
      go_enter Tryz.func80, Tryz.ntmps80
      go_wp2
      go_quiet (fail)
      go_wp2
      refine bodyPost_ret (results_none rfl _ _ _) rfl ?_
      rw [HS.out]
      exact ⟨rfl, by rw [Hand.q1, Hand.q6, HX.out]; rfl, (pw_below_drewN HB.out _).setCell (by dsimp only; omega) _⟩
  · have g1 : ((S.size : Int) ≤ (a : Int)) = True := eq_true (by omega)
    have g2 : (S.size ≤ a) = True := eq_true (by omega)
    have hs : rmarkS S a b c = (a, true) := by unfold rmarkS; rw [head_none S a (by omega), if_neg (by simp)]
    have HS := Lib.hid hs
    clear hs
    go_enter Tryz.func80, Tryz.ntmps80
    go_wp2
    go_quiet (fail)
    go_wp2
    refine bodyPost_ret (results_none rfl _ _ _) rfl ?_
    rw [HS.out]
    exact ⟨rfl, by rw [Hand.q1, Hand.q6, HX.out]; rfl, (pw_below_drewN HB.out _).setCell (by dsimp only; omega) _⟩
def loopU (w0 wr : World) (g : Nat) (S : ByteArray) (a : Nat) (b : Bool) (x : Value) : Prop :=
  ∃ i : Nat, i ≤ runN (S.data.toList.drop a) ∧ x = .int .i64 i ∧ wr.heap[g]? = some (rdr S (a : Int) b) ∧ Below w0.heap.size w0 wr
set_option maxHeartbeats 1600000 in
set_option maxRecDepth 100000 in
theorem rrun_any (S : ByteArray) (a : Nat) (b : Bool) (g : Nat) (w0 w : World) (hS : S.size ≤ 9223372036854775807) (hat : a ≤ S.size) (hg : w0.heap.size ≤ g) (hx : w.heap[g]? = some (rdr S (a : Int) b)) (hB : Below w0.heap.size w0 w) :
    Calls Tryz.prog 103 #[.pointer (some ⟨g, 0, none⟩)] w fun e w' => e = .returned (.int .i64 (runN (S.data.toList.drop a) : Int)) ∧ RL w0 w' g S (a : Int) b := by
  obtain ⟨c0, f0, c1, f1, c2, f2⟩ := Hand.hc3 hx
  have HX := Lib.hid hx
  have HB := Lib.hid hB
  have hrl := run_le (S.data.toList.drop a)
  rw [List.length_drop, Array.length_toList] at hrl
  have hrl2 : runN (S.data.toList.drop a) ≤ S.size - a := hrl
  have HRL := Lib.hid hrl2
  clear hx hB hrl hrl2
  go_enter Tryz.func103, Tryz.ntmps103
  go_wp2
  go_loopw [3] (fun x wr => loopU w0 wr g S a b x) (fun x _ => S.size + 1 - (intOf x).toNat)
  case atStart => exact ⟨0, Nat.zero_le _, rfl, HX.out, HB.out⟩
  case round =>
    obtain ⟨i, hr, rfl, q1, q2⟩ := hrel
    obtain ⟨c0, f0, c1, f1, c2, f2⟩ := Hand.hc3 q1
    have hi9 : a + i ≤ S.size := by have := HRL.out; omega
    obtain ⟨p, hpe⟩ : ∃ p, a + i = p := ⟨_, rfl⟩
    have hpi : (a : Int) + (i : Int) = (p : Int) := by rw [← hpe]; rfl
    have HR := Lib.hid hr
    have HP := Lib.hid hpe
    have Q1 := Lib.hid q1
    have Q2 := Lib.hid q2
    have hp0 : p ≤ 9223372036854775807 := by omega
    have hw : IntKind.i64.wrap ((a : Int) + (i : Int)) = (p : Int) := by rw [IntKind.wrap_i64]; omega
    clear hpe q1 q2 hr
    by_cases hp : p < S.size
    · have hi8 : i + 1 ≤ 9223372036854775807 := by have := HP.out; omega
      have g1 : ((p : Int) < (S.size : Int)) = True := eq_true (by omega)
      have g2 : (p < S.size) = True := eq_true (by omega)
      obtain ⟨u, hu⟩ : ∃ u : Nat, (S[p]'hp).toNat = u := ⟨_, rfl⟩
      have hu2 : ((S[p]'hp).toNat : Int) = (u : Int) := by rw [hu]
      have hat2 : (S.data.toList.drop a)[i]? = some (S[p]'hp) := by
        have := at_drop S a i (by rw [HP.out]; exact hp)
        simpa only [HP.out] using this
      have HAT := Lib.hid hat2
      have HU := Lib.hid hu
      clear hat2 hu
      rcases (by omega : u < 48 ∨ 57 < u ∨ (48 ≤ u ∧ u ≤ 57)) with h1 | h1 | ⟨h1, h2⟩
      · have k1 : (48 ≤ (u : Int)) = False := eq_false (by omega)
        have hf := Lib.hid (run_stop _ i HR.out (fun c hc => by rw [HAT.out, Option.some.injEq] at hc; subst hc; unfold isD; rw [HU.out]; simp; omega))
        go_wp2
        go_quiet (fail)
        clear hpi hw
        go_wp2
        go_ret
        rw [hf.out]
        exact ⟨rfl, Q1.out, pw_below_drewN Q2.out _⟩
      · have k1 : (48 ≤ (u : Int)) = True := eq_true (by omega)
        have k2 : ((u : Int) ≤ 57) = False := eq_false (by omega)
        have hf := Lib.hid (run_stop _ i HR.out (fun c hc => by rw [HAT.out, Option.some.injEq] at hc; subst hc; unfold isD; rw [HU.out]; simp; omega))
        go_wp2
        go_quiet (fail)
        clear hpi hw
        go_wp2
        go_ret
        rw [hf.out]
        exact ⟨rfl, Q1.out, pw_below_drewN Q2.out _⟩
      · have k1 : (48 ≤ (u : Int)) = True := eq_true (by omega)
        have k2 : ((u : Int) ≤ 57) = True := eq_true (by omega)
        have hm := Lib.hid (run_more _ i _ HR.out HAT.out (by unfold isD; rw [HU.out]; simp; omega))
        go_wp2
        go_quiet (fail)
        clear hpi hw
        go_wp2
        go_roundw
        case rel => exact ⟨i + 1, hm.out, by rw [Int.natCast_add]; rfl, Q1.out, pw_below_drewN Q2.out _⟩
        case measure => simp [intOf]; omega
    · have g1 : ((p : Int) < (S.size : Int)) = False := eq_false (by omega)
      have g2 : (p < S.size) = False := eq_false (by omega)
      have hf := Lib.hid (run_stop _ i HR.out (fun c hc => by rw [at_none S a i (by rw [HP.out]; omega)] at hc; cases hc))
      go_wp2
      go_quiet (fail)
      clear hpi hw
      go_wp2
      go_ret
      rw [hf.out]
      exact ⟨rfl, Q1.out, pw_below_drewN Q2.out _⟩
end Go.Proofs.YtghiibdhibcbaaaGreatDoor.PA
namespace Go.Proofs.YtghiibdhibcbaaaGreatDoor.PA
open Go Go.RowKit Go.Proofs.YtghiibdhibcbaaaGreatDoorW.PrintWords Go.Proofs.YtghiibdhibcbaaaGreatDoorW.PrintLast Go.Proofs.YtghiibdhibcbaaaGreatDoorW.PrintMore Go.Proofs.YtghiibdhibcbaaaGreatDoor.CS
set_option linter.unusedSimpArgs false
set_option linter.unusedVariables false
set_option maxHeartbeats 1600000 in
set_option maxRecDepth 100000 in
theorem rhours_few (S : ByteArray) (a : Nat) (b : Bool) (l : Int) (j : Nat) (g : Nat) (w0 w : World) (hg : w0.heap.size ≤ g) (hx : w.heap[g]? = some (rdr S (a : Int) b)) (hB : Below w0.heap.size w0 w) (h : (j : Int) < l)
    (m1 : Calls Tryz.prog 103 #[.pointer (some ⟨g, 0, none⟩)] w fun e w' => e = .returned (.int .i64 (j : Int)) ∧ RL w0 w' g S (a : Int) b) :
    Calls Tryz.prog 79 #[.pointer (some ⟨g, 0, none⟩), .int .i64 l] w fun e w' => e = .returned (.int .i64 0) ∧ RL w0 w' g S (a : Int) true := by
  have M1 := Lib.hid m1
  clear m1 hx hB
  go_enter Tryz.func79, Tryz.ntmps79
  go_wp2_with fail
  with_reducible refine M1.out.mono ?_
  rintro e w1 ⟨rfl, hx1, hB1⟩
  obtain ⟨c0, f0, c1, f1, c2, f2⟩ := Hand.hc3 hx1
  have HX := Lib.hid hx1
  have HB := Lib.hid hB1
  clear hx1 hB1
  have k1 : ((j : Int) < l) = True := eq_true (by omega)
  go_wp2_with fail
  go_quiet (fail)
  go_wp2_with fail
  go_ret
  exact ⟨rfl, by rw [Hand.q1, Hand.q6, HX.out]; rfl, (pw_below_drewN HB.out _).setCell (by dsimp only; omega) _⟩
set_option maxHeartbeats 1600000 in
set_option maxRecDepth 100000 in
theorem rhours_many (S : ByteArray) (a : Nat) (b : Bool) (l : Int) (j : Nat) (g : Nat) (w0 w : World) (hg : w0.heap.size ≤ g) (hx : w.heap[g]? = some (rdr S (a : Int) b)) (hB : Below w0.heap.size w0 w) (h : l ≤ (j : Int)) (h2 : 3 < j)
    (m1 : Calls Tryz.prog 103 #[.pointer (some ⟨g, 0, none⟩)] w fun e w' => e = .returned (.int .i64 (j : Int)) ∧ RL w0 w' g S (a : Int) b) :
    Calls Tryz.prog 79 #[.pointer (some ⟨g, 0, none⟩), .int .i64 l] w fun e w' => e = .returned (.int .i64 0) ∧ RL w0 w' g S (a : Int) true := by
  have M1 := Lib.hid m1
  clear m1 hx hB
  go_enter Tryz.func79, Tryz.ntmps79
  go_wp2_with fail
  with_reducible refine M1.out.mono ?_
  rintro e w1 ⟨rfl, hx1, hB1⟩
  obtain ⟨c0, f0, c1, f1, c2, f2⟩ := Hand.hc3 hx1
  have HX := Lib.hid hx1
  have HB := Lib.hid hB1
  clear hx1 hB1
  have k1 : ((j : Int) < l) = False := eq_false (by omega)
  have k2 : (3 < (j : Int)) = True := eq_true (by omega)
  have k4 : (3 < j) = True := eq_true (by omega)
  go_wp2_with fail
  go_quiet (fail)
  go_wp2_with fail
  go_ret
  exact ⟨rfl, by rw [Hand.q1, Hand.q6, HX.out]; rfl, (pw_below_drewN HB.out _).setCell (by dsimp only; omega) _⟩
set_option maxHeartbeats 1600000 in
set_option maxRecDepth 100000 in
theorem rhours_nought (S : ByteArray) (a : Nat) (b : Bool) (l : Int) (j : Nat) (u : Nat) (g : Nat) (w0 w : World) (hg : w0.heap.size ≤ g) (hx : w.heap[g]? = some (rdr S (a : Int) b)) (hB : Below w0.heap.size w0 w) (h : l ≤ (j : Int)) (h2 : j ≤ 3) (h3 : l < (j : Int)) (hp : a < S.size) (hu : (S[a]'hp).toNat = u) (h48 : u = 48)
    (m1 : Calls Tryz.prog 103 #[.pointer (some ⟨g, 0, none⟩)] w fun e w' => e = .returned (.int .i64 (j : Int)) ∧ RL w0 w' g S (a : Int) b) :
    Calls Tryz.prog 79 #[.pointer (some ⟨g, 0, none⟩), .int .i64 l] w fun e w' => e = .returned (.int .i64 0) ∧ RL w0 w' g S (a : Int) true := by
  have M1 := Lib.hid m1
  clear m1 hx hB
  go_enter Tryz.func79, Tryz.ntmps79
  go_wp2_with fail
  with_reducible refine M1.out.mono ?_
  rintro e w1 ⟨rfl, hx1, hB1⟩
  obtain ⟨c0, f0, c1, f1, c2, f2⟩ := Hand.hc3 hx1
  have HX := Lib.hid hx1
  have HB := Lib.hid hB1
  clear hx1 hB1
  have hap : a < S.size := hp
  have hu2 : ((S[a]'hp).toNat : Int) = (u : Int) := by rw [hu]
  subst h48
  have k1 : ((j : Int) < l) = False := eq_false (by omega)
  have k2 : (3 < (j : Int)) = False := eq_false (by omega)
  have k4 : (3 < j) = False := eq_false (by omega)
  have k3 : (l < (j : Int)) = True := eq_true (by omega)
  go_wp2_with fail
  go_quiet (fail)
  go_wp2_with fail
  go_ret
  exact ⟨rfl, by rw [Hand.q1, Hand.q6, HX.out]; rfl, (pw_below_drewN HB.out _).setCell (by dsimp only; omega) _⟩
set_option maxHeartbeats 1600000 in
set_option maxRecDepth 100000 in
theorem rhours_ok1 (S : ByteArray) (a : Nat) (b : Bool) (l : Int) (j : Nat) (v a' : Int) (b' : Bool) (g : Nat) (w0 w : World) (hg : w0.heap.size ≤ g) (hx : w.heap[g]? = some (rdr S (a : Int) b)) (hB : Below w0.heap.size w0 w) (h : l ≤ (j : Int)) (h2 : j ≤ 3) (h3 : (j : Int) ≤ l)
    (m1 : Calls Tryz.prog 103 #[.pointer (some ⟨g, 0, none⟩)] w fun e w' => e = .returned (.int .i64 (j : Int)) ∧ RL w0 w' g S (a : Int) b)
    (m2 : ∀ w, w.heap[g]? = some (rdr S (a : Int) b) → Below w0.heap.size w0 w → Calls Tryz.prog 82 #[.pointer (some ⟨g, 0, none⟩), .int .i64 (j : Int)] w fun e w' => e = .returned (.int .i64 v) ∧ RL w0 w' g S a' b') :
    Calls Tryz.prog 79 #[.pointer (some ⟨g, 0, none⟩), .int .i64 l] w fun e w' => e = .returned (.int .i64 v) ∧ RL w0 w' g S a' b' := by
  have M2 := Lib.hid m2
  clear m2
  have M1 := Lib.hid m1
  clear m1 hx hB
  go_enter Tryz.func79, Tryz.ntmps79
  go_wp2_with fail
  with_reducible refine M1.out.mono ?_
  rintro e w1 ⟨rfl, hx1, hB1⟩
  obtain ⟨c0, f0, c1, f1, c2, f2⟩ := Hand.hc3 hx1
  have HX := Lib.hid hx1
  have HB := Lib.hid hB1
  clear hx1 hB1
  have k1 : ((j : Int) < l) = False := eq_false (by omega)
  have k2 : (3 < (j : Int)) = False := eq_false (by omega)
  have k4 : (3 < j) = False := eq_false (by omega)
  have k3 : (l < (j : Int)) = False := eq_false (by omega)
  go_wp2_with fail
  go_quiet (fail)
  go_wp2_with fail
  with_reducible refine (M2.out _ (bk HX.out) (bw HB.out)).mono ?_
  rintro e w2 ⟨rfl, hx2, hB2⟩
  go_wp2
  go_ret
  exact ⟨rfl, hx2, hB2⟩
set_option maxHeartbeats 1600000 in
set_option maxRecDepth 100000 in
theorem rhours_ok2 (S : ByteArray) (a : Nat) (b : Bool) (l : Int) (j : Nat) (v a' : Int) (b' : Bool) (u : Nat) (g : Nat) (w0 w : World) (hg : w0.heap.size ≤ g) (hx : w.heap[g]? = some (rdr S (a : Int) b)) (hB : Below w0.heap.size w0 w) (h : l ≤ (j : Int)) (h2 : j ≤ 3) (h3 : l < (j : Int)) (hp : a < S.size) (hu : (S[a]'hp).toNat = u) (h48 : ((u : Int) == 48) = false)
    (m1 : Calls Tryz.prog 103 #[.pointer (some ⟨g, 0, none⟩)] w fun e w' => e = .returned (.int .i64 (j : Int)) ∧ RL w0 w' g S (a : Int) b)
    (m2 : ∀ w, w.heap[g]? = some (rdr S (a : Int) b) → Below w0.heap.size w0 w → Calls Tryz.prog 82 #[.pointer (some ⟨g, 0, none⟩), .int .i64 (j : Int)] w fun e w' => e = .returned (.int .i64 v) ∧ RL w0 w' g S a' b') :
    Calls Tryz.prog 79 #[.pointer (some ⟨g, 0, none⟩), .int .i64 l] w fun e w' => e = .returned (.int .i64 v) ∧ RL w0 w' g S a' b' := by
  have M2 := Lib.hid m2
  clear m2
  have M1 := Lib.hid m1
  clear m1 hx hB
  go_enter Tryz.func79, Tryz.ntmps79
  go_wp2_with fail
  with_reducible refine M1.out.mono ?_
  rintro e w1 ⟨rfl, hx1, hB1⟩
  obtain ⟨c0, f0, c1, f1, c2, f2⟩ := Hand.hc3 hx1
  have HX := Lib.hid hx1
  have HB := Lib.hid hB1
  clear hx1 hB1
  have hap : a < S.size := hp
  have hu2 : ((S[a]'hp).toNat : Int) = (u : Int) := by rw [hu]
  have k1 : ((j : Int) < l) = False := eq_false (by omega)
  have k2 : (3 < (j : Int)) = False := eq_false (by omega)
  have k4 : (3 < j) = False := eq_false (by omega)
  have k3 : (l < (j : Int)) = True := eq_true (by omega)
  go_wp2_with fail
  go_quiet (fail)
  go_wp2_with fail
  with_reducible refine (M2.out _ (bk HX.out) (bw HB.out)).mono ?_
  rintro e w2 ⟨rfl, hx2, hB2⟩
  go_wp2
  go_ret
  exact ⟨rfl, hx2, hB2⟩
set_option maxHeartbeats 1600000 in
set_option maxRecDepth 100000 in
theorem rsixty_ok (S : ByteArray) (a : Nat) (b : Bool) (v : Int) (a' : Int) (b' : Bool) (g : Nat) (w0 w : World) (hg : w0.heap.size ≤ g) (hx : w.heap[g]? = some (rdr S (a : Int) b)) (hB : Below w0.heap.size w0 w) (h : v < 60)
    (m1 : Calls Tryz.prog 82 #[.pointer (some ⟨g, 0, none⟩), .int .i64 2] w fun e w' => e = .returned (.int .i64 v) ∧ RL w0 w' g S a' b') :
    Calls Tryz.prog 81 #[.pointer (some ⟨g, 0, none⟩)] w fun e w' => e = .returned (.int .i64 v) ∧ RL w0 w' g S a' b' := by
  have M1 := Lib.hid m1
  clear m1 hx hB
  go_enter Tryz.func81, Tryz.ntmps81
  go_wp2_with fail
  with_reducible refine M1.out.mono ?_
  rintro e w1 ⟨rfl, hx1, hB1⟩
  obtain ⟨c0, f0, c1, f1, c2, f2⟩ := Hand.hc3 hx1
  have HX := Lib.hid hx1
  have HB := Lib.hid hB1
  clear hx1 hB1
  go_wp2
  go_ret
  exact ⟨rfl, HX.out, HB.out⟩
set_option maxHeartbeats 1600000 in
set_option maxRecDepth 100000 in
theorem rsixty_no (S : ByteArray) (a : Nat) (b : Bool) (v : Int) (a' : Int) (b' : Bool) (g : Nat) (w0 w : World) (hg : w0.heap.size ≤ g) (hx : w.heap[g]? = some (rdr S (a : Int) b)) (hB : Below w0.heap.size w0 w) (h : 60 ≤ v)
    (m1 : Calls Tryz.prog 82 #[.pointer (some ⟨g, 0, none⟩), .int .i64 2] w fun e w' => e = .returned (.int .i64 v) ∧ RL w0 w' g S a' b') :
    Calls Tryz.prog 81 #[.pointer (some ⟨g, 0, none⟩)] w fun e w' => e = .returned (.int .i64 v) ∧ RL w0 w' g S a' true := by
  have M1 := Lib.hid m1
  clear m1 hx hB
  go_enter Tryz.func81, Tryz.ntmps81
  go_wp2_with fail
  with_reducible refine M1.out.mono ?_
  rintro e w1 ⟨rfl, hx1, hB1⟩
  obtain ⟨c0, f0, c1, f1, c2, f2⟩ := Hand.hc3 hx1
  have HX := Lib.hid hx1
  have HB := Lib.hid hB1
  clear hx1 hB1
  go_wp2
  go_ret
  exact ⟨rfl, by rw [Hand.q1, HX.out]; rfl, HB.out.setCell (by dsimp only; omega) _⟩
end Go.Proofs.YtghiibdhibcbaaaGreatDoor.PA
namespace Go.Proofs.YtghiibdhibcbaaaGreatDoor.PA
open Go Go.RowKit Go.Proofs.YtghiibdhibcbaaaGreatDoor.CS
set_option linter.unusedSimpArgs false
set_option linter.unusedVariables false
/-- what stands there -/
def tl (S : ByteArray) (a : Nat) : List UInt8 := S.data.toList.drop a
theorem tl_len (S : ByteArray) (a : Nat) : (tl S a).length = S.size - a := by unfold tl; rw [List.length_drop, Array.length_toList]; rfl
def rhrsS (S : ByteArray) (a : Nat) (b : Bool) (least : Nat) : Int × Nat × Bool :=
  if runN (tl S a) < least ∨ runN (tl S a) > 3 ∨ (runN (tl S a) > least ∧ (tl S a).head? = some 48) then (0, a, true) else rnumS S a b (runN (tl S a))
theorem rhours_any (S : ByteArray) (a : Nat) (b : Bool) (least : Nat) (g : Nat) (w0 w : World) (hS : S.size ≤ 9223372036854775807) (hat : a ≤ S.size) (l1 : 1 ≤ least) (hg : w0.heap.size ≤ g) (hx : w.heap[g]? = some (rdr S (a : Int) b)) (hB : Below w0.heap.size w0 w) :
    Calls Tryz.prog 79 #[.pointer (some ⟨g, 0, none⟩), .int .i64 (least : Int)] w fun e w' => e = .returned (.int .i64 (rhrsS S a b least).1) ∧ RL w0 w' g S ((rhrsS S a b least).2.1 : Int) (rhrsS S a b least).2.2 := by
  have m1 := rrun_any S a b g w0 w hS hat hg hx hB
  have m2 : ∀ w, w.heap[g]? = some (rdr S (a : Int) b) → Below w0.heap.size w0 w → runN (tl S a) ≤ 9 → _ := fun w hx hB h9 => rnumber_any S a (runN (tl S a)) b g w0 w (by omega) hat h9 hg hx hB
  have hrl := run_le (tl S a)
  rw [tl_len] at hrl
  have ej : runN (S.data.toList.drop a) = runN (tl S a) := rfl
  rw [ej] at m1
  unfold rhrsS
  obtain ⟨j, hj⟩ : ∃ j, runN (tl S a) = j := ⟨_, rfl⟩
  rw [hj] at m1 m2 hrl ⊢
  by_cases h1 : j < least
  · rw [if_pos (.inl h1)]
    exact rhours_few S a b least j g w0 w hg hx hB (by omega) m1
  · by_cases h2 : j > 3
    · rw [if_pos (.inr (.inl h2))]
      exact rhours_many S a b least j g w0 w hg hx hB (by omega) h2 m1
    · have hp : a < S.size := by omega
      have hh := head_drop S a hp
      have hh2 : (tl S a).head? = some (S[a]'hp) := hh
      by_cases h3 : j > least
      · by_cases h4 : (S[a]'hp).toNat = 48
        · have h5 : (tl S a).head? = some 48 := by rw [hh2, Option.some.injEq]; exact UInt8.toNat_inj.mp (by rw [h4]; rfl)
          rw [if_pos (.inr (.inr ⟨h3, h5⟩))]
          exact rhours_nought S a b least j _ g w0 w hg hx hB (by omega) (by omega) (by omega) hp rfl h4 m1
        · have h5 : (tl S a).head? ≠ some 48 := by rw [hh2]; intro e; rw [Option.some.injEq] at e; rw [e] at h4; exact h4 rfl
          rw [if_neg (by rintro (h | h | ⟨_, h⟩); omega; omega; exact h5 h)]
          exact rhours_ok2 S a b least j _ _ _ _ g w0 w hg hx hB (by omega) (by omega) (by omega) hp rfl (by simp; omega) m1 (fun w hx hB => m2 w hx hB (by omega))
      · rw [if_neg (by rintro (h | h | ⟨h, _⟩) <;> omega)]
        exact rhours_ok1 S a b least j _ _ _ g w0 w hg hx hB (by omega) (by omega) (by omega) m1 (fun w hx hB => m2 w hx hB (by omega))
def rsixS (S : ByteArray) (a : Nat) (b : Bool) : Int × Nat × Bool := ((rnumS S a b 2).1, (rnumS S a b 2).2.1, (rnumS S a b 2).2.2 || decide (60 ≤ (rnumS S a b 2).1))
theorem rsixty_any (S : ByteArray) (a : Nat) (b : Bool) (g : Nat) (w0 w : World) (hS : S.size ≤ 9223372036854775807) (hat : a ≤ S.size) (hg : w0.heap.size ≤ g) (hx : w.heap[g]? = some (rdr S (a : Int) b)) (hB : Below w0.heap.size w0 w) :
    Calls Tryz.prog 81 #[.pointer (some ⟨g, 0, none⟩)] w fun e w' => e = .returned (.int .i64 (rsixS S a b).1) ∧ RL w0 w' g S ((rsixS S a b).2.1 : Int) (rsixS S a b).2.2 := by
  have m1 := rnumber_any S a 2 b g w0 w (by omega) hat (by decide) hg hx hB
  unfold rsixS
  by_cases h : 60 ≤ (rnumS S a b 2).1
  · rw [decide_eq_true h, Bool.or_true]; exact rsixty_no S a b _ _ _ g w0 w hg hx hB h m1
  · rw [decide_eq_false h, Bool.or_false]; exact rsixty_ok S a b _ _ _ g w0 w hg hx hB (by omega) m1
/-- a reader's state against what is read -/
def relR (S : ByteArray) (y : Nat × Bool) (o : Option (List UInt8)) : Prop := y.1 ≤ S.size ∧ (match o with | some l => tl S y.1 = l ∧ y.2 = false | none => y.2 = true)
def relRV (S : ByteArray) (y : Int × Nat × Bool) (o : Option (Int × List UInt8)) : Prop := y.2.1 ≤ S.size ∧ (match o with | some p => y.1 = p.1 ∧ tl S y.2.1 = p.2 ∧ y.2.2 = false | none => y.2.2 = true)
theorem relRV.st {S : ByteArray} {y : Int × Nat × Bool} {o : Option (Int × List UInt8)} (h : relRV S y o) : relR S y.2 (o.map (·.2)) := by
  cases o with
  | none => exact h
  | some p => exact ⟨h.1, h.2.2⟩
theorem run_iff : ∀ (l : List UInt8) (k : Nat), k ≤ runN l ↔ k ≤ l.length ∧ noD (l.take k) = false := by
  intro l
  induction l with
  | nil => intro k; unfold runN; cases k <;> simp [noD]
  | cons a l ih =>
    intro k
    cases k with
    | zero => simp [noD]
    | succ k =>
      have h := ih k
      unfold runN at h ⊢
      by_cases ha : isD a = true
      · rw [List.takeWhile_cons_of_pos ha, List.length_cons, List.length_cons, List.take_succ_cons]
        unfold noD at h ⊢
        rw [List.any_cons, ha]
        simp only [Bool.not_true, Bool.false_or, Nat.add_le_add_iff_right]
        exact h
      · rw [List.takeWhile_cons_of_neg ha, List.take_succ_cons]
        unfold noD
        rw [List.any_cons]
        simp [ha]
theorem rnum_rel {S : ByteArray} {y : Nat × Bool} {o : Option (List UInt8)} (k : Nat) (h : relR S y o) : relRV S (rnumS S y.1 y.2 k) (o.bind (digO k)) := by
  obtain ⟨h0, h1⟩ := h
  have hl := run_le (tl S y.1)
  rw [tl_len] at hl
  have hi := run_iff (tl S y.1) k
  have et : S.data.toList.drop y.1 = tl S y.1 := rfl
  unfold rnumS
  rw [et]
  cases o with
  | none =>
    dsimp only at h1
    by_cases hk : k ≤ runN (tl S y.1)
    · rw [if_pos hk]; exact ⟨by dsimp only; omega, h1⟩
    · rw [if_neg hk]; exact ⟨by dsimp only; omega, rfl⟩
  | some l =>
    dsimp only at h1
    obtain ⟨h1, h2⟩ := h1
    rw [h1] at hi ⊢
    simp only [Option.bind_some]
    unfold digO
    by_cases hk : k ≤ runN l
    · rw [if_pos hk, if_pos (hi.mp hk)]
      refine ⟨?_, rfl, ?_, h2⟩
      · rw [h1] at hl; dsimp only; omega
      · unfold tl at h1 ⊢
        dsimp only
        rw [← h1, List.drop_drop]
    · rw [if_neg hk, if_neg (fun x => hk (hi.mpr x))]
      exact ⟨by rw [h1] at hl; dsimp only; omega, rfl⟩
theorem rmark_rel {S : ByteArray} {y : Nat × Bool} {o : Option (List UInt8)} (c : UInt8) (h : relR S y o) : relR S (rmarkS S y.1 y.2 c) (o.bind (byteO c)) := by
  obtain ⟨h0, h1⟩ := h
  have et : S.data.toList.drop y.1 = tl S y.1 := rfl
  unfold rmarkS
  rw [et]
  have hpos : (tl S y.1).head? = some c → y.1 + 1 ≤ S.size := by
    intro e
    have : (tl S y.1).length ≠ 0 := by intro h; rw [List.length_eq_zero_iff] at h; rw [h] at e; cases e
    rw [tl_len] at this; omega
  cases o with
  | none =>
    by_cases hc : (tl S y.1).head? = some c
    · rw [if_pos hc]; exact ⟨hpos hc, h1⟩
    · rw [if_neg hc]; exact ⟨h0, rfl⟩
  | some l =>
    dsimp only at h1
    obtain ⟨h1, h2⟩ := h1
    simp only [Option.bind_some]
    unfold byteO
    by_cases hc : (tl S y.1).head? = some c
    · rw [if_pos hc, ← h1, if_pos hc]
      refine ⟨hpos hc, ?_, h2⟩
      unfold tl
      rw [List.tail_drop]
    · rw [if_neg hc, ← h1, if_neg hc]; exact ⟨h0, rfl⟩
theorem rsix_rel {S : ByteArray} {y : Nat × Bool} {o : Option (List UInt8)} (h : relR S y o) : relRV S (rsixS S y.1 y.2) (o.bind (belO 2 60)) := by
  have h1 := rnum_rel 2 h
  unfold rsixS
  have e : o.bind (belO 2 60) = (o.bind (digO 2)).bind fun p => if p.1 < 60 then some p else none := by cases o <;> rfl
  rw [e]
  cases hd : o.bind (digO 2) with
  | none => rw [hd] at h1; exact ⟨h1.1, by have := h1.2; dsimp only at this ⊢; rw [this]; rfl⟩
  | some p =>
    rw [hd] at h1
    obtain ⟨a0, a1, a2, a3⟩ := h1
    simp only [Option.bind_some]
    by_cases hm : p.1 < 60
    · rw [if_pos hm]; exact ⟨a0, a1, a2, by dsimp only; rw [a1, a3, decide_eq_false (by omega)]; rfl⟩
    · rw [if_neg hm]; exact ⟨a0, by dsimp only; rw [a1, decide_eq_true (by omega)]; simp⟩
/-- hours and a colon, as the reference reads them -/
theorem rhrs_rel (S : ByteArray) (least : Nat) (l1 : 1 ≤ least) : relRV S ((rhrsS S 0 false least).1, rmarkS S (rhrsS S 0 false least).2.1 (rhrsS S 0 false least).2.2 58) (hcO least (tl S 0)) := by
  have hl := run_le (tl S 0)
  have hlen := tl_len S 0
  have hidx := idx_lt (tl S 0) 58
  have key : ∀ i : Nat, Lib.indexByte (tl S 0) 58 = i → noD ((tl S 0).take i) = false → runN (tl S 0) = i := by
    intro i hi hn
    obtain ⟨d1, d2⟩ := idx_split (tl S 0) 58 (by omega)
    rw [hi, Int.toNat_natCast] at d1 d2
    refine run_stop _ i ((run_iff _ _).mpr ⟨by omega, hn⟩) (fun c hc => ?_)
    rw [← List.head?_drop, d1] at hc
    simp only [List.head?_cons, Option.some.injEq] at hc
    rw [← hc]; decide
  have key2 : ((tl S 0).drop (runN (tl S 0))).head? = some 58 → Lib.indexByte (tl S 0) 58 = (runN (tl S 0) : Int) := by
    intro hh
    have hn := ((run_iff (tl S 0) (runN (tl S 0))).mp (Nat.le_refl _))
    have hd : ∃ r, (tl S 0).drop (runN (tl S 0)) = 58 :: r := by
      cases hc : (tl S 0).drop (runN (tl S 0)) with
      | nil => rw [hc] at hh; cases hh
      | cons a r => rw [hc] at hh; simp only [List.head?_cons, Option.some.injEq] at hh; exact ⟨r, by rw [hh]⟩
    obtain ⟨r, hr⟩ := hd
    have hsp := List.take_append_drop (runN (tl S 0)) (tl S 0)
    rw [hr] at hsp
    have := ParD.index_at ((tl S 0).take (runN (tl S 0))) r 58 (by
      intro hm
      have h2 := hn.2
      unfold noD at h2
      rw [List.any_eq_false] at h2
      have h3 := h2 58 hm
      exact h3 (by decide))
    rw [hsp] at this
    rw [this, List.length_take, Nat.min_eq_left hl]
  unfold rhrsS
  by_cases h : runN (tl S 0) < least ∨ runN (tl S 0) > 3 ∨ (runN (tl S 0) > least ∧ (tl S 0).head? = some 48)
  · rw [if_pos h]
    have hno : hcO least (tl S 0) = none := by
      unfold hcO
      rw [if_neg]
      rintro ⟨c1, c2, c3, c4⟩
      obtain ⟨i, hi⟩ : ∃ i : Nat, Lib.indexByte (tl S 0) 58 = i := ⟨(Lib.indexByte (tl S 0) 58).toNat, by omega⟩
      rw [hi] at c1 c2 c3
      rw [hi, Int.toNat_natCast] at c4
      have e := key i hi c4
      rw [e] at h
      rcases h with h | h | ⟨h, h'⟩
      · omega
      · omega
      · exact c3 (by omega) h'
    rw [hno]
    refine ⟨?_, ?_⟩
    · unfold rmarkS
      split
      · rename_i hc
        have : (tl S 0).head? = some 58 := hc
        have : (tl S 0).length ≠ 0 := by intro h; rw [List.length_eq_zero_iff] at h; rw [h] at this; cases this
        dsimp only; omega
      · dsimp only; omega
    · show (rmarkS S 0 true 58).2 = true
      unfold rmarkS
      split <;> rfl
  · rw [if_neg h]
    have hj : rnumS S 0 false (runN (tl S 0)) = (vg ((tl S 0).take (runN (tl S 0))), 0 + runN (tl S 0), false) := by
      unfold rnumS
      rw [show S.data.toList.drop 0 = tl S 0 from rfl, if_pos (Nat.le_refl _)]
    rw [hj, Nat.zero_add]
    dsimp only
    have et : S.data.toList.drop (runN (tl S 0)) = (tl S 0).drop (runN (tl S 0)) := by unfold tl; rw [List.drop_zero]
    unfold rmarkS
    rw [et]
    have hn := ((run_iff (tl S 0) (runN (tl S 0))).mp (Nat.le_refl _))
    by_cases hc : ((tl S 0).drop (runN (tl S 0))).head? = some 58
    · rw [if_pos hc]
      have hi := key2 hc
      have hyes : hcO least (tl S 0) = some (vg ((tl S 0).take (runN (tl S 0))), (tl S 0).drop (runN (tl S 0) + 1)) := by
        unfold hcO
        rw [hi, Int.toNat_natCast, if_pos]
        refine ⟨by omega, by omega, fun h1 h2 => h (.inr (.inr ⟨by omega, h2⟩)), hn.2⟩
      rw [hyes]
      refine ⟨?_, rfl, ?_, rfl⟩
      · have : ((tl S 0).drop (runN (tl S 0))).length ≠ 0 := by intro h; rw [List.length_eq_zero_iff] at h; rw [h] at hc; cases hc
        rw [List.length_drop] at this
        dsimp only; omega
      · unfold tl; rw [List.drop_zero]
    · rw [if_neg hc]
      have hno : hcO least (tl S 0) = none := by
        unfold hcO
        rw [if_neg]
        rintro ⟨c1, c2, c3, c4⟩
        obtain ⟨i, hi⟩ : ∃ i : Nat, Lib.indexByte (tl S 0) 58 = i := ⟨(Lib.indexByte (tl S 0) 58).toNat, by omega⟩
        rw [hi, Int.toNat_natCast] at c4
        have e := key i hi c4
        obtain ⟨d1, _⟩ := idx_split (tl S 0) 58 (by omega)
        rw [hi, Int.toNat_natCast] at d1
        rw [e, d1] at hc
        exact hc rfl
      rw [hno]
      exact ⟨by dsimp only; omega, rfl⟩
end Go.Proofs.YtghiibdhibcbaaaGreatDoor.PA
