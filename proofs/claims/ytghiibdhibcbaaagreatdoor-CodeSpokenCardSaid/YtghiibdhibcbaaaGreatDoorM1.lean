/- code: whole. code: whole told. strings.Cut at a separator of one byte. code: Rate. code: Rate told. -/
import Derived.Test.YtghiibdhibcbaaaGreatDoorME
import Derived.Test.YtghiibdhibcbaaaGreatDoorMF
import Derived.Test.YtghiibdhibcbaaaGreatDoorMJ
import Derived.Test.YtghiibdhibcbaaaGreatDoorShelfB
import Derived.Test.YtghiibdhibcbaaaGreatDoorHand
import Derived.Deep.RegionHeld3
import Derived.Deep.RegionWith
import Derived.Deep.QuietTactic
import Derived.BigQuiet
import Derived.Lib.IndexBytes
import Derived.Lib.CutLaws
import Derived.ChangeAlike
import Derived.Test.YtghiibdhibcbaaaGreatDoorMB
namespace Go.Proofs.YtghiibdhibcbaaaGreatDoor.PA
open Go Go.RowKit Go.Proofs.YtghiibdhibcbaaaGreatDoorW.PrintWords Go.Proofs.YtghiibdhibcbaaaGreatDoorW.PrintLast Go.Proofs.YtghiibdhibcbaaaGreatDoorW.PrintMore Go.Proofs.YtghiibdhibcbaaaGreatDoor.CS
set_option linter.unusedSimpArgs false
set_option linter.unusedVariables false
set_option maxHeartbeats 800000 in
set_option maxRecDepth 100000 in
theorem who_empty (S : ByteArray) (p : Addr) (h : S.toList.isEmpty = true) (w : World) :
    Calls Tryz.prog 50 #[.string S, .pointer (some p)] w fun e w' => e = .returned (.bool false) ∧ Below w.heap.size w w' := by
  have h2 : S.toList = [] := by simpa using h
  go_enter Tryz.func50, Tryz.ntmps50
  go_wp2
  go_ret
  exact ⟨rfl, Below.refl _ _⟩
set_option maxHeartbeats 800000 in
set_option maxRecDepth 100000 in
theorem who_long (S : ByteArray) (p : Addr) (hne : S.toList.isEmpty = false) (h : 9 < S.size) (w : World) :
    Calls Tryz.prog 50 #[.string S, .pointer (some p)] w fun e w' => e = .returned (.bool false) ∧ Below w.heap.size w w' := by
  have hne2 : ¬ S.toList = [] := by intro e; rw [e] at hne; exact absurd hne (by decide)
  have k1 : (9 < (S.size : Int)) = True := eq_true (by omega)
  have k2 : (9 < S.size) = True := eq_true h
  go_enter Tryz.func50, Tryz.ntmps50
  go_wp2
  go_ret
  exact ⟨rfl, Below.refl _ _⟩
set_option maxHeartbeats 800000 in
set_option maxRecDepth 100000 in
theorem who_nought (S : ByteArray) (p : Addr) (hne : S.toList.isEmpty = false) (h : S.size ≤ 9) (h1 : 1 < S.size) (h0 : 0 < S.size) (hu : (S[0]'h0).toNat = 48) (w : World) :
    Calls Tryz.prog 50 #[.string S, .pointer (some p)] w fun e w' => e = .returned (.bool false) ∧ Below w.heap.size w w' := by
  have hne2 : ¬ S.toList = [] := by intro e; rw [e] at hne; exact absurd hne (by decide)
  have k1 : (9 < (S.size : Int)) = False := eq_false (by omega)
  have k2 : (9 < S.size) = False := eq_false (by omega)
  have k3 : (1 < (S.size : Int)) = True := eq_true (by omega)
  have k4 : (1 < S.size) = True := eq_true h1
  have hu2 : ((S[0]'h0).toNat : Int) = 48 := by rw [hu]; rfl
  go_enter Tryz.func50, Tryz.ntmps50
  go_wp2
  go_ret
  exact ⟨rfl, Below.refl _ _⟩
set_option maxHeartbeats 800000 in
set_option maxRecDepth 100000 in
theorem who_one_0 (S L' : ByteArray) (G u : Nat) (n d v : Int) (dr b' : Bool) (w0 w : World) (hG : w0.heap.size ≤ G) (hg : w.heap[G]? = some (.cells #[.int .i64 n, .int .i64 d, .bool dr] 23 (0, 0))) (hB : Below w0.heap.size w0 w) (hne : S.toList.isEmpty = false) (h : S.size ≤ 9) (h1 : S.size = 1)
    (m1 : ∀ w0 w g, w0.heap.size ≤ g → w.heap[g]? = some (scan S false) → Below w0.heap.size w0 w → Calls Tryz.prog 42 #[.pointer (some ⟨g, 0, none⟩), .int .i64 1] w fun e w' => e = .returned (.int .i64 v) ∧ SL w0 w' g L' b') :
    Calls Tryz.prog 50 #[.string S, .pointer (some ⟨G, 0, none⟩)] w fun e w' => e = .returned (.bool (!b')) ∧ w'.heap[G]? = some (.cells #[.int .i64 v, .int .i64 d, .bool dr] 23 (0, 0)) ∧ Below w0.heap.size w0 w' := by
  have hne2 : ¬ S.toList = [] := by intro e; rw [e] at hne; exact absurd hne (by decide)
  have k1 : (9 < (S.size : Int)) = False := eq_false (by omega)
  have k2 : (9 < S.size) = False := eq_false (by omega)
  have k3 : (1 < (S.size : Int)) = False := eq_false (by omega)
  have k4 : (1 < S.size) = False := eq_false (by omega)
  have M1 := Lib.hid m1
  have GG := Lib.hid hg
  have HB := Lib.hid hB
  have hGs : G < w.heap.size := (Hand.hz hg).1
  clear m1 hg hB
  go_enter Tryz.func50, Tryz.ntmps50
  go_wp2_with fail
  obtain ⟨W, hW⟩ : ∃ W_, W_ = w.alloc (scan S false) := ⟨_, rfl⟩
  rw [← hW]
  have hx_W : W.heap[w.heap.size]? = some (scan S false) := by rw [hW]; exact Hand.q3 _ _ _ rfl
  have hb_W : Below w.heap.size w W := by rw [hW]; exact (Below.refl _ _).alloc (Nat.le_refl _) _
  clear hW
  with_reducible refine (M1.out w _ _ (Nat.le_refl _) hx_W hb_W).mono ?_
  rintro e w2 ⟨rfl, hx2, hb2⟩
  have g2 := Hand.kb hb2 GG.out
  obtain ⟨c0, f0, c1, f1⟩ := Hand.hc2 hx2
  obtain ⟨d0, e0, d1, e1, d2, e2⟩ := Hand.hc3 g2
  have y0 : (G = w.heap.size) = False := eq_false (by omega)
  have y1 : (w.heap.size = G) = False := eq_false (by omega)
  have G2 := Lib.hid g2
  have B2 := Lib.hid (HB.out.trans (Below.mono hb2 HB.out.size))
  clear g2 hx2 hb2 hx_W hb_W
  go_wp2
  go_ret
  exact ⟨by first | rfl | (cases b' <;> rfl), by rw [Hand.q1, G2.out]; rfl, B2.out.setCell hG _⟩
set_option maxHeartbeats 800000 in
set_option maxRecDepth 100000 in
theorem who_more_0 (S L' : ByteArray) (G u : Nat) (n d v : Int) (dr b' : Bool) (w0 w : World) (hG : w0.heap.size ≤ G) (hg : w.heap[G]? = some (.cells #[.int .i64 n, .int .i64 d, .bool dr] 23 (0, 0))) (hB : Below w0.heap.size w0 w) (hne : S.toList.isEmpty = false) (h : S.size ≤ 9) (h1 : 1 < S.size) (h0 : 0 < S.size) (hu : (S[0]'h0).toNat = u) (u48 : ((u : Int) == 48) = false)
    (m1 : ∀ w0 w g, w0.heap.size ≤ g → w.heap[g]? = some (scan S false) → Below w0.heap.size w0 w → Calls Tryz.prog 42 #[.pointer (some ⟨g, 0, none⟩), .int .i64 (S.size : Int)] w fun e w' => e = .returned (.int .i64 v) ∧ SL w0 w' g L' b') :
    Calls Tryz.prog 50 #[.string S, .pointer (some ⟨G, 0, none⟩)] w fun e w' => e = .returned (.bool (!b')) ∧ w'.heap[G]? = some (.cells #[.int .i64 v, .int .i64 d, .bool dr] 23 (0, 0)) ∧ Below w0.heap.size w0 w' := by
  have hne2 : ¬ S.toList = [] := by intro e; rw [e] at hne; exact absurd hne (by decide)
  have k1 : (9 < (S.size : Int)) = False := eq_false (by omega)
  have k2 : (9 < S.size) = False := eq_false (by omega)
  have k3 : (1 < (S.size : Int)) = True := eq_true (by omega)
  have k4 : (1 < S.size) = True := eq_true h1
  have hu2 : ((S[0]'h0).toNat : Int) = (u : Int) := by rw [hu]
  have M1 := Lib.hid m1
  have GG := Lib.hid hg
  have HB := Lib.hid hB
  have hGs : G < w.heap.size := (Hand.hz hg).1
  clear m1 hg hB
  go_enter Tryz.func50, Tryz.ntmps50
  go_wp2_with fail
  obtain ⟨W, hW⟩ : ∃ W_, W_ = w.alloc (scan S false) := ⟨_, rfl⟩
  rw [← hW]
  have hx_W : W.heap[w.heap.size]? = some (scan S false) := by rw [hW]; exact Hand.q3 _ _ _ rfl
  have hb_W : Below w.heap.size w W := by rw [hW]; exact (Below.refl _ _).alloc (Nat.le_refl _) _
  clear hW
  with_reducible refine (M1.out w _ _ (Nat.le_refl _) hx_W hb_W).mono ?_
  rintro e w2 ⟨rfl, hx2, hb2⟩
  have g2 := Hand.kb hb2 GG.out
  obtain ⟨c0, f0, c1, f1⟩ := Hand.hc2 hx2
  obtain ⟨d0, e0, d1, e1, d2, e2⟩ := Hand.hc3 g2
  have y0 : (G = w.heap.size) = False := eq_false (by omega)
  have y1 : (w.heap.size = G) = False := eq_false (by omega)
  have G2 := Lib.hid g2
  have B2 := Lib.hid (HB.out.trans (Below.mono hb2 HB.out.size))
  clear g2 hx2 hb2 hx_W hb_W
  go_wp2
  go_ret
  exact ⟨by first | rfl | (cases b' <;> rfl), by rw [Hand.q1, G2.out]; rfl, B2.out.setCell hG _⟩
set_option maxHeartbeats 800000 in
set_option maxRecDepth 100000 in
theorem who_one_1 (S L' : ByteArray) (G u : Nat) (n d v : Int) (dr b' : Bool) (w0 w : World) (hG : w0.heap.size ≤ G) (hg : w.heap[G]? = some (.cells #[.int .i64 n, .int .i64 d, .bool dr] 23 (0, 0))) (hB : Below w0.heap.size w0 w) (hne : S.toList.isEmpty = false) (h : S.size ≤ 9) (h1 : S.size = 1)
    (m1 : ∀ w0 w g, w0.heap.size ≤ g → w.heap[g]? = some (scan S false) → Below w0.heap.size w0 w → Calls Tryz.prog 42 #[.pointer (some ⟨g, 0, none⟩), .int .i64 1] w fun e w' => e = .returned (.int .i64 v) ∧ SL w0 w' g L' b') :
    Calls Tryz.prog 50 #[.string S, .pointer (some ⟨G, 1, none⟩)] w fun e w' => e = .returned (.bool (!b')) ∧ w'.heap[G]? = some (.cells #[.int .i64 n, .int .i64 v, .bool dr] 23 (0, 0)) ∧ Below w0.heap.size w0 w' := by
  have hne2 : ¬ S.toList = [] := by intro e; rw [e] at hne; exact absurd hne (by decide)
  have k1 : (9 < (S.size : Int)) = False := eq_false (by omega)
  have k2 : (9 < S.size) = False := eq_false (by omega)
  have k3 : (1 < (S.size : Int)) = False := eq_false (by omega)
  have k4 : (1 < S.size) = False := eq_false (by omega)
  have M1 := Lib.hid m1
  have GG := Lib.hid hg
  have HB := Lib.hid hB
  have hGs : G < w.heap.size := (Hand.hz hg).1
  clear m1 hg hB
  go_enter Tryz.func50, Tryz.ntmps50
  go_wp2_with fail
  obtain ⟨W, hW⟩ : ∃ W_, W_ = w.alloc (scan S false) := ⟨_, rfl⟩
  rw [← hW]
  have hx_W : W.heap[w.heap.size]? = some (scan S false) := by rw [hW]; exact Hand.q3 _ _ _ rfl
  have hb_W : Below w.heap.size w W := by rw [hW]; exact (Below.refl _ _).alloc (Nat.le_refl _) _
  clear hW
  with_reducible refine (M1.out w _ _ (Nat.le_refl _) hx_W hb_W).mono ?_
  rintro e w2 ⟨rfl, hx2, hb2⟩
  have g2 := Hand.kb hb2 GG.out
  obtain ⟨c0, f0, c1, f1⟩ := Hand.hc2 hx2
  obtain ⟨d0, e0, d1, e1, d2, e2⟩ := Hand.hc3 g2
  have y0 : (G = w.heap.size) = False := eq_false (by omega)
  have y1 : (w.heap.size = G) = False := eq_false (by omega)
  have G2 := Lib.hid g2
  have B2 := Lib.hid (HB.out.trans (Below.mono hb2 HB.out.size))
  clear g2 hx2 hb2 hx_W hb_W
  go_wp2
  go_ret
  exact ⟨by first | rfl | (cases b' <;> rfl), by rw [Hand.q1, G2.out]; rfl, B2.out.setCell hG _⟩
set_option maxHeartbeats 800000 in
set_option maxRecDepth 100000 in
theorem who_more_1 (S L' : ByteArray) (G u : Nat) (n d v : Int) (dr b' : Bool) (w0 w : World) (hG : w0.heap.size ≤ G) (hg : w.heap[G]? = some (.cells #[.int .i64 n, .int .i64 d, .bool dr] 23 (0, 0))) (hB : Below w0.heap.size w0 w) (hne : S.toList.isEmpty = false) (h : S.size ≤ 9) (h1 : 1 < S.size) (h0 : 0 < S.size) (hu : (S[0]'h0).toNat = u) (u48 : ((u : Int) == 48) = false)
    (m1 : ∀ w0 w g, w0.heap.size ≤ g → w.heap[g]? = some (scan S false) → Below w0.heap.size w0 w → Calls Tryz.prog 42 #[.pointer (some ⟨g, 0, none⟩), .int .i64 (S.size : Int)] w fun e w' => e = .returned (.int .i64 v) ∧ SL w0 w' g L' b') :
    Calls Tryz.prog 50 #[.string S, .pointer (some ⟨G, 1, none⟩)] w fun e w' => e = .returned (.bool (!b')) ∧ w'.heap[G]? = some (.cells #[.int .i64 n, .int .i64 v, .bool dr] 23 (0, 0)) ∧ Below w0.heap.size w0 w' := by
  have hne2 : ¬ S.toList = [] := by intro e; rw [e] at hne; exact absurd hne (by decide)
  have k1 : (9 < (S.size : Int)) = False := eq_false (by omega)
  have k2 : (9 < S.size) = False := eq_false (by omega)
  have k3 : (1 < (S.size : Int)) = True := eq_true (by omega)
  have k4 : (1 < S.size) = True := eq_true h1
  have hu2 : ((S[0]'h0).toNat : Int) = (u : Int) := by rw [hu]
  have M1 := Lib.hid m1
  have GG := Lib.hid hg
  have HB := Lib.hid hB
  have hGs : G < w.heap.size := (Hand.hz hg).1
  clear m1 hg hB
  go_enter Tryz.func50, Tryz.ntmps50
  go_wp2_with fail
  obtain ⟨W, hW⟩ : ∃ W_, W_ = w.alloc (scan S false) := ⟨_, rfl⟩
  rw [← hW]
  have hx_W : W.heap[w.heap.size]? = some (scan S false) := by rw [hW]; exact Hand.q3 _ _ _ rfl
  have hb_W : Below w.heap.size w W := by rw [hW]; exact (Below.refl _ _).alloc (Nat.le_refl _) _
  clear hW
  with_reducible refine (M1.out w _ _ (Nat.le_refl _) hx_W hb_W).mono ?_
  rintro e w2 ⟨rfl, hx2, hb2⟩
  have g2 := Hand.kb hb2 GG.out
  obtain ⟨c0, f0, c1, f1⟩ := Hand.hc2 hx2
  obtain ⟨d0, e0, d1, e1, d2, e2⟩ := Hand.hc3 g2
  have y0 : (G = w.heap.size) = False := eq_false (by omega)
  have y1 : (w.heap.size = G) = False := eq_false (by omega)
  have G2 := Lib.hid g2
  have B2 := Lib.hid (HB.out.trans (Below.mono hb2 HB.out.size))
  clear g2 hx2 hb2 hx_W hb_W
  go_wp2
  go_ret
  exact ⟨by first | rfl | (cases b' <;> rfl), by rw [Hand.q1, G2.out]; rfl, B2.out.setCell hG _⟩
end Go.Proofs.YtghiibdhibcbaaaGreatDoor.PA
namespace Go.Proofs.YtghiibdhibcbaaaGreatDoor.PA
open Go Go.RowKit Go.Proofs.YtghiibdhibcbaaaGreatDoor.CS
set_option linter.unusedSimpArgs false
set_option linter.unusedVariables false
/-- a whole number, as a rate's text has it -/
def whoO (l : List UInt8) : Option Int := if 1 ≤ l.length ∧ l.length ≤ 9 ∧ ¬ (l.length > 1 ∧ l.head? = some 48) ∧ noD l = false then some (vg l) else none
/-- what is stored of it, where old stood -/
def whoV (l : List UInt8) (old : Int) : Int := if 1 ≤ l.length ∧ l.length ≤ 9 ∧ ¬ (l.length > 1 ∧ l.head? = some 48) then vg l else old
theorem whoV_of {l : List UInt8} {u : Int} (old : Int) (h : whoO l = some u) : whoV l old = u := by
  unfold whoO at h
  split at h
  · rename_i hc
    unfold whoV
    rw [if_pos ⟨hc.1, hc.2.1, hc.2.2.1⟩]
    exact Option.some.inj h
  · cases h
theorem num_all {l : List UInt8} (h : 1 ≤ l.length) : numS (l, false) (l.length : Int) = (vg l, [], noD l) := by
  unfold numS
  rw [if_neg (by dsimp only; omega), Int.toNat_natCast, List.take_length, List.drop_length, Bool.false_or]
theorem bs_list2 (l : List UInt8) : (bs l).data.toList = l := by simp [bs]
theorem who_any_0 (l : List UInt8) (G : Nat) (n d : Int) (dr : Bool) (w0 w : World) (hG : w0.heap.size ≤ G) (hg : w.heap[G]? = some (.cells #[.int .i64 n, .int .i64 d, .bool dr] 23 (0, 0))) (hB : Below w0.heap.size w0 w) :
    Calls Tryz.prog 50 #[.string (bs l), .pointer (some ⟨G, 0, none⟩)] w fun e w' => e = .returned (.bool (whoO l).isSome) ∧ w'.heap[G]? = some (.cells #[.int .i64 (whoV l n), .int .i64 d, .bool dr] 23 (0, 0)) ∧ Below w0.heap.size w0 w' := by
  have fl : whoO l = none → whoV l n = n → (Calls Tryz.prog 50 #[.string (bs l), .pointer (some ⟨G, 0, none⟩)] w fun e w' => e = .returned (.bool false) ∧ Below w.heap.size w w') → Calls Tryz.prog 50 #[.string (bs l), .pointer (some ⟨G, 0, none⟩)] w fun e w' => e = .returned (.bool (whoO l).isSome) ∧ w'.heap[G]? = some (.cells #[.int .i64 (whoV l n), .int .i64 d, .bool dr] 23 (0, 0)) ∧ Below w0.heap.size w0 w' := by
    intro hn hv hc
    refine hc.mono ?_
    rintro e w' ⟨rfl, hb⟩
    rw [hn]
    exact ⟨rfl, by rw [hv]; exact Hand.kb hb hg, hB.trans (Below.mono hb hB.size)⟩
  have sz := bs_size l
  by_cases h1 : l = []
  · subst h1
    exact fl rfl rfl (who_empty _ _ (by rw [bs_toList]; rfl) w)
  · have hne := ne_nil_bs h1
    have hp : 1 ≤ l.length := by cases l with | nil => exact absurd rfl h1 | cons a l => simp
    by_cases h9 : l.length ≤ 9
    · have nm := fun (w0 w : World) g hg hx hB => number_any (l, false) (l.length : Int) g w0 w (by omega) hg hx hB
      rw [num_all hp] at nm
      have hs : (whoO l = some (vg l) ∧ noD l = false ∨ whoO l = none ∧ noD l = true) → (whoO l).isSome = !(noD l) := by
        rintro (⟨a, b⟩ | ⟨a, b⟩) <;> rw [a, b] <;> rfl
      by_cases h2 : l.length = 1
      · have HV : whoV l n = vg l := if_pos ⟨hp, h9, fun h => by omega⟩
        have hw := hs (by unfold whoO; cases hd : noD l; exact .inl ⟨if_pos ⟨hp, h9, fun h => by omega, rfl⟩, rfl⟩; exact .inr ⟨if_neg (fun h => by cases h.2.2.2), rfl⟩)
        have := who_one_0 (bs l) _ G 0 n d (vg l) dr _ w0 w hG hg hB hne (by omega) (by omega) (by have := nm; rw [h2] at this; exact this)
        refine this.mono ?_
        rintro e w' ⟨rfl, a, b⟩
        exact ⟨by rw [hw], by rw [HV]; exact a, b⟩
      · have h0 : 0 < (bs l).size := by omega
        have hh := head_drop (bs l) 0 h0
        rw [bs_list2, List.drop_zero] at hh
        by_cases h48 : ((bs l)[0]'h0).toNat = 48
        · have e48 : l.head? = some 48 := by rw [hh, Option.some.injEq]; exact UInt8.toNat_inj.mp (by rw [h48]; rfl)
          exact fl (if_neg (fun h => h.2.2.1 ⟨by omega, e48⟩)) (if_neg (fun h => h.2.2 ⟨by omega, e48⟩)) (who_nought (bs l) _ hne (by omega) (by omega) h0 h48 w)
        · have e48 : l.head? ≠ some 48 := by rw [hh]; intro e; rw [Option.some.injEq] at e; rw [e] at h48; exact h48 rfl
          have HV : whoV l n = vg l := if_pos ⟨hp, h9, fun h => e48 h.2⟩
          have hw := hs (by unfold whoO; cases hd : noD l; exact .inl ⟨if_pos ⟨hp, h9, fun h => e48 h.2, rfl⟩, rfl⟩; exact .inr ⟨if_neg (fun h => by cases h.2.2.2), rfl⟩)
          have := who_more_0 (bs l) _ G _ n d (vg l) dr _ w0 w hG hg hB hne (by omega) (by omega) h0 rfl (by simp; omega) (by rw [sz]; exact nm)
          refine this.mono ?_
          rintro e w' ⟨rfl, a, b⟩
          exact ⟨by rw [hw], by rw [HV]; exact a, b⟩
    · exact fl (if_neg (fun h => h9 h.2.1)) (if_neg (fun h => h9 h.2.1)) (who_long (bs l) _ hne (by omega) w)
theorem who_any_1 (l : List UInt8) (G : Nat) (n d : Int) (dr : Bool) (w0 w : World) (hG : w0.heap.size ≤ G) (hg : w.heap[G]? = some (.cells #[.int .i64 n, .int .i64 d, .bool dr] 23 (0, 0))) (hB : Below w0.heap.size w0 w) :
    Calls Tryz.prog 50 #[.string (bs l), .pointer (some ⟨G, 1, none⟩)] w fun e w' => e = .returned (.bool (whoO l).isSome) ∧ w'.heap[G]? = some (.cells #[.int .i64 n, .int .i64 (whoV l d), .bool dr] 23 (0, 0)) ∧ Below w0.heap.size w0 w' := by
  have fl : whoO l = none → whoV l d = d → (Calls Tryz.prog 50 #[.string (bs l), .pointer (some ⟨G, 1, none⟩)] w fun e w' => e = .returned (.bool false) ∧ Below w.heap.size w w') → Calls Tryz.prog 50 #[.string (bs l), .pointer (some ⟨G, 1, none⟩)] w fun e w' => e = .returned (.bool (whoO l).isSome) ∧ w'.heap[G]? = some (.cells #[.int .i64 n, .int .i64 (whoV l d), .bool dr] 23 (0, 0)) ∧ Below w0.heap.size w0 w' := by
    intro hn hv hc
    refine hc.mono ?_
    rintro e w' ⟨rfl, hb⟩
    rw [hn]
    exact ⟨rfl, by rw [hv]; exact Hand.kb hb hg, hB.trans (Below.mono hb hB.size)⟩
  have sz := bs_size l
  by_cases h1 : l = []
  · subst h1
    exact fl rfl rfl (who_empty _ _ (by rw [bs_toList]; rfl) w)
  · have hne := ne_nil_bs h1
    have hp : 1 ≤ l.length := by cases l with | nil => exact absurd rfl h1 | cons a l => simp
    by_cases h9 : l.length ≤ 9
    · have nm := fun (w0 w : World) g hg hx hB => number_any (l, false) (l.length : Int) g w0 w (by omega) hg hx hB
      rw [num_all hp] at nm
      have hs : (whoO l = some (vg l) ∧ noD l = false ∨ whoO l = none ∧ noD l = true) → (whoO l).isSome = !(noD l) := by
        rintro (⟨a, b⟩ | ⟨a, b⟩) <;> rw [a, b] <;> rfl
      by_cases h2 : l.length = 1
      · have HV : whoV l d = vg l := if_pos ⟨hp, h9, fun h => by omega⟩
        have hw := hs (by unfold whoO; cases hd : noD l; exact .inl ⟨if_pos ⟨hp, h9, fun h => by omega, rfl⟩, rfl⟩; exact .inr ⟨if_neg (fun h => by cases h.2.2.2), rfl⟩)
        have := who_one_1 (bs l) _ G 0 n d (vg l) dr _ w0 w hG hg hB hne (by omega) (by omega) (by have := nm; rw [h2] at this; exact this)
        refine this.mono ?_
        rintro e w' ⟨rfl, a, b⟩
        exact ⟨by rw [hw], by rw [HV]; exact a, b⟩
      · have h0 : 0 < (bs l).size := by omega
        have hh := head_drop (bs l) 0 h0
        rw [bs_list2, List.drop_zero] at hh
        by_cases h48 : ((bs l)[0]'h0).toNat = 48
        · have e48 : l.head? = some 48 := by rw [hh, Option.some.injEq]; exact UInt8.toNat_inj.mp (by rw [h48]; rfl)
          exact fl (if_neg (fun h => h.2.2.1 ⟨by omega, e48⟩)) (if_neg (fun h => h.2.2 ⟨by omega, e48⟩)) (who_nought (bs l) _ hne (by omega) (by omega) h0 h48 w)
        · have e48 : l.head? ≠ some 48 := by rw [hh]; intro e; rw [Option.some.injEq] at e; rw [e] at h48; exact h48 rfl
          have HV : whoV l d = vg l := if_pos ⟨hp, h9, fun h => e48 h.2⟩
          have hw := hs (by unfold whoO; cases hd : noD l; exact .inl ⟨if_pos ⟨hp, h9, fun h => e48 h.2, rfl⟩, rfl⟩; exact .inr ⟨if_neg (fun h => by cases h.2.2.2), rfl⟩)
          have := who_more_1 (bs l) _ G _ n d (vg l) dr _ w0 w hG hg hB hne (by omega) (by omega) h0 rfl (by simp; omega) (by rw [sz]; exact nm)
          refine this.mono ?_
          rintro e w' ⟨rfl, a, b⟩
          exact ⟨by rw [hw], by rw [HV]; exact a, b⟩
    · exact fl (if_neg (fun h => h9 h.2.1)) (if_neg (fun h => h9 h.2.1)) (who_long (bs l) _ hne (by omega) w)
end Go.Proofs.YtghiibdhibcbaaaGreatDoor.PA
namespace Go.Proofs.YtghiibdhibcbaaaGreatDoor.PA
open Go Go.RowKit Go.Proofs.YtghiibdhibcbaaaGreatDoorW.PrintWords Go.Proofs.YtghiibdhibcbaaaGreatDoorW.PrintLast Go.Proofs.YtghiibdhibcbaaaGreatDoorW.PrintMore
set_option linter.unusedSimpArgs false
set_option linter.unusedVariables false
set_option maxHeartbeats 800000 in
set_option maxRecDepth 100000 in
theorem slcut_any (s : ByteArray) (c : UInt8) (w : World) (hs : s.size ≤ 9223372036854775807) :
    Calls Tryz.prog 78 #[.string s, .string ⟨#[c]⟩] w fun e w' => e = .returned (.tuple #[.string ⟨(Lib.cut s.data.toList (⟨#[c]⟩ : ByteArray).data.toList).1.toArray⟩, .string ⟨(Lib.cut s.data.toList (⟨#[c]⟩ : ByteArray).data.toList).2.1.toArray⟩, .bool (Lib.cut s.data.toList (⟨#[c]⟩ : ByteArray).data.toList).2.2]) ∧ ∃ n, w' = w.drewN n := by
  have H1 : ∀ w, Calls Tryz.prog 97 #[.string s, .string ⟨#[c]⟩] w fun e w' => e = .returned (.int .i64 (Lib.indexB s ⟨#[c]⟩)) ∧ w' = w := fun w => by
    have := Tryz.stringslite_Index_one s c w
    rw [← Lib.index_one] at this; exact this
  rcases Lib.indexB_cases s ⟨#[c]⟩ with hix | ⟨i, hix, hroom⟩
  · obtain ⟨e1, e2, e3⟩ := Lib.cutB_miss s ⟨#[c]⟩ hix
    rw [e1, e2, e3]
    rw [hix] at H1
    have H1 := Lib.hid H1
    clear hix e1 e2 e3
    go_enter Tryz.func78, Tryz.ntmps78
    go_wp2_with fail
    with_reducible refine (H1.out _).mono ?_
    rintro e w1 ⟨rfl, rfl⟩
    go_wp2
    go_ret3
    exact ⟨rfl, 0, rfl⟩
  · obtain ⟨e1, e2, e3⟩ := Lib.cutB_hit s ⟨#[c]⟩ i hix
    rw [e1, e2, e3]
    rw [hix] at H1
    have H1 := Lib.hid H1
    clear hix e1 e2 e3
    have hsz : (⟨#[c]⟩ : ByteArray).size = 1 := rfl
    rw [hsz] at hroom ⊢
    clear hsz
    have c1 : (0 : Int) ≤ ↑i := by omega
    have c2 : (↑i : Int) ≤ ↑s.size := by omega
    have c3 : (0 : Int) ≤ ↑i + 1 := by omega
    have c4 : (↑i + 1 : Int) ≤ ↑s.size := by omega
    go_enter Tryz.func78, Tryz.ntmps78
    go_wp2_with fail
    with_reducible refine (H1.out _).mono ?_
    rintro e w1 ⟨rfl, rfl⟩
    go_wp2
    go_region
    go_wp2
    go_ret3
    exact ⟨rfl, 1, rfl⟩
set_option maxHeartbeats 800000 in
set_option maxRecDepth 100000 in
theorem cut_any (s : ByteArray) (c : UInt8) (w : World) (hs : s.size ≤ 9223372036854775807) :
    Calls Tryz.prog 49 #[.string s, .string ⟨#[c]⟩] w fun e w' => e = .returned (.tuple #[.string ⟨(Lib.cut s.data.toList [c]).1.toArray⟩, .string ⟨(Lib.cut s.data.toList [c]).2.1.toArray⟩, .bool (Lib.cut s.data.toList [c]).2.2]) ∧ Below w.heap.size w w' := by
  have H1 := fun w => slcut_any s c w hs
  simp only [show (⟨#[c]⟩ : ByteArray).data.toList = [c] from rfl] at H1
  generalize Lib.cut s.data.toList [c] = r at H1 ⊢
  have H1 := Lib.hid H1
  go_enter Tryz.func49, Tryz.ntmps49
  go_wp2_with fail
  with_reducible refine (H1.out _).mono ?_
  rintro e w1 ⟨rfl, n, rfl⟩
  go_wp2
  go_ret3
  exact ⟨rfl, by apply pw_below_drewN; exact Below.refl _ _⟩
end Go.Proofs.YtghiibdhibcbaaaGreatDoor.PA
namespace Go.Proofs.YtghiibdhibcbaaaGreatDoor.PA
open Go Go.RowKit Go.Proofs.YtghiibdhibcbaaaGreatDoorW.PrintWords Go.Proofs.YtghiibdhibcbaaaGreatDoorW.PrintLast Go.Proofs.YtghiibdhibcbaaaGreatDoorW.PrintMore Go.Proofs.YtghiibdhibcbaaaGreatDoor.CS
set_option linter.unusedSimpArgs false
set_option linter.unusedVariables false
set_option maxHeartbeats 800000 in
set_option maxRecDepth 100000 in
theorem crt_one_no (L S N D : ByteArray) (dr : Bool) (v : Int) (w : World)
    (m1 : ∀ w, Calls Tryz.prog 48 #[.string L, .string ⟨#[100]⟩] w fun e w' => e = .returned (.tuple #[.string S, .bool dr]) ∧ Below w.heap.size w w')
    (m2 : ∀ w, Calls Tryz.prog 49 #[.string S, .string ⟨#[47]⟩] w fun e w' => e = .returned (.tuple #[.string N, .string D, .bool false]) ∧ Below w.heap.size w w')
    (m3 : ∀ (G : Nat) (w0 w : World), w0.heap.size ≤ G → w.heap[G]? = some (.cells #[.int .i64 0, .int .i64 1, .bool dr] 23 (0, 0)) → Below w0.heap.size w0 w → Calls Tryz.prog 50 #[.string N, .pointer (some ⟨G, 0, none⟩)] w fun e w' => e = .returned (.bool false) ∧ w'.heap[G]? = some (.cells #[.int .i64 v, .int .i64 1, .bool dr] 23 (0, 0)) ∧ Below w0.heap.size w0 w') :
    Calls Tryz.prog 17 #[.string L] w fun e w' => e = .returned (.tuple #[.agg #[.int .i64 0, .int .i64 0, .bool false], .int .i64 13]) ∧ Below w.heap.size w w' := by
  have M1 := Lib.hid m1
  have M2 := Lib.hid m2
  have M3 := Lib.hid m3
  clear m1 m2 m3
  go_enter Tryz.func17, Tryz.ntmps17
  go_wp2_with fail
  with_reducible refine (M1.out _).mono ?_
  rintro e w1 ⟨rfl, hb1⟩
  have h_T : w1.heap[w.heap.size]? = some (.cells #[.int .i64 0, .int .i64 0, .bool false] 23 (0, 0)) := by
    refine Hand.kb hb1 ?_; simp (disch := first | omega | (simp only [Hand.sa, Hand.ss, Hand.sd, Hand.sn]; first | done | omega)) only [Hand.q2, Hand.q1, Hand.q5, Hand.q6, Hand.q4, Hand.q3] <;> rfl
  have hB' : Below w.heap.size w w1 := Hand.stepB hb1 (by repeat (with_reducible first | apply Below.refl _ _ | apply Below.drew | apply pw_below_drewN | (apply Below.setCell; rotate_left; (dsimp only; omega)) | (apply Below.alloc; rotate_left; (first | omega | (simp only [Hand.sa, Hand.ss, Hand.sd, Hand.sn]; omega))))) (Nat.le_refl _)
  clear hb1
  have g_T := h_T
  have hB := hB'
  clear hB' h_T
  obtain ⟨z_T, z1_T, z2_T, y0_T, y1_T⟩ := Hand.hz g_T
  obtain ⟨c_T_0, f_T_0, c_T_1, f_T_1, c_T_2, f_T_2⟩ := Hand.hc3 g_T
  have zw : w.heap.size ≤ w1.heap.size := hB.size
  have HG := Lib.hid (And.intro g_T (hB))
  clear g_T hB
  go_wp2_with fail
  with_reducible refine (M2.out _).mono ?_
  rintro e w2 ⟨rfl, hb2⟩
  obtain ⟨g_T, hB⟩ := HG.out
  have h_T : w2.heap[w.heap.size]? = some (.cells #[.int .i64 0, .int .i64 0, .bool false] 23 (0, 0)) := by
    refine Hand.kb hb2 ?_; first | with_reducible exact g_T | (simp (disch := first | omega | (simp only [Hand.sa, Hand.ss, Hand.sd, Hand.sn]; first | done | omega)) only [Hand.q2, Hand.q1, Hand.q5, Hand.q6, Hand.q4, Hand.q3, g_T] <;> rfl)
  have hB' : Below w.heap.size w w2 := Hand.stepB hb2 (by repeat (with_reducible first | apply hB | apply Below.drew | apply pw_below_drewN | (apply Below.setCell; rotate_left; (dsimp only; omega)) | (apply Below.alloc; rotate_left; (first | omega | (simp only [Hand.sa, Hand.ss, Hand.sd, Hand.sn]; omega))))) (Nat.le_refl _)
  clear HG hB g_T zw z_T z1_T z2_T y0_T y1_T c_T_0 f_T_0 c_T_1 f_T_1 c_T_2 f_T_2
  clear hb2
  have g_T := h_T
  have hB := hB'
  clear hB' h_T
  obtain ⟨z_T, z1_T, z2_T, y0_T, y1_T⟩ := Hand.hz g_T
  obtain ⟨c_T_0, f_T_0, c_T_1, f_T_1, c_T_2, f_T_2⟩ := Hand.hc3 g_T
  have zw : w.heap.size ≤ w2.heap.size := hB.size
  have HG := Lib.hid (And.intro g_T (hB))
  clear g_T hB
  have GT0 := Lib.hid (show w2.heap[w.heap.size]? = some (.cells #[.int .i64 0, .int .i64 0, .bool false] 23 (0, 0)) from HG.out.1)
  have HB0 := Lib.hid (show Below w.heap.size w w2 from HG.out.2)
  go_wp2_with fail
  obtain ⟨W, hW⟩ : ∃ W_, W_ = w2.alloc (.cells #[.int .i64 0, .int .i64 1, .bool dr] 23) := ⟨_, rfl⟩
  rw [← hW]
  have hx_W : W.heap[w2.heap.size]? = some (.cells #[.int .i64 0, .int .i64 1, .bool dr] 23 (0, 0)) := by rw [hW]; exact Hand.q3 _ _ _ rfl
  have hb_W : Below w2.heap.size w2 W := by rw [hW]; exact (Below.refl _ _).alloc (Nat.le_refl _) _
  clear hW
  with_reducible refine (M3.out w2.heap.size w2 _ (Nat.le_refl _) hx_W hb_W).mono ?_
  rintro e w3 ⟨rfl, hx3, hb3⟩
  clear HG zw z_T z1_T z2_T y0_T y1_T c_T_0 f_T_0 c_T_1 f_T_1 c_T_2 f_T_2
  have g_T := Hand.kb hb3 GT0.out
  have g_X := hx3
  have hB := Hand.stepB hb3 HB0.out (Nat.le_refl _)
  have HX := Lib.hid hx3
  have HBX := Lib.hid hb3
  clear hx3 hb3 hx_W hb_W
  obtain ⟨z_T, z1_T, z2_T, y0_T, y1_T⟩ := Hand.hz g_T
  obtain ⟨c_T_0, f_T_0, c_T_1, f_T_1, c_T_2, f_T_2⟩ := Hand.hc3 g_T
  obtain ⟨z_X, z1_X, z2_X, y0_X, y1_X⟩ := Hand.hz g_X
  obtain ⟨c_X_0, f_X_0, c_X_1, f_X_1, c_X_2, f_X_2⟩ := Hand.hc3 g_X
  have zw : w.heap.size ≤ w3.heap.size := hB.size
  have HG := Lib.hid (And.intro g_T (And.intro g_X (hB)))
  clear g_T g_X hB
  go_wp2
  obtain ⟨g_T, g_X, hB⟩ := HG.out
  refine bodyPost_ret (results_ct rfl _ _ (w.heap.size) 23 #[.int .i64 0, .int .i64 0, .bool false] (0, 0) _ rfl ?_ Tryz.underlying23 rfl (by kernel_rfl)) rfl ⟨rfl, ?_⟩
  · simp (disch := omega) only [Hand.q1, g_T]; rfl
  · exact ((hB.setCell (by dsimp only; omega) _).setCell (by dsimp only; omega) _).setCell (by dsimp only; omega) _
set_option maxHeartbeats 800000 in
set_option maxRecDepth 100000 in
theorem crt_one_bad (L S N D : ByteArray) (dr : Bool) (v c : Int) (hc : (c == 0) = false) (w : World)
    (m1 : ∀ w, Calls Tryz.prog 48 #[.string L, .string ⟨#[100]⟩] w fun e w' => e = .returned (.tuple #[.string S, .bool dr]) ∧ Below w.heap.size w w')
    (m2 : ∀ w, Calls Tryz.prog 49 #[.string S, .string ⟨#[47]⟩] w fun e w' => e = .returned (.tuple #[.string N, .string D, .bool false]) ∧ Below w.heap.size w w')
    (m3 : ∀ (G : Nat) (w0 w : World), w0.heap.size ≤ G → w.heap[G]? = some (.cells #[.int .i64 0, .int .i64 1, .bool dr] 23 (0, 0)) → Below w0.heap.size w0 w → Calls Tryz.prog 50 #[.string N, .pointer (some ⟨G, 0, none⟩)] w fun e w' => e = .returned (.bool true) ∧ w'.heap[G]? = some (.cells #[.int .i64 v, .int .i64 1, .bool dr] 23 (0, 0)) ∧ Below w0.heap.size w0 w')
    (m5 : ∀ w, Calls Tryz.prog 45 #[.agg #[.int .i64 v, .int .i64 1, .bool dr]] w fun e w' => e = .returned (.int .i64 c) ∧ Below w.heap.size w w') :
    Calls Tryz.prog 17 #[.string L] w fun e w' => e = .returned (.tuple #[.agg #[.int .i64 0, .int .i64 0, .bool false], .int .i64 c]) ∧ Below w.heap.size w w' := by
  have hc2 : (c != 0) = true := by simpa using hc
  have M1 := Lib.hid m1
  have M2 := Lib.hid m2
  have M3 := Lib.hid m3
  have M5 := Lib.hid m5
  clear m1 m2 m3 m5
  go_enter Tryz.func17, Tryz.ntmps17
  go_wp2_with fail
  with_reducible refine (M1.out _).mono ?_
  rintro e w1 ⟨rfl, hb1⟩
  have h_T : w1.heap[w.heap.size]? = some (.cells #[.int .i64 0, .int .i64 0, .bool false] 23 (0, 0)) := by
    refine Hand.kb hb1 ?_; simp (disch := first | omega | (simp only [Hand.sa, Hand.ss, Hand.sd, Hand.sn]; first | done | omega)) only [Hand.q2, Hand.q1, Hand.q5, Hand.q6, Hand.q4, Hand.q3] <;> rfl
  have hB' : Below w.heap.size w w1 := Hand.stepB hb1 (by repeat (with_reducible first | apply Below.refl _ _ | apply Below.drew | apply pw_below_drewN | (apply Below.setCell; rotate_left; (dsimp only; omega)) | (apply Below.alloc; rotate_left; (first | omega | (simp only [Hand.sa, Hand.ss, Hand.sd, Hand.sn]; omega))))) (Nat.le_refl _)
  clear hb1
  have g_T := h_T
  have hB := hB'
  clear hB' h_T
  obtain ⟨z_T, z1_T, z2_T, y0_T, y1_T⟩ := Hand.hz g_T
  obtain ⟨c_T_0, f_T_0, c_T_1, f_T_1, c_T_2, f_T_2⟩ := Hand.hc3 g_T
  have zw : w.heap.size ≤ w1.heap.size := hB.size
  have HG := Lib.hid (And.intro g_T (hB))
  clear g_T hB
  go_wp2_with fail
  with_reducible refine (M2.out _).mono ?_
  rintro e w2 ⟨rfl, hb2⟩
  obtain ⟨g_T, hB⟩ := HG.out
  have h_T : w2.heap[w.heap.size]? = some (.cells #[.int .i64 0, .int .i64 0, .bool false] 23 (0, 0)) := by
    refine Hand.kb hb2 ?_; first | with_reducible exact g_T | (simp (disch := first | omega | (simp only [Hand.sa, Hand.ss, Hand.sd, Hand.sn]; first | done | omega)) only [Hand.q2, Hand.q1, Hand.q5, Hand.q6, Hand.q4, Hand.q3, g_T] <;> rfl)
  have hB' : Below w.heap.size w w2 := Hand.stepB hb2 (by repeat (with_reducible first | apply hB | apply Below.drew | apply pw_below_drewN | (apply Below.setCell; rotate_left; (dsimp only; omega)) | (apply Below.alloc; rotate_left; (first | omega | (simp only [Hand.sa, Hand.ss, Hand.sd, Hand.sn]; omega))))) (Nat.le_refl _)
  clear HG hB g_T zw z_T z1_T z2_T y0_T y1_T c_T_0 f_T_0 c_T_1 f_T_1 c_T_2 f_T_2
  clear hb2
  have g_T := h_T
  have hB := hB'
  clear hB' h_T
  obtain ⟨z_T, z1_T, z2_T, y0_T, y1_T⟩ := Hand.hz g_T
  obtain ⟨c_T_0, f_T_0, c_T_1, f_T_1, c_T_2, f_T_2⟩ := Hand.hc3 g_T
  have zw : w.heap.size ≤ w2.heap.size := hB.size
  have HG := Lib.hid (And.intro g_T (hB))
  clear g_T hB
  have GT0 := Lib.hid (show w2.heap[w.heap.size]? = some (.cells #[.int .i64 0, .int .i64 0, .bool false] 23 (0, 0)) from HG.out.1)
  have HB0 := Lib.hid (show Below w.heap.size w w2 from HG.out.2)
  go_wp2_with fail
  obtain ⟨W, hW⟩ : ∃ W_, W_ = w2.alloc (.cells #[.int .i64 0, .int .i64 1, .bool dr] 23) := ⟨_, rfl⟩
  rw [← hW]
  have hx_W : W.heap[w2.heap.size]? = some (.cells #[.int .i64 0, .int .i64 1, .bool dr] 23 (0, 0)) := by rw [hW]; exact Hand.q3 _ _ _ rfl
  have hb_W : Below w2.heap.size w2 W := by rw [hW]; exact (Below.refl _ _).alloc (Nat.le_refl _) _
  clear hW
  with_reducible refine (M3.out w2.heap.size w2 _ (Nat.le_refl _) hx_W hb_W).mono ?_
  rintro e w3 ⟨rfl, hx3, hb3⟩
  clear HG zw z_T z1_T z2_T y0_T y1_T c_T_0 f_T_0 c_T_1 f_T_1 c_T_2 f_T_2
  have g_T := Hand.kb hb3 GT0.out
  have g_X := hx3
  have hB := Hand.stepB hb3 HB0.out (Nat.le_refl _)
  have HX := Lib.hid hx3
  have HBX := Lib.hid hb3
  clear hx3 hb3 hx_W hb_W
  obtain ⟨z_T, z1_T, z2_T, y0_T, y1_T⟩ := Hand.hz g_T
  obtain ⟨c_T_0, f_T_0, c_T_1, f_T_1, c_T_2, f_T_2⟩ := Hand.hc3 g_T
  obtain ⟨z_X, z1_X, z2_X, y0_X, y1_X⟩ := Hand.hz g_X
  obtain ⟨c_X_0, f_X_0, c_X_1, f_X_1, c_X_2, f_X_2⟩ := Hand.hc3 g_X
  have zw : w.heap.size ≤ w3.heap.size := hB.size
  have HG := Lib.hid (And.intro g_T (And.intro g_X (hB)))
  clear g_T g_X hB
  go_wp2_with fail
  with_reducible refine (M5.out _).mono ?_
  rintro e w5 ⟨rfl, hq⟩
  obtain ⟨g_T, g_X, hB⟩ := HG.out
  have h_T : w5.heap[w.heap.size]? = some (.cells #[.int .i64 0, .int .i64 0, .bool false] 23 (0, 0)) := by
    refine Hand.kb hq ?_; first | with_reducible exact g_T | (simp (disch := first | omega | (simp only [Hand.sa, Hand.ss, Hand.sd, Hand.sn]; first | done | omega)) only [Hand.q2, Hand.q1, Hand.q5, Hand.q6, Hand.q4, Hand.q3, g_T] <;> rfl)
  have h_X : w5.heap[w2.heap.size]? = some (.cells #[.int .i64 v, .int .i64 1, .bool dr] 23 (0, 0)) := by
    refine Hand.kb hq ?_; first | with_reducible exact g_X | (simp (disch := first | omega | (simp only [Hand.sa, Hand.ss, Hand.sd, Hand.sn]; first | done | omega)) only [Hand.q2, Hand.q1, Hand.q5, Hand.q6, Hand.q4, Hand.q3, g_X] <;> rfl)
  have hB' : Below w.heap.size w w5 := Hand.stepB hq (by repeat (with_reducible first | apply hB | apply Below.drew | apply pw_below_drewN | (apply Below.setCell; rotate_left; (dsimp only; omega)) | (apply Below.alloc; rotate_left; (first | omega | (simp only [Hand.sa, Hand.ss, Hand.sd, Hand.sn]; omega))))) (Nat.le_refl _)
  clear HG hB g_T g_X zw z_T z1_T z2_T y0_T y1_T c_T_0 f_T_0 c_T_1 f_T_1 c_T_2 f_T_2 z_X z1_X z2_X y0_X y1_X c_X_0 f_X_0 c_X_1 f_X_1 c_X_2 f_X_2
  clear hq
  have g_T := h_T
  have g_X := h_X
  have hB := hB'
  clear hB' h_T h_X
  obtain ⟨z_T, z1_T, z2_T, y0_T, y1_T⟩ := Hand.hz g_T
  obtain ⟨c_T_0, f_T_0, c_T_1, f_T_1, c_T_2, f_T_2⟩ := Hand.hc3 g_T
  obtain ⟨z_X, z1_X, z2_X, y0_X, y1_X⟩ := Hand.hz g_X
  obtain ⟨c_X_0, f_X_0, c_X_1, f_X_1, c_X_2, f_X_2⟩ := Hand.hc3 g_X
  have zw : w.heap.size ≤ w5.heap.size := hB.size
  have HG := Lib.hid (And.intro g_T (And.intro g_X (hB)))
  clear g_T g_X hB
  go_wp2
  obtain ⟨g_T, g_X, hB⟩ := HG.out
  refine bodyPost_ret (results_ct rfl _ _ (w.heap.size) 23 #[.int .i64 0, .int .i64 0, .bool false] (0, 0) _ rfl ?_ Tryz.underlying23 rfl (by kernel_rfl)) rfl ⟨rfl, ?_⟩
  · simp (disch := omega) only [Hand.q1, g_T]; rfl
  · exact ((hB.setCell (by dsimp only; omega) _).setCell (by dsimp only; omega) _).setCell (by dsimp only; omega) _
set_option maxHeartbeats 800000 in
set_option maxRecDepth 100000 in
theorem crt_one_ok (L S N D : ByteArray) (dr : Bool) (v : Int) (w : World)
    (m1 : ∀ w, Calls Tryz.prog 48 #[.string L, .string ⟨#[100]⟩] w fun e w' => e = .returned (.tuple #[.string S, .bool dr]) ∧ Below w.heap.size w w')
    (m2 : ∀ w, Calls Tryz.prog 49 #[.string S, .string ⟨#[47]⟩] w fun e w' => e = .returned (.tuple #[.string N, .string D, .bool false]) ∧ Below w.heap.size w w')
    (m3 : ∀ (G : Nat) (w0 w : World), w0.heap.size ≤ G → w.heap[G]? = some (.cells #[.int .i64 0, .int .i64 1, .bool dr] 23 (0, 0)) → Below w0.heap.size w0 w → Calls Tryz.prog 50 #[.string N, .pointer (some ⟨G, 0, none⟩)] w fun e w' => e = .returned (.bool true) ∧ w'.heap[G]? = some (.cells #[.int .i64 v, .int .i64 1, .bool dr] 23 (0, 0)) ∧ Below w0.heap.size w0 w')
    (m5 : ∀ w, Calls Tryz.prog 45 #[.agg #[.int .i64 v, .int .i64 1, .bool dr]] w fun e w' => e = .returned (.int .i64 0) ∧ Below w.heap.size w w') :
    Calls Tryz.prog 17 #[.string L] w fun e w' => e = .returned (.tuple #[.agg #[.int .i64 v, .int .i64 1, .bool dr], .int .i64 0]) ∧ Below w.heap.size w w' := by
  have M1 := Lib.hid m1
  have M2 := Lib.hid m2
  have M3 := Lib.hid m3
  have M5 := Lib.hid m5
  clear m1 m2 m3 m5
  go_enter Tryz.func17, Tryz.ntmps17
  go_wp2_with fail
  with_reducible refine (M1.out _).mono ?_
  rintro e w1 ⟨rfl, hb1⟩
  have h_T : w1.heap[w.heap.size]? = some (.cells #[.int .i64 0, .int .i64 0, .bool false] 23 (0, 0)) := by
    refine Hand.kb hb1 ?_; simp (disch := first | omega | (simp only [Hand.sa, Hand.ss, Hand.sd, Hand.sn]; first | done | omega)) only [Hand.q2, Hand.q1, Hand.q5, Hand.q6, Hand.q4, Hand.q3] <;> rfl
  have hB' : Below w.heap.size w w1 := Hand.stepB hb1 (by repeat (with_reducible first | apply Below.refl _ _ | apply Below.drew | apply pw_below_drewN | (apply Below.setCell; rotate_left; (dsimp only; omega)) | (apply Below.alloc; rotate_left; (first | omega | (simp only [Hand.sa, Hand.ss, Hand.sd, Hand.sn]; omega))))) (Nat.le_refl _)
  clear hb1
  have g_T := h_T
  have hB := hB'
  clear hB' h_T
  obtain ⟨z_T, z1_T, z2_T, y0_T, y1_T⟩ := Hand.hz g_T
  obtain ⟨c_T_0, f_T_0, c_T_1, f_T_1, c_T_2, f_T_2⟩ := Hand.hc3 g_T
  have zw : w.heap.size ≤ w1.heap.size := hB.size
  have HG := Lib.hid (And.intro g_T (hB))
  clear g_T hB
  go_wp2_with fail
  with_reducible refine (M2.out _).mono ?_
  rintro e w2 ⟨rfl, hb2⟩
  obtain ⟨g_T, hB⟩ := HG.out
  have h_T : w2.heap[w.heap.size]? = some (.cells #[.int .i64 0, .int .i64 0, .bool false] 23 (0, 0)) := by
    refine Hand.kb hb2 ?_; first | with_reducible exact g_T | (simp (disch := first | omega | (simp only [Hand.sa, Hand.ss, Hand.sd, Hand.sn]; first | done | omega)) only [Hand.q2, Hand.q1, Hand.q5, Hand.q6, Hand.q4, Hand.q3, g_T] <;> rfl)
  have hB' : Below w.heap.size w w2 := Hand.stepB hb2 (by repeat (with_reducible first | apply hB | apply Below.drew | apply pw_below_drewN | (apply Below.setCell; rotate_left; (dsimp only; omega)) | (apply Below.alloc; rotate_left; (first | omega | (simp only [Hand.sa, Hand.ss, Hand.sd, Hand.sn]; omega))))) (Nat.le_refl _)
  clear HG hB g_T zw z_T z1_T z2_T y0_T y1_T c_T_0 f_T_0 c_T_1 f_T_1 c_T_2 f_T_2
  clear hb2
  have g_T := h_T
  have hB := hB'
  clear hB' h_T
  obtain ⟨z_T, z1_T, z2_T, y0_T, y1_T⟩ := Hand.hz g_T
  obtain ⟨c_T_0, f_T_0, c_T_1, f_T_1, c_T_2, f_T_2⟩ := Hand.hc3 g_T
  have zw : w.heap.size ≤ w2.heap.size := hB.size
  have HG := Lib.hid (And.intro g_T (hB))
  clear g_T hB
  have GT0 := Lib.hid (show w2.heap[w.heap.size]? = some (.cells #[.int .i64 0, .int .i64 0, .bool false] 23 (0, 0)) from HG.out.1)
  have HB0 := Lib.hid (show Below w.heap.size w w2 from HG.out.2)
  go_wp2_with fail
  obtain ⟨W, hW⟩ : ∃ W_, W_ = w2.alloc (.cells #[.int .i64 0, .int .i64 1, .bool dr] 23) := ⟨_, rfl⟩
  rw [← hW]
  have hx_W : W.heap[w2.heap.size]? = some (.cells #[.int .i64 0, .int .i64 1, .bool dr] 23 (0, 0)) := by rw [hW]; exact Hand.q3 _ _ _ rfl
  have hb_W : Below w2.heap.size w2 W := by rw [hW]; exact (Below.refl _ _).alloc (Nat.le_refl _) _
  clear hW
  with_reducible refine (M3.out w2.heap.size w2 _ (Nat.le_refl _) hx_W hb_W).mono ?_
  rintro e w3 ⟨rfl, hx3, hb3⟩
  clear HG zw z_T z1_T z2_T y0_T y1_T c_T_0 f_T_0 c_T_1 f_T_1 c_T_2 f_T_2
  have g_T := Hand.kb hb3 GT0.out
  have g_X := hx3
  have hB := Hand.stepB hb3 HB0.out (Nat.le_refl _)
  have HX := Lib.hid hx3
  have HBX := Lib.hid hb3
  clear hx3 hb3 hx_W hb_W
  obtain ⟨z_T, z1_T, z2_T, y0_T, y1_T⟩ := Hand.hz g_T
  obtain ⟨c_T_0, f_T_0, c_T_1, f_T_1, c_T_2, f_T_2⟩ := Hand.hc3 g_T
  obtain ⟨z_X, z1_X, z2_X, y0_X, y1_X⟩ := Hand.hz g_X
  obtain ⟨c_X_0, f_X_0, c_X_1, f_X_1, c_X_2, f_X_2⟩ := Hand.hc3 g_X
  have zw : w.heap.size ≤ w3.heap.size := hB.size
  have HG := Lib.hid (And.intro g_T (And.intro g_X (hB)))
  clear g_T g_X hB
  go_wp2_with fail
  with_reducible refine (M5.out _).mono ?_
  rintro e w5 ⟨rfl, hq⟩
  obtain ⟨g_T, g_X, hB⟩ := HG.out
  have h_T : w5.heap[w.heap.size]? = some (.cells #[.int .i64 0, .int .i64 0, .bool false] 23 (0, 0)) := by
    refine Hand.kb hq ?_; first | with_reducible exact g_T | (simp (disch := first | omega | (simp only [Hand.sa, Hand.ss, Hand.sd, Hand.sn]; first | done | omega)) only [Hand.q2, Hand.q1, Hand.q5, Hand.q6, Hand.q4, Hand.q3, g_T] <;> rfl)
  have h_X : w5.heap[w2.heap.size]? = some (.cells #[.int .i64 v, .int .i64 1, .bool dr] 23 (0, 0)) := by
    refine Hand.kb hq ?_; first | with_reducible exact g_X | (simp (disch := first | omega | (simp only [Hand.sa, Hand.ss, Hand.sd, Hand.sn]; first | done | omega)) only [Hand.q2, Hand.q1, Hand.q5, Hand.q6, Hand.q4, Hand.q3, g_X] <;> rfl)
  have hB' : Below w.heap.size w w5 := Hand.stepB hq (by repeat (with_reducible first | apply hB | apply Below.drew | apply pw_below_drewN | (apply Below.setCell; rotate_left; (dsimp only; omega)) | (apply Below.alloc; rotate_left; (first | omega | (simp only [Hand.sa, Hand.ss, Hand.sd, Hand.sn]; omega))))) (Nat.le_refl _)
  clear HG hB g_T g_X zw z_T z1_T z2_T y0_T y1_T c_T_0 f_T_0 c_T_1 f_T_1 c_T_2 f_T_2 z_X z1_X z2_X y0_X y1_X c_X_0 f_X_0 c_X_1 f_X_1 c_X_2 f_X_2
  clear hq
  have g_T := h_T
  have g_X := h_X
  have hB := hB'
  clear hB' h_T h_X
  obtain ⟨z_T, z1_T, z2_T, y0_T, y1_T⟩ := Hand.hz g_T
  obtain ⟨c_T_0, f_T_0, c_T_1, f_T_1, c_T_2, f_T_2⟩ := Hand.hc3 g_T
  obtain ⟨z_X, z1_X, z2_X, y0_X, y1_X⟩ := Hand.hz g_X
  obtain ⟨c_X_0, f_X_0, c_X_1, f_X_1, c_X_2, f_X_2⟩ := Hand.hc3 g_X
  have zw : w.heap.size ≤ w5.heap.size := hB.size
  have HG := Lib.hid (And.intro g_T (And.intro g_X (hB)))
  clear g_T g_X hB
  go_wp2
  obtain ⟨g_T, g_X, hB⟩ := HG.out
  refine bodyPost_ret (results_ct rfl _ _ (w.heap.size) 23 #[.int .i64 v, .int .i64 1, .bool dr] (0, 0) _ rfl ?_ Tryz.underlying23 rfl (by kernel_rfl)) rfl ⟨rfl, ?_⟩
  · simp (disch := omega) only [Hand.q1, g_T]; rfl
  · exact ((hB.setCell (by dsimp only; omega) _).setCell (by dsimp only; omega) _).setCell (by dsimp only; omega) _
set_option maxHeartbeats 800000 in
set_option maxRecDepth 100000 in
theorem crt_two_no (L S N D : ByteArray) (dr : Bool) (v : Int) (w : World)
    (m1 : ∀ w, Calls Tryz.prog 48 #[.string L, .string ⟨#[100]⟩] w fun e w' => e = .returned (.tuple #[.string S, .bool dr]) ∧ Below w.heap.size w w')
    (m2 : ∀ w, Calls Tryz.prog 49 #[.string S, .string ⟨#[47]⟩] w fun e w' => e = .returned (.tuple #[.string N, .string D, .bool true]) ∧ Below w.heap.size w w')
    (m3 : ∀ (G : Nat) (w0 w : World), w0.heap.size ≤ G → w.heap[G]? = some (.cells #[.int .i64 0, .int .i64 1, .bool dr] 23 (0, 0)) → Below w0.heap.size w0 w → Calls Tryz.prog 50 #[.string N, .pointer (some ⟨G, 0, none⟩)] w fun e w' => e = .returned (.bool false) ∧ w'.heap[G]? = some (.cells #[.int .i64 v, .int .i64 1, .bool dr] 23 (0, 0)) ∧ Below w0.heap.size w0 w') :
    Calls Tryz.prog 17 #[.string L] w fun e w' => e = .returned (.tuple #[.agg #[.int .i64 0, .int .i64 0, .bool false], .int .i64 13]) ∧ Below w.heap.size w w' := by
  have M1 := Lib.hid m1
  have M2 := Lib.hid m2
  have M3 := Lib.hid m3
  clear m1 m2 m3
  go_enter Tryz.func17, Tryz.ntmps17
  go_wp2_with fail
  with_reducible refine (M1.out _).mono ?_
  rintro e w1 ⟨rfl, hb1⟩
  have h_T : w1.heap[w.heap.size]? = some (.cells #[.int .i64 0, .int .i64 0, .bool false] 23 (0, 0)) := by
    refine Hand.kb hb1 ?_; simp (disch := first | omega | (simp only [Hand.sa, Hand.ss, Hand.sd, Hand.sn]; first | done | omega)) only [Hand.q2, Hand.q1, Hand.q5, Hand.q6, Hand.q4, Hand.q3] <;> rfl
  have hB' : Below w.heap.size w w1 := Hand.stepB hb1 (by repeat (with_reducible first | apply Below.refl _ _ | apply Below.drew | apply pw_below_drewN | (apply Below.setCell; rotate_left; (dsimp only; omega)) | (apply Below.alloc; rotate_left; (first | omega | (simp only [Hand.sa, Hand.ss, Hand.sd, Hand.sn]; omega))))) (Nat.le_refl _)
  clear hb1
  have g_T := h_T
  have hB := hB'
  clear hB' h_T
  obtain ⟨z_T, z1_T, z2_T, y0_T, y1_T⟩ := Hand.hz g_T
  obtain ⟨c_T_0, f_T_0, c_T_1, f_T_1, c_T_2, f_T_2⟩ := Hand.hc3 g_T
  have zw : w.heap.size ≤ w1.heap.size := hB.size
  have HG := Lib.hid (And.intro g_T (hB))
  clear g_T hB
  go_wp2_with fail
  with_reducible refine (M2.out _).mono ?_
  rintro e w2 ⟨rfl, hb2⟩
  obtain ⟨g_T, hB⟩ := HG.out
  have h_T : w2.heap[w.heap.size]? = some (.cells #[.int .i64 0, .int .i64 0, .bool false] 23 (0, 0)) := by
    refine Hand.kb hb2 ?_; first | with_reducible exact g_T | (simp (disch := first | omega | (simp only [Hand.sa, Hand.ss, Hand.sd, Hand.sn]; first | done | omega)) only [Hand.q2, Hand.q1, Hand.q5, Hand.q6, Hand.q4, Hand.q3, g_T] <;> rfl)
  have hB' : Below w.heap.size w w2 := Hand.stepB hb2 (by repeat (with_reducible first | apply hB | apply Below.drew | apply pw_below_drewN | (apply Below.setCell; rotate_left; (dsimp only; omega)) | (apply Below.alloc; rotate_left; (first | omega | (simp only [Hand.sa, Hand.ss, Hand.sd, Hand.sn]; omega))))) (Nat.le_refl _)
  clear HG hB g_T zw z_T z1_T z2_T y0_T y1_T c_T_0 f_T_0 c_T_1 f_T_1 c_T_2 f_T_2
  clear hb2
  have g_T := h_T
  have hB := hB'
  clear hB' h_T
  obtain ⟨z_T, z1_T, z2_T, y0_T, y1_T⟩ := Hand.hz g_T
  obtain ⟨c_T_0, f_T_0, c_T_1, f_T_1, c_T_2, f_T_2⟩ := Hand.hc3 g_T
  have zw : w.heap.size ≤ w2.heap.size := hB.size
  have HG := Lib.hid (And.intro g_T (hB))
  clear g_T hB
  have GT0 := Lib.hid (show w2.heap[w.heap.size]? = some (.cells #[.int .i64 0, .int .i64 0, .bool false] 23 (0, 0)) from HG.out.1)
  have HB0 := Lib.hid (show Below w.heap.size w w2 from HG.out.2)
  go_wp2_with fail
  obtain ⟨W, hW⟩ : ∃ W_, W_ = w2.alloc (.cells #[.int .i64 0, .int .i64 1, .bool dr] 23) := ⟨_, rfl⟩
  rw [← hW]
  have hx_W : W.heap[w2.heap.size]? = some (.cells #[.int .i64 0, .int .i64 1, .bool dr] 23 (0, 0)) := by rw [hW]; exact Hand.q3 _ _ _ rfl
  have hb_W : Below w2.heap.size w2 W := by rw [hW]; exact (Below.refl _ _).alloc (Nat.le_refl _) _
  clear hW
  with_reducible refine (M3.out w2.heap.size w2 _ (Nat.le_refl _) hx_W hb_W).mono ?_
  rintro e w3 ⟨rfl, hx3, hb3⟩
  clear HG zw z_T z1_T z2_T y0_T y1_T c_T_0 f_T_0 c_T_1 f_T_1 c_T_2 f_T_2
  have g_T := Hand.kb hb3 GT0.out
  have g_X := hx3
  have hB := Hand.stepB hb3 HB0.out (Nat.le_refl _)
  have HX := Lib.hid hx3
  have HBX := Lib.hid hb3
  clear hx3 hb3 hx_W hb_W
  obtain ⟨z_T, z1_T, z2_T, y0_T, y1_T⟩ := Hand.hz g_T
  obtain ⟨c_T_0, f_T_0, c_T_1, f_T_1, c_T_2, f_T_2⟩ := Hand.hc3 g_T
  obtain ⟨z_X, z1_X, z2_X, y0_X, y1_X⟩ := Hand.hz g_X
  obtain ⟨c_X_0, f_X_0, c_X_1, f_X_1, c_X_2, f_X_2⟩ := Hand.hc3 g_X
  have zw : w.heap.size ≤ w3.heap.size := hB.size
  have HG := Lib.hid (And.intro g_T (And.intro g_X (hB)))
  clear g_T g_X hB
  go_wp2
  obtain ⟨g_T, g_X, hB⟩ := HG.out
  refine bodyPost_ret (results_ct rfl _ _ (w.heap.size) 23 #[.int .i64 0, .int .i64 0, .bool false] (0, 0) _ rfl ?_ Tryz.underlying23 rfl (by kernel_rfl)) rfl ⟨rfl, ?_⟩
  · simp (disch := omega) only [Hand.q1, g_T]; rfl
  · exact ((hB.setCell (by dsimp only; omega) _).setCell (by dsimp only; omega) _).setCell (by dsimp only; omega) _
set_option maxHeartbeats 800000 in
set_option maxRecDepth 100000 in
theorem crt_two_no2 (L S N D : ByteArray) (dr : Bool) (v u : Int) (w : World)
    (m1 : ∀ w, Calls Tryz.prog 48 #[.string L, .string ⟨#[100]⟩] w fun e w' => e = .returned (.tuple #[.string S, .bool dr]) ∧ Below w.heap.size w w')
    (m2 : ∀ w, Calls Tryz.prog 49 #[.string S, .string ⟨#[47]⟩] w fun e w' => e = .returned (.tuple #[.string N, .string D, .bool true]) ∧ Below w.heap.size w w')
    (m3 : ∀ (G : Nat) (w0 w : World), w0.heap.size ≤ G → w.heap[G]? = some (.cells #[.int .i64 0, .int .i64 1, .bool dr] 23 (0, 0)) → Below w0.heap.size w0 w → Calls Tryz.prog 50 #[.string N, .pointer (some ⟨G, 0, none⟩)] w fun e w' => e = .returned (.bool true) ∧ w'.heap[G]? = some (.cells #[.int .i64 v, .int .i64 1, .bool dr] 23 (0, 0)) ∧ Below w0.heap.size w0 w')
    (m4 : ∀ (G : Nat) (w0 w : World), w0.heap.size ≤ G → w.heap[G]? = some (.cells #[.int .i64 v, .int .i64 1, .bool dr] 23 (0, 0)) → Below w0.heap.size w0 w → Calls Tryz.prog 50 #[.string D, .pointer (some ⟨G, 1, none⟩)] w fun e w' => e = .returned (.bool false) ∧ w'.heap[G]? = some (.cells #[.int .i64 v, .int .i64 u, .bool dr] 23 (0, 0)) ∧ Below w0.heap.size w0 w') :
    Calls Tryz.prog 17 #[.string L] w fun e w' => e = .returned (.tuple #[.agg #[.int .i64 0, .int .i64 0, .bool false], .int .i64 13]) ∧ Below w.heap.size w w' := by
  have M1 := Lib.hid m1
  have M2 := Lib.hid m2
  have M3 := Lib.hid m3
  have M4 := Lib.hid m4
  clear m1 m2 m3 m4
  go_enter Tryz.func17, Tryz.ntmps17
  go_wp2_with fail
  with_reducible refine (M1.out _).mono ?_
  rintro e w1 ⟨rfl, hb1⟩
  have h_T : w1.heap[w.heap.size]? = some (.cells #[.int .i64 0, .int .i64 0, .bool false] 23 (0, 0)) := by
    refine Hand.kb hb1 ?_; simp (disch := first | omega | (simp only [Hand.sa, Hand.ss, Hand.sd, Hand.sn]; first | done | omega)) only [Hand.q2, Hand.q1, Hand.q5, Hand.q6, Hand.q4, Hand.q3] <;> rfl
  have hB' : Below w.heap.size w w1 := Hand.stepB hb1 (by repeat (with_reducible first | apply Below.refl _ _ | apply Below.drew | apply pw_below_drewN | (apply Below.setCell; rotate_left; (dsimp only; omega)) | (apply Below.alloc; rotate_left; (first | omega | (simp only [Hand.sa, Hand.ss, Hand.sd, Hand.sn]; omega))))) (Nat.le_refl _)
  clear hb1
  have g_T := h_T
  have hB := hB'
  clear hB' h_T
  obtain ⟨z_T, z1_T, z2_T, y0_T, y1_T⟩ := Hand.hz g_T
  obtain ⟨c_T_0, f_T_0, c_T_1, f_T_1, c_T_2, f_T_2⟩ := Hand.hc3 g_T
  have zw : w.heap.size ≤ w1.heap.size := hB.size
  have HG := Lib.hid (And.intro g_T (hB))
  clear g_T hB
  go_wp2_with fail
  with_reducible refine (M2.out _).mono ?_
  rintro e w2 ⟨rfl, hb2⟩
  obtain ⟨g_T, hB⟩ := HG.out
  have h_T : w2.heap[w.heap.size]? = some (.cells #[.int .i64 0, .int .i64 0, .bool false] 23 (0, 0)) := by
    refine Hand.kb hb2 ?_; first | with_reducible exact g_T | (simp (disch := first | omega | (simp only [Hand.sa, Hand.ss, Hand.sd, Hand.sn]; first | done | omega)) only [Hand.q2, Hand.q1, Hand.q5, Hand.q6, Hand.q4, Hand.q3, g_T] <;> rfl)
  have hB' : Below w.heap.size w w2 := Hand.stepB hb2 (by repeat (with_reducible first | apply hB | apply Below.drew | apply pw_below_drewN | (apply Below.setCell; rotate_left; (dsimp only; omega)) | (apply Below.alloc; rotate_left; (first | omega | (simp only [Hand.sa, Hand.ss, Hand.sd, Hand.sn]; omega))))) (Nat.le_refl _)
  clear HG hB g_T zw z_T z1_T z2_T y0_T y1_T c_T_0 f_T_0 c_T_1 f_T_1 c_T_2 f_T_2
  clear hb2
  have g_T := h_T
  have hB := hB'
  clear hB' h_T
  obtain ⟨z_T, z1_T, z2_T, y0_T, y1_T⟩ := Hand.hz g_T
  obtain ⟨c_T_0, f_T_0, c_T_1, f_T_1, c_T_2, f_T_2⟩ := Hand.hc3 g_T
  have zw : w.heap.size ≤ w2.heap.size := hB.size
  have HG := Lib.hid (And.intro g_T (hB))
  clear g_T hB
  have GT0 := Lib.hid (show w2.heap[w.heap.size]? = some (.cells #[.int .i64 0, .int .i64 0, .bool false] 23 (0, 0)) from HG.out.1)
  have HB0 := Lib.hid (show Below w.heap.size w w2 from HG.out.2)
  go_wp2_with fail
  obtain ⟨W, hW⟩ : ∃ W_, W_ = w2.alloc (.cells #[.int .i64 0, .int .i64 1, .bool dr] 23) := ⟨_, rfl⟩
  rw [← hW]
  have hx_W : W.heap[w2.heap.size]? = some (.cells #[.int .i64 0, .int .i64 1, .bool dr] 23 (0, 0)) := by rw [hW]; exact Hand.q3 _ _ _ rfl
  have hb_W : Below w2.heap.size w2 W := by rw [hW]; exact (Below.refl _ _).alloc (Nat.le_refl _) _
  clear hW
  with_reducible refine (M3.out w2.heap.size w2 _ (Nat.le_refl _) hx_W hb_W).mono ?_
  rintro e w3 ⟨rfl, hx3, hb3⟩
  clear HG zw z_T z1_T z2_T y0_T y1_T c_T_0 f_T_0 c_T_1 f_T_1 c_T_2 f_T_2
  have g_T := Hand.kb hb3 GT0.out
  have g_X := hx3
  have hB := Hand.stepB hb3 HB0.out (Nat.le_refl _)
  have HX := Lib.hid hx3
  have HBX := Lib.hid hb3
  clear hx3 hb3 hx_W hb_W
  obtain ⟨z_T, z1_T, z2_T, y0_T, y1_T⟩ := Hand.hz g_T
  obtain ⟨c_T_0, f_T_0, c_T_1, f_T_1, c_T_2, f_T_2⟩ := Hand.hc3 g_T
  obtain ⟨z_X, z1_X, z2_X, y0_X, y1_X⟩ := Hand.hz g_X
  obtain ⟨c_X_0, f_X_0, c_X_1, f_X_1, c_X_2, f_X_2⟩ := Hand.hc3 g_X
  have zw : w.heap.size ≤ w3.heap.size := hB.size
  have HG := Lib.hid (And.intro g_T (And.intro g_X (hB)))
  clear g_T g_X hB
  go_wp2_with fail
  with_reducible refine (M4.out w2.heap.size w2 _ (Nat.le_refl _) HX.out HBX.out).mono ?_
  rintro e w4 ⟨rfl, hx4, hb4⟩
  clear HX HBX HG zw z_T z1_T z2_T y0_T y1_T c_T_0 f_T_0 c_T_1 f_T_1 c_T_2 f_T_2 z_X z1_X z2_X y0_X y1_X c_X_0 f_X_0 c_X_1 f_X_1 c_X_2 f_X_2
  have g_T := Hand.kb hb4 GT0.out
  have g_X := hx4
  have hB := Hand.stepB hb4 HB0.out (Nat.le_refl _)
  clear hx4 hb4
  obtain ⟨z_T, z1_T, z2_T, y0_T, y1_T⟩ := Hand.hz g_T
  obtain ⟨c_T_0, f_T_0, c_T_1, f_T_1, c_T_2, f_T_2⟩ := Hand.hc3 g_T
  obtain ⟨z_X, z1_X, z2_X, y0_X, y1_X⟩ := Hand.hz g_X
  obtain ⟨c_X_0, f_X_0, c_X_1, f_X_1, c_X_2, f_X_2⟩ := Hand.hc3 g_X
  have zw : w.heap.size ≤ w4.heap.size := hB.size
  have HG := Lib.hid (And.intro g_T (And.intro g_X (hB)))
  clear g_T g_X hB
  go_wp2
  obtain ⟨g_T, g_X, hB⟩ := HG.out
  refine bodyPost_ret (results_ct rfl _ _ (w.heap.size) 23 #[.int .i64 0, .int .i64 0, .bool false] (0, 0) _ rfl ?_ Tryz.underlying23 rfl (by kernel_rfl)) rfl ⟨rfl, ?_⟩
  · simp (disch := omega) only [Hand.q1, g_T]; rfl
  · exact ((hB.setCell (by dsimp only; omega) _).setCell (by dsimp only; omega) _).setCell (by dsimp only; omega) _
set_option maxHeartbeats 800000 in
set_option maxRecDepth 100000 in
theorem crt_two_1 (L S N D : ByteArray) (dr : Bool) (v u : Int) (hD : D = ⟨#[49]⟩) (w : World)
    (m1 : ∀ w, Calls Tryz.prog 48 #[.string L, .string ⟨#[100]⟩] w fun e w' => e = .returned (.tuple #[.string S, .bool dr]) ∧ Below w.heap.size w w')
    (m2 : ∀ w, Calls Tryz.prog 49 #[.string S, .string ⟨#[47]⟩] w fun e w' => e = .returned (.tuple #[.string N, .string D, .bool true]) ∧ Below w.heap.size w w')
    (m3 : ∀ (G : Nat) (w0 w : World), w0.heap.size ≤ G → w.heap[G]? = some (.cells #[.int .i64 0, .int .i64 1, .bool dr] 23 (0, 0)) → Below w0.heap.size w0 w → Calls Tryz.prog 50 #[.string N, .pointer (some ⟨G, 0, none⟩)] w fun e w' => e = .returned (.bool true) ∧ w'.heap[G]? = some (.cells #[.int .i64 v, .int .i64 1, .bool dr] 23 (0, 0)) ∧ Below w0.heap.size w0 w')
    (m4 : ∀ (G : Nat) (w0 w : World), w0.heap.size ≤ G → w.heap[G]? = some (.cells #[.int .i64 v, .int .i64 1, .bool dr] 23 (0, 0)) → Below w0.heap.size w0 w → Calls Tryz.prog 50 #[.string D, .pointer (some ⟨G, 1, none⟩)] w fun e w' => e = .returned (.bool true) ∧ w'.heap[G]? = some (.cells #[.int .i64 v, .int .i64 u, .bool dr] 23 (0, 0)) ∧ Below w0.heap.size w0 w') :
    Calls Tryz.prog 17 #[.string L] w fun e w' => e = .returned (.tuple #[.agg #[.int .i64 0, .int .i64 0, .bool false], .int .i64 13]) ∧ Below w.heap.size w w' := by
  subst hD
  have M1 := Lib.hid m1
  have M2 := Lib.hid m2
  have M3 := Lib.hid m3
  have M4 := Lib.hid m4
  clear m1 m2 m3 m4
  go_enter Tryz.func17, Tryz.ntmps17
  go_wp2_with fail
  with_reducible refine (M1.out _).mono ?_
  rintro e w1 ⟨rfl, hb1⟩
  have h_T : w1.heap[w.heap.size]? = some (.cells #[.int .i64 0, .int .i64 0, .bool false] 23 (0, 0)) := by
    refine Hand.kb hb1 ?_; simp (disch := first | omega | (simp only [Hand.sa, Hand.ss, Hand.sd, Hand.sn]; first | done | omega)) only [Hand.q2, Hand.q1, Hand.q5, Hand.q6, Hand.q4, Hand.q3] <;> rfl
  have hB' : Below w.heap.size w w1 := Hand.stepB hb1 (by repeat (with_reducible first | apply Below.refl _ _ | apply Below.drew | apply pw_below_drewN | (apply Below.setCell; rotate_left; (dsimp only; omega)) | (apply Below.alloc; rotate_left; (first | omega | (simp only [Hand.sa, Hand.ss, Hand.sd, Hand.sn]; omega))))) (Nat.le_refl _)
  clear hb1
  have g_T := h_T
  have hB := hB'
  clear hB' h_T
  obtain ⟨z_T, z1_T, z2_T, y0_T, y1_T⟩ := Hand.hz g_T
  obtain ⟨c_T_0, f_T_0, c_T_1, f_T_1, c_T_2, f_T_2⟩ := Hand.hc3 g_T
  have zw : w.heap.size ≤ w1.heap.size := hB.size
  have HG := Lib.hid (And.intro g_T (hB))
  clear g_T hB
  go_wp2_with fail
  with_reducible refine (M2.out _).mono ?_
  rintro e w2 ⟨rfl, hb2⟩
  obtain ⟨g_T, hB⟩ := HG.out
  have h_T : w2.heap[w.heap.size]? = some (.cells #[.int .i64 0, .int .i64 0, .bool false] 23 (0, 0)) := by
    refine Hand.kb hb2 ?_; first | with_reducible exact g_T | (simp (disch := first | omega | (simp only [Hand.sa, Hand.ss, Hand.sd, Hand.sn]; first | done | omega)) only [Hand.q2, Hand.q1, Hand.q5, Hand.q6, Hand.q4, Hand.q3, g_T] <;> rfl)
  have hB' : Below w.heap.size w w2 := Hand.stepB hb2 (by repeat (with_reducible first | apply hB | apply Below.drew | apply pw_below_drewN | (apply Below.setCell; rotate_left; (dsimp only; omega)) | (apply Below.alloc; rotate_left; (first | omega | (simp only [Hand.sa, Hand.ss, Hand.sd, Hand.sn]; omega))))) (Nat.le_refl _)
  clear HG hB g_T zw z_T z1_T z2_T y0_T y1_T c_T_0 f_T_0 c_T_1 f_T_1 c_T_2 f_T_2
  clear hb2
  have g_T := h_T
  have hB := hB'
  clear hB' h_T
  obtain ⟨z_T, z1_T, z2_T, y0_T, y1_T⟩ := Hand.hz g_T
  obtain ⟨c_T_0, f_T_0, c_T_1, f_T_1, c_T_2, f_T_2⟩ := Hand.hc3 g_T
  have zw : w.heap.size ≤ w2.heap.size := hB.size
  have HG := Lib.hid (And.intro g_T (hB))
  clear g_T hB
  have GT0 := Lib.hid (show w2.heap[w.heap.size]? = some (.cells #[.int .i64 0, .int .i64 0, .bool false] 23 (0, 0)) from HG.out.1)
  have HB0 := Lib.hid (show Below w.heap.size w w2 from HG.out.2)
  go_wp2_with fail
  obtain ⟨W, hW⟩ : ∃ W_, W_ = w2.alloc (.cells #[.int .i64 0, .int .i64 1, .bool dr] 23) := ⟨_, rfl⟩
  rw [← hW]
  have hx_W : W.heap[w2.heap.size]? = some (.cells #[.int .i64 0, .int .i64 1, .bool dr] 23 (0, 0)) := by rw [hW]; exact Hand.q3 _ _ _ rfl
  have hb_W : Below w2.heap.size w2 W := by rw [hW]; exact (Below.refl _ _).alloc (Nat.le_refl _) _
  clear hW
  with_reducible refine (M3.out w2.heap.size w2 _ (Nat.le_refl _) hx_W hb_W).mono ?_
  rintro e w3 ⟨rfl, hx3, hb3⟩
  clear HG zw z_T z1_T z2_T y0_T y1_T c_T_0 f_T_0 c_T_1 f_T_1 c_T_2 f_T_2
  have g_T := Hand.kb hb3 GT0.out
  have g_X := hx3
  have hB := Hand.stepB hb3 HB0.out (Nat.le_refl _)
  have HX := Lib.hid hx3
  have HBX := Lib.hid hb3
  clear hx3 hb3 hx_W hb_W
  obtain ⟨z_T, z1_T, z2_T, y0_T, y1_T⟩ := Hand.hz g_T
  obtain ⟨c_T_0, f_T_0, c_T_1, f_T_1, c_T_2, f_T_2⟩ := Hand.hc3 g_T
  obtain ⟨z_X, z1_X, z2_X, y0_X, y1_X⟩ := Hand.hz g_X
  obtain ⟨c_X_0, f_X_0, c_X_1, f_X_1, c_X_2, f_X_2⟩ := Hand.hc3 g_X
  have zw : w.heap.size ≤ w3.heap.size := hB.size
  have HG := Lib.hid (And.intro g_T (And.intro g_X (hB)))
  clear g_T g_X hB
  go_wp2_with fail
  with_reducible refine (M4.out w2.heap.size w2 _ (Nat.le_refl _) HX.out HBX.out).mono ?_
  rintro e w4 ⟨rfl, hx4, hb4⟩
  clear HX HBX HG zw z_T z1_T z2_T y0_T y1_T c_T_0 f_T_0 c_T_1 f_T_1 c_T_2 f_T_2 z_X z1_X z2_X y0_X y1_X c_X_0 f_X_0 c_X_1 f_X_1 c_X_2 f_X_2
  have g_T := Hand.kb hb4 GT0.out
  have g_X := hx4
  have hB := Hand.stepB hb4 HB0.out (Nat.le_refl _)
  clear hx4 hb4
  obtain ⟨z_T, z1_T, z2_T, y0_T, y1_T⟩ := Hand.hz g_T
  obtain ⟨c_T_0, f_T_0, c_T_1, f_T_1, c_T_2, f_T_2⟩ := Hand.hc3 g_T
  obtain ⟨z_X, z1_X, z2_X, y0_X, y1_X⟩ := Hand.hz g_X
  obtain ⟨c_X_0, f_X_0, c_X_1, f_X_1, c_X_2, f_X_2⟩ := Hand.hc3 g_X
  have zw : w.heap.size ≤ w4.heap.size := hB.size
  have HG := Lib.hid (And.intro g_T (And.intro g_X (hB)))
  clear g_T g_X hB
  go_wp2
  obtain ⟨g_T, g_X, hB⟩ := HG.out
  refine bodyPost_ret (results_ct rfl _ _ (w.heap.size) 23 #[.int .i64 0, .int .i64 0, .bool false] (0, 0) _ rfl ?_ Tryz.underlying23 rfl (by kernel_rfl)) rfl ⟨rfl, ?_⟩
  · simp (disch := omega) only [Hand.q1, g_T]; rfl
  · exact ((hB.setCell (by dsimp only; omega) _).setCell (by dsimp only; omega) _).setCell (by dsimp only; omega) _
set_option maxHeartbeats 800000 in
set_option maxRecDepth 100000 in
theorem crt_two_bad (L S N D : ByteArray) (dr : Bool) (v u : Int) (c : Int) (hc : (c == 0) = false) (hD : (D.toList == [49]) = false) (hD2 : ¬ D.toList = [49]) (w : World)
    (m1 : ∀ w, Calls Tryz.prog 48 #[.string L, .string ⟨#[100]⟩] w fun e w' => e = .returned (.tuple #[.string S, .bool dr]) ∧ Below w.heap.size w w')
    (m2 : ∀ w, Calls Tryz.prog 49 #[.string S, .string ⟨#[47]⟩] w fun e w' => e = .returned (.tuple #[.string N, .string D, .bool true]) ∧ Below w.heap.size w w')
    (m3 : ∀ (G : Nat) (w0 w : World), w0.heap.size ≤ G → w.heap[G]? = some (.cells #[.int .i64 0, .int .i64 1, .bool dr] 23 (0, 0)) → Below w0.heap.size w0 w → Calls Tryz.prog 50 #[.string N, .pointer (some ⟨G, 0, none⟩)] w fun e w' => e = .returned (.bool true) ∧ w'.heap[G]? = some (.cells #[.int .i64 v, .int .i64 1, .bool dr] 23 (0, 0)) ∧ Below w0.heap.size w0 w')
    (m4 : ∀ (G : Nat) (w0 w : World), w0.heap.size ≤ G → w.heap[G]? = some (.cells #[.int .i64 v, .int .i64 1, .bool dr] 23 (0, 0)) → Below w0.heap.size w0 w → Calls Tryz.prog 50 #[.string D, .pointer (some ⟨G, 1, none⟩)] w fun e w' => e = .returned (.bool true) ∧ w'.heap[G]? = some (.cells #[.int .i64 v, .int .i64 u, .bool dr] 23 (0, 0)) ∧ Below w0.heap.size w0 w')
    (m5 : ∀ w, Calls Tryz.prog 45 #[.agg #[.int .i64 v, .int .i64 u, .bool dr]] w fun e w' => e = .returned (.int .i64 c) ∧ Below w.heap.size w w') :
    Calls Tryz.prog 17 #[.string L] w fun e w' => e = .returned (.tuple #[.agg #[.int .i64 0, .int .i64 0, .bool false], .int .i64 c]) ∧ Below w.heap.size w w' := by
  have hc2 : (c != 0) = true := by simpa using hc
  have hD4 : (!(D.toList == [49])) = true := by rw [hD]; rfl
  have M1 := Lib.hid m1
  have M2 := Lib.hid m2
  have M3 := Lib.hid m3
  have M4 := Lib.hid m4
  have M5 := Lib.hid m5
  clear m1 m2 m3 m4 m5
  go_enter Tryz.func17, Tryz.ntmps17
  go_wp2_with fail
  with_reducible refine (M1.out _).mono ?_
  rintro e w1 ⟨rfl, hb1⟩
  have h_T : w1.heap[w.heap.size]? = some (.cells #[.int .i64 0, .int .i64 0, .bool false] 23 (0, 0)) := by
    refine Hand.kb hb1 ?_; simp (disch := first | omega | (simp only [Hand.sa, Hand.ss, Hand.sd, Hand.sn]; first | done | omega)) only [Hand.q2, Hand.q1, Hand.q5, Hand.q6, Hand.q4, Hand.q3] <;> rfl
  have hB' : Below w.heap.size w w1 := Hand.stepB hb1 (by repeat (with_reducible first | apply Below.refl _ _ | apply Below.drew | apply pw_below_drewN | (apply Below.setCell; rotate_left; (dsimp only; omega)) | (apply Below.alloc; rotate_left; (first | omega | (simp only [Hand.sa, Hand.ss, Hand.sd, Hand.sn]; omega))))) (Nat.le_refl _)
  clear hb1
  have g_T := h_T
  have hB := hB'
  clear hB' h_T
  obtain ⟨z_T, z1_T, z2_T, y0_T, y1_T⟩ := Hand.hz g_T
  obtain ⟨c_T_0, f_T_0, c_T_1, f_T_1, c_T_2, f_T_2⟩ := Hand.hc3 g_T
  have zw : w.heap.size ≤ w1.heap.size := hB.size
  have HG := Lib.hid (And.intro g_T (hB))
  clear g_T hB
  go_wp2_with fail
  with_reducible refine (M2.out _).mono ?_
  rintro e w2 ⟨rfl, hb2⟩
  obtain ⟨g_T, hB⟩ := HG.out
  have h_T : w2.heap[w.heap.size]? = some (.cells #[.int .i64 0, .int .i64 0, .bool false] 23 (0, 0)) := by
    refine Hand.kb hb2 ?_; first | with_reducible exact g_T | (simp (disch := first | omega | (simp only [Hand.sa, Hand.ss, Hand.sd, Hand.sn]; first | done | omega)) only [Hand.q2, Hand.q1, Hand.q5, Hand.q6, Hand.q4, Hand.q3, g_T] <;> rfl)
  have hB' : Below w.heap.size w w2 := Hand.stepB hb2 (by repeat (with_reducible first | apply hB | apply Below.drew | apply pw_below_drewN | (apply Below.setCell; rotate_left; (dsimp only; omega)) | (apply Below.alloc; rotate_left; (first | omega | (simp only [Hand.sa, Hand.ss, Hand.sd, Hand.sn]; omega))))) (Nat.le_refl _)
  clear HG hB g_T zw z_T z1_T z2_T y0_T y1_T c_T_0 f_T_0 c_T_1 f_T_1 c_T_2 f_T_2
  clear hb2
  have g_T := h_T
  have hB := hB'
  clear hB' h_T
  obtain ⟨z_T, z1_T, z2_T, y0_T, y1_T⟩ := Hand.hz g_T
  obtain ⟨c_T_0, f_T_0, c_T_1, f_T_1, c_T_2, f_T_2⟩ := Hand.hc3 g_T
  have zw : w.heap.size ≤ w2.heap.size := hB.size
  have HG := Lib.hid (And.intro g_T (hB))
  clear g_T hB
  have GT0 := Lib.hid (show w2.heap[w.heap.size]? = some (.cells #[.int .i64 0, .int .i64 0, .bool false] 23 (0, 0)) from HG.out.1)
  have HB0 := Lib.hid (show Below w.heap.size w w2 from HG.out.2)
  go_wp2_with fail
  obtain ⟨W, hW⟩ : ∃ W_, W_ = w2.alloc (.cells #[.int .i64 0, .int .i64 1, .bool dr] 23) := ⟨_, rfl⟩
  rw [← hW]
  have hx_W : W.heap[w2.heap.size]? = some (.cells #[.int .i64 0, .int .i64 1, .bool dr] 23 (0, 0)) := by rw [hW]; exact Hand.q3 _ _ _ rfl
  have hb_W : Below w2.heap.size w2 W := by rw [hW]; exact (Below.refl _ _).alloc (Nat.le_refl _) _
  clear hW
  with_reducible refine (M3.out w2.heap.size w2 _ (Nat.le_refl _) hx_W hb_W).mono ?_
  rintro e w3 ⟨rfl, hx3, hb3⟩
  clear HG zw z_T z1_T z2_T y0_T y1_T c_T_0 f_T_0 c_T_1 f_T_1 c_T_2 f_T_2
  have g_T := Hand.kb hb3 GT0.out
  have g_X := hx3
  have hB := Hand.stepB hb3 HB0.out (Nat.le_refl _)
  have HX := Lib.hid hx3
  have HBX := Lib.hid hb3
  clear hx3 hb3 hx_W hb_W
  obtain ⟨z_T, z1_T, z2_T, y0_T, y1_T⟩ := Hand.hz g_T
  obtain ⟨c_T_0, f_T_0, c_T_1, f_T_1, c_T_2, f_T_2⟩ := Hand.hc3 g_T
  obtain ⟨z_X, z1_X, z2_X, y0_X, y1_X⟩ := Hand.hz g_X
  obtain ⟨c_X_0, f_X_0, c_X_1, f_X_1, c_X_2, f_X_2⟩ := Hand.hc3 g_X
  have zw : w.heap.size ≤ w3.heap.size := hB.size
  have HG := Lib.hid (And.intro g_T (And.intro g_X (hB)))
  clear g_T g_X hB
  go_wp2_with fail
  with_reducible refine (M4.out w2.heap.size w2 _ (Nat.le_refl _) HX.out HBX.out).mono ?_
  rintro e w4 ⟨rfl, hx4, hb4⟩
  clear HX HBX HG zw z_T z1_T z2_T y0_T y1_T c_T_0 f_T_0 c_T_1 f_T_1 c_T_2 f_T_2 z_X z1_X z2_X y0_X y1_X c_X_0 f_X_0 c_X_1 f_X_1 c_X_2 f_X_2
  have g_T := Hand.kb hb4 GT0.out
  have g_X := hx4
  have hB := Hand.stepB hb4 HB0.out (Nat.le_refl _)
  clear hx4 hb4
  obtain ⟨z_T, z1_T, z2_T, y0_T, y1_T⟩ := Hand.hz g_T
  obtain ⟨c_T_0, f_T_0, c_T_1, f_T_1, c_T_2, f_T_2⟩ := Hand.hc3 g_T
  obtain ⟨z_X, z1_X, z2_X, y0_X, y1_X⟩ := Hand.hz g_X
  obtain ⟨c_X_0, f_X_0, c_X_1, f_X_1, c_X_2, f_X_2⟩ := Hand.hc3 g_X
  have zw : w.heap.size ≤ w4.heap.size := hB.size
  have HG := Lib.hid (And.intro g_T (And.intro g_X (hB)))
  clear g_T g_X hB
  go_wp2_with fail
  with_reducible refine (M5.out _).mono ?_
  rintro e w5 ⟨rfl, hq⟩
  obtain ⟨g_T, g_X, hB⟩ := HG.out
  have h_T : w5.heap[w.heap.size]? = some (.cells #[.int .i64 0, .int .i64 0, .bool false] 23 (0, 0)) := by
    refine Hand.kb hq ?_; first | with_reducible exact g_T | (simp (disch := first | omega | (simp only [Hand.sa, Hand.ss, Hand.sd, Hand.sn]; first | done | omega)) only [Hand.q2, Hand.q1, Hand.q5, Hand.q6, Hand.q4, Hand.q3, g_T] <;> rfl)
  have h_X : w5.heap[w2.heap.size]? = some (.cells #[.int .i64 v, .int .i64 u, .bool dr] 23 (0, 0)) := by
    refine Hand.kb hq ?_; simp (disch := first | omega | (simp only [Hand.sa, Hand.ss, Hand.sd, Hand.sn]; first | done | omega)) only [Hand.q2, Hand.q1, Hand.q5, Hand.q6, Hand.q4, Hand.q3, g_X] <;> rfl
  have hB' : Below w.heap.size w w5 := Hand.stepB hq (by repeat (with_reducible first | apply hB | apply Below.drew | apply pw_below_drewN | (apply Below.setCell; rotate_left; (dsimp only; omega)) | (apply Below.alloc; rotate_left; (first | omega | (simp only [Hand.sa, Hand.ss, Hand.sd, Hand.sn]; omega))))) (Nat.le_refl _)
  clear HG hB g_T g_X zw z_T z1_T z2_T y0_T y1_T c_T_0 f_T_0 c_T_1 f_T_1 c_T_2 f_T_2 z_X z1_X z2_X y0_X y1_X c_X_0 f_X_0 c_X_1 f_X_1 c_X_2 f_X_2
  clear hq
  have g_T := h_T
  have g_X := h_X
  have hB := hB'
  clear hB' h_T h_X
  obtain ⟨z_T, z1_T, z2_T, y0_T, y1_T⟩ := Hand.hz g_T
  obtain ⟨c_T_0, f_T_0, c_T_1, f_T_1, c_T_2, f_T_2⟩ := Hand.hc3 g_T
  obtain ⟨z_X, z1_X, z2_X, y0_X, y1_X⟩ := Hand.hz g_X
  obtain ⟨c_X_0, f_X_0, c_X_1, f_X_1, c_X_2, f_X_2⟩ := Hand.hc3 g_X
  have zw : w.heap.size ≤ w5.heap.size := hB.size
  have HG := Lib.hid (And.intro g_T (And.intro g_X (hB)))
  clear g_T g_X hB
  go_wp2
  obtain ⟨g_T, g_X, hB⟩ := HG.out
  refine bodyPost_ret (results_ct rfl _ _ (w.heap.size) 23 #[.int .i64 0, .int .i64 0, .bool false] (0, 0) _ rfl ?_ Tryz.underlying23 rfl (by kernel_rfl)) rfl ⟨rfl, ?_⟩
  · simp (disch := omega) only [Hand.q1, g_T]; rfl
  · exact ((hB.setCell (by dsimp only; omega) _).setCell (by dsimp only; omega) _).setCell (by dsimp only; omega) _
set_option maxHeartbeats 800000 in
set_option maxRecDepth 100000 in
theorem crt_two_ok (L S N D : ByteArray) (dr : Bool) (v u : Int) (hD : (D.toList == [49]) = false) (hD2 : ¬ D.toList = [49]) (w : World)
    (m1 : ∀ w, Calls Tryz.prog 48 #[.string L, .string ⟨#[100]⟩] w fun e w' => e = .returned (.tuple #[.string S, .bool dr]) ∧ Below w.heap.size w w')
    (m2 : ∀ w, Calls Tryz.prog 49 #[.string S, .string ⟨#[47]⟩] w fun e w' => e = .returned (.tuple #[.string N, .string D, .bool true]) ∧ Below w.heap.size w w')
    (m3 : ∀ (G : Nat) (w0 w : World), w0.heap.size ≤ G → w.heap[G]? = some (.cells #[.int .i64 0, .int .i64 1, .bool dr] 23 (0, 0)) → Below w0.heap.size w0 w → Calls Tryz.prog 50 #[.string N, .pointer (some ⟨G, 0, none⟩)] w fun e w' => e = .returned (.bool true) ∧ w'.heap[G]? = some (.cells #[.int .i64 v, .int .i64 1, .bool dr] 23 (0, 0)) ∧ Below w0.heap.size w0 w')
    (m4 : ∀ (G : Nat) (w0 w : World), w0.heap.size ≤ G → w.heap[G]? = some (.cells #[.int .i64 v, .int .i64 1, .bool dr] 23 (0, 0)) → Below w0.heap.size w0 w → Calls Tryz.prog 50 #[.string D, .pointer (some ⟨G, 1, none⟩)] w fun e w' => e = .returned (.bool true) ∧ w'.heap[G]? = some (.cells #[.int .i64 v, .int .i64 u, .bool dr] 23 (0, 0)) ∧ Below w0.heap.size w0 w')
    (m5 : ∀ w, Calls Tryz.prog 45 #[.agg #[.int .i64 v, .int .i64 u, .bool dr]] w fun e w' => e = .returned (.int .i64 0) ∧ Below w.heap.size w w') :
    Calls Tryz.prog 17 #[.string L] w fun e w' => e = .returned (.tuple #[.agg #[.int .i64 v, .int .i64 u, .bool dr], .int .i64 0]) ∧ Below w.heap.size w w' := by
  have hD4 : (!(D.toList == [49])) = true := by rw [hD]; rfl
  have M1 := Lib.hid m1
  have M2 := Lib.hid m2
  have M3 := Lib.hid m3
  have M4 := Lib.hid m4
  have M5 := Lib.hid m5
  clear m1 m2 m3 m4 m5
  go_enter Tryz.func17, Tryz.ntmps17
  go_wp2_with fail
  with_reducible refine (M1.out _).mono ?_
  rintro e w1 ⟨rfl, hb1⟩
  have h_T : w1.heap[w.heap.size]? = some (.cells #[.int .i64 0, .int .i64 0, .bool false] 23 (0, 0)) := by
    refine Hand.kb hb1 ?_; simp (disch := first | omega | (simp only [Hand.sa, Hand.ss, Hand.sd, Hand.sn]; first | done | omega)) only [Hand.q2, Hand.q1, Hand.q5, Hand.q6, Hand.q4, Hand.q3] <;> rfl
  have hB' : Below w.heap.size w w1 := Hand.stepB hb1 (by repeat (with_reducible first | apply Below.refl _ _ | apply Below.drew | apply pw_below_drewN | (apply Below.setCell; rotate_left; (dsimp only; omega)) | (apply Below.alloc; rotate_left; (first | omega | (simp only [Hand.sa, Hand.ss, Hand.sd, Hand.sn]; omega))))) (Nat.le_refl _)
  clear hb1
  have g_T := h_T
  have hB := hB'
  clear hB' h_T
  obtain ⟨z_T, z1_T, z2_T, y0_T, y1_T⟩ := Hand.hz g_T
  obtain ⟨c_T_0, f_T_0, c_T_1, f_T_1, c_T_2, f_T_2⟩ := Hand.hc3 g_T
  have zw : w.heap.size ≤ w1.heap.size := hB.size
  have HG := Lib.hid (And.intro g_T (hB))
  clear g_T hB
  go_wp2_with fail
  with_reducible refine (M2.out _).mono ?_
  rintro e w2 ⟨rfl, hb2⟩
  obtain ⟨g_T, hB⟩ := HG.out
  have h_T : w2.heap[w.heap.size]? = some (.cells #[.int .i64 0, .int .i64 0, .bool false] 23 (0, 0)) := by
    refine Hand.kb hb2 ?_; first | with_reducible exact g_T | (simp (disch := first | omega | (simp only [Hand.sa, Hand.ss, Hand.sd, Hand.sn]; first | done | omega)) only [Hand.q2, Hand.q1, Hand.q5, Hand.q6, Hand.q4, Hand.q3, g_T] <;> rfl)
  have hB' : Below w.heap.size w w2 := Hand.stepB hb2 (by repeat (with_reducible first | apply hB | apply Below.drew | apply pw_below_drewN | (apply Below.setCell; rotate_left; (dsimp only; omega)) | (apply Below.alloc; rotate_left; (first | omega | (simp only [Hand.sa, Hand.ss, Hand.sd, Hand.sn]; omega))))) (Nat.le_refl _)
  clear HG hB g_T zw z_T z1_T z2_T y0_T y1_T c_T_0 f_T_0 c_T_1 f_T_1 c_T_2 f_T_2
  clear hb2
  have g_T := h_T
  have hB := hB'
  clear hB' h_T
  obtain ⟨z_T, z1_T, z2_T, y0_T, y1_T⟩ := Hand.hz g_T
  obtain ⟨c_T_0, f_T_0, c_T_1, f_T_1, c_T_2, f_T_2⟩ := Hand.hc3 g_T
  have zw : w.heap.size ≤ w2.heap.size := hB.size
  have HG := Lib.hid (And.intro g_T (hB))
  clear g_T hB
  have GT0 := Lib.hid (show w2.heap[w.heap.size]? = some (.cells #[.int .i64 0, .int .i64 0, .bool false] 23 (0, 0)) from HG.out.1)
  have HB0 := Lib.hid (show Below w.heap.size w w2 from HG.out.2)
  go_wp2_with fail
  obtain ⟨W, hW⟩ : ∃ W_, W_ = w2.alloc (.cells #[.int .i64 0, .int .i64 1, .bool dr] 23) := ⟨_, rfl⟩
  rw [← hW]
  have hx_W : W.heap[w2.heap.size]? = some (.cells #[.int .i64 0, .int .i64 1, .bool dr] 23 (0, 0)) := by rw [hW]; exact Hand.q3 _ _ _ rfl
  have hb_W : Below w2.heap.size w2 W := by rw [hW]; exact (Below.refl _ _).alloc (Nat.le_refl _) _
  clear hW
  with_reducible refine (M3.out w2.heap.size w2 _ (Nat.le_refl _) hx_W hb_W).mono ?_
  rintro e w3 ⟨rfl, hx3, hb3⟩
  clear HG zw z_T z1_T z2_T y0_T y1_T c_T_0 f_T_0 c_T_1 f_T_1 c_T_2 f_T_2
  have g_T := Hand.kb hb3 GT0.out
  have g_X := hx3
  have hB := Hand.stepB hb3 HB0.out (Nat.le_refl _)
  have HX := Lib.hid hx3
  have HBX := Lib.hid hb3
  clear hx3 hb3 hx_W hb_W
  obtain ⟨z_T, z1_T, z2_T, y0_T, y1_T⟩ := Hand.hz g_T
  obtain ⟨c_T_0, f_T_0, c_T_1, f_T_1, c_T_2, f_T_2⟩ := Hand.hc3 g_T
  obtain ⟨z_X, z1_X, z2_X, y0_X, y1_X⟩ := Hand.hz g_X
  obtain ⟨c_X_0, f_X_0, c_X_1, f_X_1, c_X_2, f_X_2⟩ := Hand.hc3 g_X
  have zw : w.heap.size ≤ w3.heap.size := hB.size
  have HG := Lib.hid (And.intro g_T (And.intro g_X (hB)))
  clear g_T g_X hB
  go_wp2_with fail
  with_reducible refine (M4.out w2.heap.size w2 _ (Nat.le_refl _) HX.out HBX.out).mono ?_
  rintro e w4 ⟨rfl, hx4, hb4⟩
  clear HX HBX HG zw z_T z1_T z2_T y0_T y1_T c_T_0 f_T_0 c_T_1 f_T_1 c_T_2 f_T_2 z_X z1_X z2_X y0_X y1_X c_X_0 f_X_0 c_X_1 f_X_1 c_X_2 f_X_2
  have g_T := Hand.kb hb4 GT0.out
  have g_X := hx4
  have hB := Hand.stepB hb4 HB0.out (Nat.le_refl _)
  clear hx4 hb4
  obtain ⟨z_T, z1_T, z2_T, y0_T, y1_T⟩ := Hand.hz g_T
  obtain ⟨c_T_0, f_T_0, c_T_1, f_T_1, c_T_2, f_T_2⟩ := Hand.hc3 g_T
  obtain ⟨z_X, z1_X, z2_X, y0_X, y1_X⟩ := Hand.hz g_X
  obtain ⟨c_X_0, f_X_0, c_X_1, f_X_1, c_X_2, f_X_2⟩ := Hand.hc3 g_X
  have zw : w.heap.size ≤ w4.heap.size := hB.size
  have HG := Lib.hid (And.intro g_T (And.intro g_X (hB)))
  clear g_T g_X hB
  go_wp2_with fail
  with_reducible refine (M5.out _).mono ?_
  rintro e w5 ⟨rfl, hq⟩
  obtain ⟨g_T, g_X, hB⟩ := HG.out
  have h_T : w5.heap[w.heap.size]? = some (.cells #[.int .i64 0, .int .i64 0, .bool false] 23 (0, 0)) := by
    refine Hand.kb hq ?_; first | with_reducible exact g_T | (simp (disch := first | omega | (simp only [Hand.sa, Hand.ss, Hand.sd, Hand.sn]; first | done | omega)) only [Hand.q2, Hand.q1, Hand.q5, Hand.q6, Hand.q4, Hand.q3, g_T] <;> rfl)
  have h_X : w5.heap[w2.heap.size]? = some (.cells #[.int .i64 v, .int .i64 u, .bool dr] 23 (0, 0)) := by
    refine Hand.kb hq ?_; simp (disch := first | omega | (simp only [Hand.sa, Hand.ss, Hand.sd, Hand.sn]; first | done | omega)) only [Hand.q2, Hand.q1, Hand.q5, Hand.q6, Hand.q4, Hand.q3, g_X] <;> rfl
  have hB' : Below w.heap.size w w5 := Hand.stepB hq (by repeat (with_reducible first | apply hB | apply Below.drew | apply pw_below_drewN | (apply Below.setCell; rotate_left; (dsimp only; omega)) | (apply Below.alloc; rotate_left; (first | omega | (simp only [Hand.sa, Hand.ss, Hand.sd, Hand.sn]; omega))))) (Nat.le_refl _)
  clear HG hB g_T g_X zw z_T z1_T z2_T y0_T y1_T c_T_0 f_T_0 c_T_1 f_T_1 c_T_2 f_T_2 z_X z1_X z2_X y0_X y1_X c_X_0 f_X_0 c_X_1 f_X_1 c_X_2 f_X_2
  clear hq
  have g_T := h_T
  have g_X := h_X
  have hB := hB'
  clear hB' h_T h_X
  obtain ⟨z_T, z1_T, z2_T, y0_T, y1_T⟩ := Hand.hz g_T
  obtain ⟨c_T_0, f_T_0, c_T_1, f_T_1, c_T_2, f_T_2⟩ := Hand.hc3 g_T
  obtain ⟨z_X, z1_X, z2_X, y0_X, y1_X⟩ := Hand.hz g_X
  obtain ⟨c_X_0, f_X_0, c_X_1, f_X_1, c_X_2, f_X_2⟩ := Hand.hc3 g_X
  have zw : w.heap.size ≤ w5.heap.size := hB.size
  have HG := Lib.hid (And.intro g_T (And.intro g_X (hB)))
  clear g_T g_X hB
  go_wp2
  obtain ⟨g_T, g_X, hB⟩ := HG.out
  refine bodyPost_ret (results_ct rfl _ _ (w.heap.size) 23 #[.int .i64 v, .int .i64 u, .bool dr] (0, 0) _ rfl ?_ Tryz.underlying23 rfl (by kernel_rfl)) rfl ⟨rfl, ?_⟩
  · simp (disch := omega) only [Hand.q1, g_T]; rfl
  · exact ((hB.setCell (by dsimp only; omega) _).setCell (by dsimp only; omega) _).setCell (by dsimp only; omega) _
end Go.Proofs.YtghiibdhibcbaaaGreatDoor.PA
namespace Go.Proofs.YtghiibdhibcbaaaGreatDoor.PA
open Go Go.RowKit Go.Proofs.YtghiibdhibcbaaaGreatDoor.CS
set_option linter.unusedSimpArgs false
set_option linter.unusedVariables false
/-- a rate's text, as code cuts it -/
def rtO (l : List UInt8) : Option (Int × Int × Bool) :=
  if (Lib.cut (Lib.trimSuffix l [100]) [47]).2.2 = true then
    (whoO (Lib.cut (Lib.trimSuffix l [100]) [47]).1).bind fun n => (whoO (Lib.cut (Lib.trimSuffix l [100]) [47]).2.1).bind fun d => if (Lib.cut (Lib.trimSuffix l [100]) [47]).2.1 = [49] then none else some (n, d, Lib.hasSuffix l [100])
  else (whoO (Lib.cut (Lib.trimSuffix l [100]) [47]).1).map fun n => (n, 1, Lib.hasSuffix l [100])
def rateS (o : Option (Int × Int × Bool)) : (Int × Int × Bool) × Int := match o with
  | none => ((0, 0, false), 13)
  | some p => if okR p.1 p.2.1 p.2.2 = true then (p, 0) else ((0, 0, false), 14)
theorem crate_any (l : List UInt8) (hl : l.length ≤ 9223372036854775807) (w : World) :
    Calls Tryz.prog 17 #[.string (bs l)] w fun e w' => e = .returned (.tuple #[.agg #[.int .i64 (rateS (rtO l)).1.1, .int .i64 (rateS (rtO l)).1.2.1, .bool (rateS (rtO l)).1.2.2], .int .i64 (rateS (rtO l)).2]) ∧ Below w.heap.size w w' := by
  have m1 : ∀ w, Calls Tryz.prog 48 #[.string (bs l), .string ⟨#[100]⟩] w fun e w' => e = .returned (.tuple #[.string (bs (Lib.trimSuffix l [100])), .bool (Lib.hasSuffix l [100])]) ∧ Below w.heap.size w w' := fun w => by
    have h := Tryz.strings_CutSuffix (bs l) ⟨#[100]⟩ w (by rw [bs_size]; exact hl)
    rw [bs_list, show (⟨#[100]⟩ : ByteArray).data.toList = [100] from rfl] at h
    exact h.mono fun e w' ⟨a, b⟩ => ⟨a, by rw [b]; exact Below.refl _ _⟩
  have hts : (Lib.trimSuffix l [100]).length ≤ l.length := by unfold Lib.trimSuffix; split; rw [List.length_take]; omega; exact Nat.le_refl _
  have m2 : ∀ w, Calls Tryz.prog 49 #[.string (bs (Lib.trimSuffix l [100])), .string ⟨#[47]⟩] w fun e w' => e = .returned (.tuple #[.string (bs (Lib.cut (Lib.trimSuffix l [100]) [47]).1), .string (bs (Lib.cut (Lib.trimSuffix l [100]) [47]).2.1), .bool (Lib.cut (Lib.trimSuffix l [100]) [47]).2.2]) ∧ Below w.heap.size w w' := fun w => by
    have h := cut_any (bs (Lib.trimSuffix l [100])) 47 w (by rw [bs_size]; omega)
    rw [bs_list] at h
    exact h
  unfold rtO
  obtain ⟨N, D, two, hc⟩ : ∃ N D two, Lib.cut (Lib.trimSuffix l [100]) [47] = (N, D, two) := ⟨_, _, _, rfl⟩
  rw [hc] at m2 ⊢
  dsimp only at m2 ⊢
  obtain ⟨dr, hd⟩ : ∃ dr, Lib.hasSuffix l [100] = dr := ⟨_, rfl⟩
  rw [hd] at m1 ⊢
  have m3 := fun (G : Nat) (w0 w : World) hG hg hB => who_any_0 N G 0 1 dr w0 w hG hg hB
  have ck : ∀ n d : Int, (∀ w, Calls Tryz.prog 45 #[.agg #[.int .i64 n, .int .i64 d, .bool dr]] w fun e w' => e = .returned (.int .i64 (checkS n d dr)) ∧ Below w.heap.size w w') := fun n d w => check_any n d dr w
  cases two
  · rw [if_neg (by decide)]
    cases hn : whoO N with
    | none =>
      rw [hn] at m3
      exact crt_one_no _ _ _ _ dr _ w m1 m2 m3
    | some v =>
      rw [hn, whoV_of 0 hn] at m3
      have m5 := ck v 1
      unfold checkS at m5
      simp only [Option.map_some, rateS]
      by_cases hk : okR v 1 dr = true
      · rw [if_pos hk] at m5 ⊢
        exact crt_one_ok _ _ _ _ dr v w m1 m2 m3 m5
      · rw [if_neg hk] at m5 ⊢
        exact crt_one_bad _ _ _ _ dr v 14 (by decide) w m1 m2 m3 m5
  · rw [if_pos rfl]
    cases hn : whoO N with
    | none =>
      rw [hn] at m3
      exact crt_two_no _ _ _ _ dr _ w m1 m2 m3
    | some v =>
      rw [hn, whoV_of 0 hn] at m3
      have m4 := fun (G : Nat) (w0 w : World) hG hg hB => who_any_1 D G v 1 dr w0 w hG hg hB
      simp only [Option.bind_some]
      cases hu : whoO D with
      | none =>
        rw [hu] at m4
        exact crt_two_no2 _ _ _ _ dr v _ w m1 m2 m3 m4
      | some u =>
        rw [hu, whoV_of 1 hu] at m4
        simp only [Option.bind_some]
        by_cases h1 : D = [49]
        · rw [if_pos h1]
          exact crt_two_1 _ _ _ _ dr v u (by rw [h1]; rfl) w m1 m2 m3 m4
        · rw [if_neg h1]
          have n1 : ¬ (bs D).toList = [49] := by rw [bs_toList]; exact h1
          have n2 : ((bs D).toList == [49]) = false := by simpa using n1
          have m5 := ck v u
          unfold checkS at m5
          simp only [rateS]
          by_cases hk : okR v u dr = true
          · rw [if_pos hk] at m5 ⊢
            exact crt_two_ok _ _ _ _ dr v u n2 n1 w m1 m2 m3 m4 m5
          · rw [if_neg hk] at m5 ⊢
            exact crt_two_bad _ _ _ _ dr v u 14 (by decide) n2 n1 w m1 m2 m3 m4 m5
end Go.Proofs.YtghiibdhibcbaaaGreatDoor.PA
