/- Chapter 6: what is wrong with knots. -/
import Derived.Test.YthlpaglldhgmfaaAl6
import Derived.StillTailTactics
namespace Go.Proofs.Ythlpaglldhgmfaa.PA
open Go Go.RowKit Go.Proofs.YthlpaglldhgmfaaW.PrintWords Go.Proofs.YthlpaglldhgmfaaW.PrintLast Go.Proofs.YthlpaglldhgmfaaW.PrintMore
set_option linter.unusedSimpArgs false
set_option linter.unusedVariables false
/-- a slice's knots as they lie -/
def KnA (w : World) (ad : Addr) (l : List Kn) : Prop := ∀ j (h : j < l.length), w.cell? (ad.add (j * 4)) = some (.int .i64 l[j].1.1) ∧ w.cell? ⟨(ad.add (j * 4)).block, (ad.add (j * 4)).off + 1, none⟩ = some (.int .i64 l[j].1.2) ∧
  w.cell? ⟨(ad.add (j * 4)).block, (ad.add (j * 4)).off + 2, none⟩ = some (.int .i64 l[j].2.1) ∧ w.cell? ⟨(ad.add (j * 4)).block, (ad.add (j * 4)).off + 3, none⟩ = some (.int .i64 l[j].2.2)
theorem KnA.below {w w' : World} {ad : Addr} {l : List Kn} (h : KnA w ad l) (hb : Below w.heap.size w w') : KnA w' ad l := fun j hj => by
  obtain ⟨a, b, c, d⟩ := h j hj
  have st : ∀ p v, w.cell? p = some v → w'.cell? p = some v := fun p v hp => (hb.cell (World.block_lt_of_cell? w _ hp)).trans hp
  exact ⟨st _ _ a, st _ _ b, st _ _ c, st _ _ d⟩
def KnR (l : List Kn) : Prop := ∀ k ∈ l, R64 k.1 ∧ R64 k.2
theorem rises_iff (f : Kn → Rt) : ∀ l : List Kn, risesB f l = true ↔ ∀ i (h : i + 1 < l.length), rCmp (f l[i]) (f l[i + 1]) < 0 := by
  intro l
  induction l with
  | nil => simp [risesB]
  | cons a l ih =>
    cases l with
    | nil => simp [risesB]
    | cons b l =>
      simp only [risesB, Bool.and_eq_true, decide_eq_true_eq]
      rw [ih]
      constructor
      · rintro ⟨h0, h1⟩ i hi
        cases i with
        | zero => exact h0
        | succ i => exact h1 i (by simpa using hi)
      · intro h
        exact ⟨h 0 (by simp), fun i hi => h (i + 1) (by simpa using hi)⟩
theorem chk_12 {l : List Kn} (h0 : l.length ≠ 0) (h1 : l.length ≤ 64) (h : (l.all fun k => rRight k.1 && rRight k.2) = false) : chkK l = 12 := by unfold chkK; rw [if_neg h0, if_neg (by omega), if_pos h]
theorem chk_33 {l : List Kn} (h0 : l.length ≠ 0) (h1 : l.length ≤ 64) (h : (l.all fun k => rRight k.1 && rRight k.2) = true) (h2 : risesB (·.1) l = false) : chkK l = 33 := by unfold chkK; rw [if_neg h0, if_neg (by omega), if_neg (by rw [h]; decide), if_pos h2]
theorem chk_32 {l : List Kn} (h0 : l.length ≠ 0) (h1 : l.length ≤ 64) (h : (l.all fun k => rRight k.1 && rRight k.2) = true) (h2 : risesB (·.1) l = true) (h3 : risesB (·.2) l = false) : chkK l = 32 := by unfold chkK; rw [if_neg h0, if_neg (by omega), if_neg (by rw [h]; decide), if_neg (by rw [h2]; decide), if_pos h3]
theorem chk_0 {l : List Kn} (h0 : l.length ≠ 0) (h1 : l.length ≤ 64) (h : (l.all fun k => rRight k.1 && rRight k.2) = true) (h2 : risesB (·.1) l = true) (h3 : risesB (·.2) l = true) : chkK l = 0 := by unfold chkK; rw [if_neg h0, if_neg (by omega), if_neg (by rw [h]; decide), if_neg (by rw [h2]; decide), if_neg (by rw [h3]; decide)]
theorem cmp_k (a b : Rt) (w : World) (ha : R64 a) (hb : R64 b) (ra : rRight a = true) (rb : rRight b = true) : Calls Try.prog 18 #[rv a, rv b] w fun e w' => e = .returned (.int .i64 (rCmp a b)) ∧ Below w.heap.size w w' := by
  have h1 := (right_bounds ra).1
  have h2 := (right_bounds rb).1
  exact cmpR_any a.1 a.2 b.1 b.2 w ha.a0 ha.a1 (by omega) ha.b1 hb.a0 hb.a1 (by omega) hb.b1
theorem right_k (r : Rt) (w : World) (h : R64 r) : Calls Try.prog 17 #[rv r] w fun e w' => e = .returned (.bool (rRight r)) ∧ Below w.heap.size w w' := right_any r.1 r.2 w h.a0 h.a1 h.b0 h.b1
set_option maxHeartbeats 1600000 in
set_option maxRecDepth 100000 in
theorem chk_some (ad : Addr) (l : List Kn) (n cap : Nat) (w : World) (hn : n = l.length) (hK : KnA w ad l) (hR : KnR l) (h0 : 0 < n) (h1 : n ≤ 64) :
    Calls Try.prog 37 #[.slice (some ad) n cap] w fun e w' => e = .returned (.int .i64 (chkK l)) ∧ Below w.heap.size w w' := by
  have b1 : ((n : Int) == 0) = false := by simp; omega
  have b2 : (64 < (n : Int)) = False := eq_false (by omega)
  have b3 : (64 < n) = False := eq_false (by omega)
  have b4 : (n == 0) = false := by simp; omega
  have b5 : ¬ n = 0 := by omega
  have HK := Lib.hid hK
  have HN := Lib.hid hn
  have HR := Lib.hid hR
  clear hK hn hR
  have L0 := Lib.hid (show l.length ≠ 0 by have := HN.out; omega)
  have L1 := Lib.hid (show l.length ≤ 64 by have := HN.out; omega)
  go_enter Try.func37, Try.ntmps37
  go_wp2_with fail
  go_loopw [17] (fun i wr => ∃ j : Nat, j ≤ n ∧ i = .int .i64 j ∧ (l.take j).all (fun k => rRight k.1 && rRight k.2) = true ∧ Below w.heap.size w wr) (fun i _ => n - (intOf i).toNat)
  case atStart => exact ⟨0, Nat.zero_le _, rfl, rfl, Below.refl _ _⟩
  case round =>
    obtain ⟨j, hj, rfl, hall, hB⟩ := hrel
    have HA := Lib.hid hall
    clear hall
    by_cases hjn : j < n
    · have p1 : ((j : Int) < (n : Int)) = True := eq_true (by omega)
      have p2 : (j < n) = True := eq_true hjn
      have hjl : j < l.length := by rw [← HN.out]; exact hjn
      obtain ⟨c0, c1, c2, c3⟩ := (HK.out.below hB) j hjl
      have hr := HR.out _ (List.getElem_mem hjl)
      obtain ⟨k, hk⟩ : ∃ k, l[j] = k := ⟨_, rfl⟩
      rw [hk] at c0 c1 c2 c3 hr
      have m1 := Lib.hid (fun w => right_k k.1 w hr.1)
      have m2 := Lib.hid (fun w => right_k k.2 w hr.2)
      have HKJ := Lib.hid hk
      clear hr hk
      have BAD := Lib.hid (fun (h : (rRight k.1 && rRight k.2) = false) => chk_12 L0.out L1.out (by rw [List.all_eq_false]; exact ⟨_, List.getElem_mem hjl, by rw [HKJ.out, h]; decide⟩))
      go_wp2_with fail
      with_reducible refine (m1.out _).mono ?_
      rintro e w2 ⟨rfl, hb2⟩
      have gk := Hand.kb hb2 (Hand.q3 wr (.cells #[.int .i64 k.1.1, .int .i64 k.1.2, .int .i64 k.2.1, .int .i64 k.2.2] 35 (0, 0)) _ rfl)
      obtain ⟨d0, f0, d1, f1, d2, f2, d3, f3⟩ := Hand.hc4 gk
      have hB2 := Hand.stepB hb2 (hB.alloc hB.size _) (Nat.le_refl _)
      clear hb2 gk
      cases h1 : rRight k.1
      · go_wp2
        go_ret
        exact ⟨by rw [BAD.out (by rw [h1]; rfl)]; rfl, hB2⟩
      · go_wp2_with fail
        with_reducible refine (m2.out _).mono ?_
        rintro e w3 ⟨rfl, hb3⟩
        have hB3 := Hand.stepB hb3 hB2 (Nat.le_refl _)
        clear hb3
        cases h2 : rRight k.2
        · go_wp2
          go_ret
          exact ⟨by rw [BAD.out (by rw [h1, h2]; rfl)]; rfl, hB3⟩
        · go_wp2
          go_roundw
          case rel => exact ⟨j + 1, by omega, by rw [Int.natCast_add]; rfl, by rw [List.take_succ_eq_append_getElem hjl, List.all_append, HA.out, HKJ.out]; simp [h1, h2], hB3⟩
          case measure => simp [intOf]; omega
    · have p1 : ((j : Int) < (n : Int)) = False := eq_false (by omega)
      have p2 : (j < n) = False := eq_false hjn
      have hall : l.all (fun k => rRight k.1 && rRight k.2) = true := by have := HA.out; rwa [List.take_of_length_le (by rw [← HN.out]; omega)] at this
      have HALL := Lib.hid hall
      have HRT := Lib.hid (fun j (h : j < l.length) => (by have := List.all_eq_true.mp hall _ (List.getElem_mem h); rw [Bool.and_eq_true] at this; exact this : rRight l[j].1 = true ∧ rRight l[j].2 = true))
      clear HA hall
      go_wp2_with fail
      clear p1 p2 hjn hj
      go_loopw [5] (fun i wr => ∃ j : Nat, j + 1 ≤ n ∧ i = .int .i64 ((j : Int) + 1) ∧ (∀ i (h : i + 1 < l.length), i < j → rCmp l[i].1 l[i + 1].1 < 0) ∧ Below w.heap.size w wr) (fun i _ => n - (intOf i).toNat)
      case atStart => exact ⟨0, by omega, rfl, fun i _ h => absurd h (Nat.not_lt_zero _), hB⟩
      case round =>
        obtain ⟨j, hj, rfl, hall, hB⟩ := hrel
        have HA := Lib.hid hall
        clear hall
        by_cases hjn : j + 1 < n
        · have p1 : ((j : Int) + 1 < (n : Int)) = True := eq_true (by omega)
          have hjl : j + 1 < l.length := by rw [← HN.out]; exact hjn
          obtain ⟨c0, c1, c2, c3⟩ := (HK.out.below hB) j (by omega)
          obtain ⟨d0, d1, d2, d3⟩ := (HK.out.below hB) (j + 1) hjl
          have w1 : IntKind.i64.wrap ((j : Int) + 1 - 1) = (j : Int) := by rw [IntKind.wrap_i64]; omega
          have w2 : IntKind.i64.wrap (j : Int) = (j : Int) := by rw [IntKind.wrap_i64]; omega
          have p3 : (0 : Int) ≤ (j : Int) + 1 := by omega
          have p4 : ((j : Int) < (n : Int)) = True := eq_true (by omega)
          have p5 : (0 : Int) ≤ (j : Int) := by omega
          have p6 : (j < n) = True := eq_true (by omega)
          have p7 : (j + 1 < n) = True := eq_true (by omega)
          have m1 := Lib.hid (fun w => cmp_k l[j].1 l[j + 1].1 w (HR.out _ (List.getElem_mem (by omega))).1 (HR.out _ (List.getElem_mem hjl)).1 (HRT.out j (by omega)).1 (HRT.out (j + 1) hjl).1)
          obtain ⟨q, hq⟩ : ∃ q, rCmp l[j].1 l[j + 1].1 = q := ⟨_, rfl⟩
          rw [hq] at m1
          have HQ := Lib.hid hq
          clear hq
          go_wp2_with fail
          go_still_tail 11, (by kernel_rfl)
          change wpList _ _ _ _ _ wr.drew
          go_wp2_with fail
          with_reducible refine (m1.out _).mono ?_
          rintro e w2 ⟨rfl, hb2⟩
          have hB2 := Hand.stepB hb2 hB.drew (Nat.le_refl _)
          clear hb2
          by_cases hq0 : 0 ≤ q
          · have k1 : (0 ≤ q) = True := eq_true hq0
            go_wp2
            go_ret
            exact ⟨by rw [chk_33 L0.out L1.out HALL.out (by rw [← Bool.not_eq_true, rises_iff]; intro h; have := h j hjl; rw [HQ.out] at this; omega)]; rfl, hB2⟩
          · have k1 : (0 ≤ q) = False := eq_false hq0
            go_wp2
            go_roundw
            case rel =>
              refine ⟨j + 1, by omega, by rw [Int.natCast_add]; rfl, fun i h hi => ?_, hB2⟩
              by_cases hij : i = j
              · subst hij; rw [HQ.out]; omega
              · exact HA.out i h (by omega)
            case measure => simp [intOf]; omega
        · have p1 : ((j : Int) + 1 < (n : Int)) = False := eq_false (by omega)
          have HRI := Lib.hid (show risesB (·.1) l = true from by rw [rises_iff]; intro i hi; exact HA.out i hi (by have := HN.out; omega))
          clear HA
          go_wp2_with fail
          clear p1 hjn hj
          go_loopw [6] (fun i wr => ∃ j : Nat, j + 1 ≤ n ∧ i = .int .i64 ((j : Int) + 1) ∧ (∀ i (h : i + 1 < l.length), i < j → rCmp l[i].2 l[i + 1].2 < 0) ∧ Below w.heap.size w wr) (fun i _ => n - (intOf i).toNat)
          case atStart => exact ⟨0, by omega, rfl, fun i _ h => absurd h (Nat.not_lt_zero _), hB⟩
          case round =>
            obtain ⟨j, hj, rfl, hall, hB⟩ := hrel
            have HA := Lib.hid hall
            clear hall
            by_cases hjn : j + 1 < n
            · have p1 : ((j : Int) + 1 < (n : Int)) = True := eq_true (by omega)
              have hjl : j + 1 < l.length := by rw [← HN.out]; exact hjn
              obtain ⟨c0, c1, c2, c3⟩ := (HK.out.below hB) j (by omega)
              obtain ⟨d0, d1, d2, d3⟩ := (HK.out.below hB) (j + 1) hjl
              have w1 : IntKind.i64.wrap ((j : Int) + 1 - 1) = (j : Int) := by rw [IntKind.wrap_i64]; omega
              have w2 : IntKind.i64.wrap (j : Int) = (j : Int) := by rw [IntKind.wrap_i64]; omega
              have p3 : (0 : Int) ≤ (j : Int) + 1 := by omega
              have p4 : ((j : Int) < (n : Int)) = True := eq_true (by omega)
              have p5 : (0 : Int) ≤ (j : Int) := by omega
              have p6 : (j < n) = True := eq_true (by omega)
              have p7 : (j + 1 < n) = True := eq_true (by omega)
              have m1 := Lib.hid (fun w => cmp_k l[j].2 l[j + 1].2 w (HR.out _ (List.getElem_mem (by omega))).2 (HR.out _ (List.getElem_mem hjl)).2 (HRT.out j (by omega)).2 (HRT.out (j + 1) hjl).2)
              obtain ⟨q, hq⟩ : ∃ q, rCmp l[j].2 l[j + 1].2 = q := ⟨_, rfl⟩
              rw [hq] at m1
              have HQ := Lib.hid hq
              clear hq
              go_wp2_with fail
              go_still_tail 11, (by kernel_rfl)
              change wpList _ _ _ _ _ wr.drew
              go_wp2_with fail
              with_reducible refine (m1.out _).mono ?_
              rintro e w2 ⟨rfl, hb2⟩
              have hB2 := Hand.stepB hb2 hB.drew (Nat.le_refl _)
              clear hb2
              by_cases hq0 : 0 ≤ q
              · have k1 : (0 ≤ q) = True := eq_true hq0
                go_wp2
                go_ret
                exact ⟨by rw [chk_32 L0.out L1.out HALL.out HRI.out (by rw [← Bool.not_eq_true, rises_iff]; intro h; have := h j hjl; rw [HQ.out] at this; omega)]; rfl, hB2⟩
              · have k1 : (0 ≤ q) = False := eq_false hq0
                go_wp2
                go_roundw
                case rel =>
                  refine ⟨j + 1, by omega, by rw [Int.natCast_add]; rfl, fun i h hi => ?_, hB2⟩
                  by_cases hij : i = j
                  · subst hij; rw [HQ.out]; omega
                  · exact HA.out i h (by omega)
                case measure => simp [intOf]; omega
            · have p1 : ((j : Int) + 1 < (n : Int)) = False := eq_false (by omega)
              have HRO := Lib.hid (show risesB (·.2) l = true from by rw [rises_iff]; intro i hi; exact HA.out i hi (by have := HN.out; omega))
              clear HA
              go_wp2
              go_ret
              exact ⟨by rw [chk_0 L0.out L1.out HALL.out HRI.out HRO.out]; rfl, hB⟩
set_option maxHeartbeats 800000 in
set_option maxRecDepth 100000 in
theorem chk_none (A : Option Addr) (cap : Nat) (w : World) :
    Calls Try.prog 37 #[.slice A 0 cap] w fun e w' => e = .returned (.int .i64 1) ∧ Below w.heap.size w w' := by
  go_enter Try.func37, Try.ntmps37
  go_wp2
  go_ret
  exact ⟨rfl, Below.refl _ _⟩
set_option maxHeartbeats 800000 in
set_option maxRecDepth 100000 in
theorem chk_many (A : Option Addr) (n cap : Nat) (h : 64 < n) (w : World) :
    Calls Try.prog 37 #[.slice A n cap] w fun e w' => e = .returned (.int .i64 2) ∧ Below w.heap.size w w' := by
  have b1 : ((n : Int) == 0) = false := by simp; omega
  have b2 : (64 < (n : Int)) = True := eq_true (by omega)
  have b3 : (64 < n) = True := eq_true (by omega)
  have b4 : (n == 0) = false := by simp; omega
  have b5 : ¬ n = 0 := by omega
  go_enter Try.func37, Try.ntmps37
  go_wp2
  go_ret
  exact ⟨rfl, Below.refl _ _⟩
/-- a slice that holds knots -/
def KnS (w : World) (A : Option Addr) (l : List Kn) : Prop := l = [] ∨ ∃ ad, A = some ad ∧ KnA w ad l
theorem KnS.below {w w' : World} {A : Option Addr} {l : List Kn} (h : KnS w A l) (hb : Below w.heap.size w w') : KnS w' A l := by
  rcases h with h | ⟨ad, h1, h2⟩
  · exact .inl h
  · exact .inr ⟨ad, h1, h2.below hb⟩
theorem chk_any (A : Option Addr) (l : List Kn) (cap : Nat) (w : World) (hK : KnS w A l) (hR : KnR l) :
    Calls Try.prog 37 #[.slice A l.length cap] w fun e w' => e = .returned (.int .i64 (chkK l)) ∧ Below w.heap.size w w' := by
  rcases hK with rfl | ⟨ad, rfl, hK⟩
  · exact chk_none A cap w
  · by_cases h0 : l.length = 0
    · rw [List.length_eq_zero_iff.mp h0]; exact chk_none _ cap w
    · by_cases h1 : l.length ≤ 64
      · exact chk_some ad l _ cap w rfl hK hR (by omega) h1
      · rw [show chkK l = 2 by unfold chkK; rw [if_neg h0, if_pos (by omega)]]
        exact chk_many _ _ cap (by omega) w
end Go.Proofs.Ythlpaglldhgmfaa.PA
