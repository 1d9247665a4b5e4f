/- Chapter 5 in plain mathematics: rates, frames, numbers. Cmp and Time: what is a time. code: drops, full, within, colon. code: Check. -/
import Derived.Lib.Hide
import Derived.Test.YtghiibdhibcbaaaGreatDoorMA
import Derived.Deep.RegionHeld3
import Derived.Deep.QuietTactic
import Derived.BigQuiet
namespace Go.Proofs.YtghiibdhibcbaaaGreatDoor.CS
/-- is n / d (dropping or not) a rate? -/
def okR (n d : Int) (dr : Bool) : Bool :=
  decide (1 ≤ n ∧ n ≤ 240000 ∧ 1 ≤ d ∧ d ≤ 1001 ∧ Nat.gcd n.natAbs d.natAbs = 1 ∧ d ≤ n ∧ n ≤ 240 * d ∧ (dr = true → d = 1001 ∧ (n = 30000 ∨ n = 60000)))
structure Ok (n d : Int) (dr : Bool) : Prop where
  n1 : 1 ≤ n
  n2 : n ≤ 240000
  d1 : 1 ≤ d
  d2 : d ≤ 1001
  g : Nat.gcd n.natAbs d.natAbs = 1
  le : d ≤ n
  ge : n ≤ 240 * d
  dr : dr = true → d = 1001 ∧ (n = 30000 ∨ n = 60000)
theorem okR_iff {n d : Int} {dr : Bool} : okR n d dr = true ↔ Ok n d dr := by
  unfold okR
  rw [decide_eq_true_iff]
  exact ⟨fun ⟨a, b, c, d, e, f, g, h⟩ => ⟨a, b, c, d, e, f, g, h⟩, fun h => ⟨h.n1, h.n2, h.d1, h.d2, h.g, h.le, h.ge, h.dr⟩⟩
def checkS (n d : Int) (dr : Bool) : Int := if okR n d dr = true then 0 else 14
/-- the full rate -/
def full (n d : Int) : Int := (n + d - 1) / d
theorem full_le {n d : Int} {dr : Bool} (h : Ok n d dr) : 1 ≤ full n d ∧ full n d ≤ 240 := by
  obtain ⟨_, _, h1, _, _, h2, h3, _⟩ := h
  unfold full
  constructor
  · exact (Int.le_ediv_iff_mul_le (by omega)).mpr (by omega)
  · have : (n + d - 1) / d < 241 := (Int.ediv_lt_iff_lt_mul (by omega)).mpr (by omega)
    omega
theorem full_30 : full 30000 1001 = 30 := by decide
theorem full_60 : full 60000 1001 = 60 := by decide
/-- the last frame -/
def last (n d : Int) : Int := 360000 * n / d
theorem last_le {n d : Int} {dr : Bool} (h : Ok n d dr) : 0 ≤ last n d ∧ last n d ≤ 86400000 ∧ last n d * d ≤ 360000 * n ∧ 360000 * n < (last n d + 1) * d := by
  obtain ⟨_, _, h1, _, _, h2, h3, _⟩ := h
  unfold last
  have h0 : 0 ≤ 360000 * n / d := Int.ediv_nonneg (by omega) (by omega)
  have h4 : 360000 * n / d * d ≤ 360000 * n := Int.ediv_mul_le _ (by omega)
  have h5 : 360000 * n < (360000 * n / d + 1) * d := Int.lt_ediv_add_one_mul_self _ (by omega)
  refine ⟨h0, ?_, h4, h5⟩
  have : 360000 * n / d < 86400001 := (Int.ediv_lt_iff_lt_mul (by omega)).mpr (by omega)
  omega
/-- is it a frame? -/
def inF (n d fr : Int) : Bool := decide (0 ≤ fr) && decide (fr ≤ last n d)
theorem inF_iff {n d fr : Int} : inF n d fr = true ↔ 0 ≤ fr ∧ fr ≤ last n d := by unfold inF; simp
/-- how many numbers a minute leaves out -/
def drop (n d : Int) (dr : Bool) : Int := if dr = true then (if n = 30000 ∧ d = 1001 then 2 else if n = 60000 ∧ d = 1001 then 4 else 0) else 0
theorem drop_le {n d : Int} {dr : Bool} : 0 ≤ drop n d dr ∧ drop n d dr ≤ 4 := by
  unfold drop; split <;> (try split) <;> (try split) <;> omega
/-- the three kinds of a rate -/
theorem Ok.kinds {n d : Int} {dr : Bool} (h : Ok n d dr) : dr = false ∧ drop n d dr = 0 ∨ dr = true ∧ n = 30000 ∧ d = 1001 ∧ drop n d dr = 2 ∧ full n d = 30 ∨ dr = true ∧ n = 60000 ∧ d = 1001 ∧ drop n d dr = 4 ∧ full n d = 60 := by
  cases dr
  · exact .inl ⟨rfl, rfl⟩
  · obtain ⟨rfl, rfl | rfl⟩ := h.dr rfl
    · exact .inr (.inl ⟨rfl, rfl, rfl, by decide, by decide⟩)
    · exact .inr (.inr ⟨rfl, rfl, rfl, by decide, by decide⟩)
/-- the number of a frame, with those left out -/
def num (n d : Int) (dr : Bool) (fr : Int) : Int :=
  fr + fr / (600 * full n d - 9 * drop n d dr) * 9 * drop n d dr +
    (if fr % (600 * full n d - 9 * drop n d dr) ≥ 60 * full n d then drop n d dr + (fr % (600 * full n d - 9 * drop n d dr) - 60 * full n d) / (60 * full n d - drop n d dr) * drop n d dr else 0)
theorem num_false (n d fr : Int) : num n d false fr = fr := by
  have h : drop n d false = 0 := rfl
  unfold num
  rw [h]
  split <;> omega
end Go.Proofs.YtghiibdhibcbaaaGreatDoor.CS
namespace Go.Proofs.YtghiibdhibcbaaaGreatDoor.PA
open Go.RowKit Go.Proofs.YtghiibdhibcbaaaGreatDoorW.PrintWords Go.Proofs.YtghiibdhibcbaaaGreatDoorW.PrintLast Go.Proofs.YtghiibdhibcbaaaGreatDoorW.PrintMore
attribute [local go_sem high] eqA104 eqA30
set_option linter.unusedSimpArgs false
set_option linter.unusedVariables false
theorem fitS_ok {neg : Bool} {n d : Nat} {x y : Int} (h : fitS neg n d = (x, y, 0)) : n / Nat.gcd n d ≤ 4611686018427387904 ∧ d / Nat.gcd n d ≤ 2147483648 ∧ x = (if neg then -((n / Nat.gcd n d : Nat) : Int) else ((n / Nat.gcd n d : Nat) : Int)) ∧ y = ((d / Nat.gcd n d : Nat) : Int) := by
  unfold fitS at h
  split at h
  · rename_i hc
    simp only [Prod.mk.injEq] at h
    exact ⟨hc.1, hc.2, h.1.symm, h.2.1.symm⟩
  · simp at h
theorem right_bounds {n d : Int} (h : rightS n d = true) : 1 ≤ d ∧ d ≤ 2147483648 ∧ n.natAbs ≤ 4611686018427387904 ∧ Nat.gcd n.natAbs d.natAbs = 1 := by
  unfold rightS at h
  rw [Bool.and_eq_true, decide_eq_true_eq, decide_eq_true_eq] at h
  obtain ⟨h1, h2⟩ := h
  unfold newS at h2
  rw [if_neg (by omega)] at h2
  obtain ⟨a, b, c, e⟩ := fitS_ok h2
  have hg : 0 < Nat.gcd n.natAbs d.natAbs := Nat.gcd_pos_of_pos_right _ (by omega)
  have hd : d.natAbs / Nat.gcd n.natAbs d.natAbs = d.natAbs := by omega
  have hg1 : Nat.gcd n.natAbs d.natAbs = 1 := by
    have := Nat.div_mul_cancel (Nat.gcd_dvd_right n.natAbs d.natAbs)
    rw [hd] at this
    have h3 : d.natAbs * Nat.gcd n.natAbs d.natAbs = d.natAbs * 1 := by omega
    exact Nat.eq_of_mul_eq_mul_left (by omega) h3
  rw [hg1, Nat.div_one] at a b
  exact ⟨h1, by omega, a, hg1⟩
/-- a against b -/
def cmpS (a b c d : Int) : Int :=
  if (decide (a < 0) == decide (c < 0)) = true then (if a < 0 then -(cmpN (a.natAbs * d.natAbs) (c.natAbs * b.natAbs)) else cmpN (a.natAbs * d.natAbs) (c.natAbs * b.natAbs)) else if a < 0 then -1 else 1
set_option maxHeartbeats 800000 in
set_option maxRecDepth 100000 in
theorem cmpR_neg (a b c d : Int) (w : World) (h : (decide (a < 0) == decide (c < 0)) = false) (h2 : decide (a < 0) = true) :
    Calls Tryz.prog 64 #[.agg #[.int .i64 a, .int .i64 b], .agg #[.int .i64 c, .int .i64 d]] w fun e w' => e = .returned (.int .i64 (-1)) ∧ Below w.heap.size w w' := by
  have h3 : decide (c < 0) = false := by rw [h2] at h; simpa using h
  clear h
  go_enter Tryz.func64, Tryz.ntmps64
  go_wp2
  go_ret
  exact ⟨rfl, ((Below.refl _ _).alloc (Nat.le_refl _) _).alloc (by simp) _⟩
set_option maxHeartbeats 800000 in
set_option maxRecDepth 100000 in
theorem cmpR_pos (a b c d : Int) (w : World) (h : (decide (a < 0) == decide (c < 0)) = false) (h2 : decide (a < 0) = false) :
    Calls Tryz.prog 64 #[.agg #[.int .i64 a, .int .i64 b], .agg #[.int .i64 c, .int .i64 d]] w fun e w' => e = .returned (.int .i64 1) ∧ Below w.heap.size w w' := by
  have h3 : decide (c < 0) = true := by rw [h2] at h; simpa using h
  clear h
  go_enter Tryz.func64, Tryz.ntmps64
  go_wp2
  go_ret
  exact ⟨rfl, ((Below.refl _ _).alloc (Nat.le_refl _) _).alloc (by simp) _⟩
theorem cmpN_range (x y : Nat) : -1 ≤ cmpN x y ∧ cmpN x y ≤ 1 := by unfold cmpN; split <;> (try split) <;> omega
set_option maxHeartbeats 800000 in
set_option maxRecDepth 100000 in
theorem cmpR_same (a b c d n : Int) (p q : Nat) (s : Bool) (w : World) (h : decide (a < 0) = s) (h2 : decide (c < 0) = s)
    (ha0 : -9223372036854775808 ≤ a) (ha1 : a ≤ 9223372036854775807) (hb0 : 0 ≤ b) (hb1 : b ≤ 9223372036854775807)
    (hc0 : -9223372036854775808 ≤ c) (hc1 : c ≤ 9223372036854775807) (hd0 : 0 ≤ d) (hd1 : d ≤ 9223372036854775807)
    (hp : a.natAbs * d.natAbs = p) (hq : c.natAbs * b.natAbs = q) (hn : cmpN p q = n) :
    Calls Tryz.prog 64 #[.agg #[.int .i64 a, .int .i64 b], .agg #[.int .i64 c, .int .i64 d]] w fun e w' => e = .returned (.int .i64 (if s = true then -n else n)) ∧ Below w.heap.size w w' := by
  have n0 : -1 ≤ n := by rw [← hn]; exact (cmpN_range p q).1
  have n1 : n ≤ 1 := by rw [← hn]; exact (cmpN_range p q).2
  have eb : IntKind.u64.wrap b = (b.natAbs : Int) := by rw [U64.wrap_u64]; omega
  have ed : IntKind.u64.wrap d = (d.natAbs : Int) := by rw [U64.wrap_u64]; omega
  have m1 : ∀ w, Calls Tryz.prog 85 #[.int .u64 (a.natAbs : Int), .int .u64 (d.natAbs : Int)] w fun e w' => e = .returned (.agg #[.int .u64 (hiN p), .int .u64 (loN p)]) ∧ Below w.heap.size w w' := fun w => by rw [← hp]; exact mul_any _ _ (by omega) (by omega) w
  have m2 : ∀ w, Calls Tryz.prog 85 #[.int .u64 (c.natAbs : Int), .int .u64 (b.natAbs : Int)] w fun e w' => e = .returned (.agg #[.int .u64 (hiN q), .int .u64 (loN q)]) ∧ Below w.heap.size w w' := fun w => by rw [← hq]; exact mul_any _ _ (by omega) (by omega) w
  have m3 : ∀ w, Calls Tryz.prog 86 #[.agg #[.int .u64 (hiN p), .int .u64 (loN p)], .agg #[.int .u64 (hiN q), .int .u64 (loN q)]] w fun e w' => e = .returned (.int .i64 n) ∧ Below w.heap.size w w' := fun w => by rw [← hn]; exact cmp_any p q w
  have s1 : ∀ w, Calls Tryz.prog 73 #[.int .i64 a] w fun e w' => e = .returned (.int .u64 (a.natAbs : Int)) ∧ Drawn0 w w' := size_any a (by omega) (by omega)
  have s2 : ∀ w, Calls Tryz.prog 73 #[.int .i64 c] w fun e w' => e = .returned (.int .u64 (c.natAbs : Int)) ∧ Drawn0 w w' := size_any c (by omega) (by omega)
  have M1 := Lib.hid m1
  have M2 := Lib.hid m2
  have M3 := Lib.hid m3
  have S1 := Lib.hid s1
  have S2 := Lib.hid s2
  clear m1 m2 m3 s1 s2 hp hq hn
  go_enter Tryz.func64, Tryz.ntmps64
  cases s
  all_goals
    go_wp2
    obtain ⟨W, hW⟩ : ∃ W_, W_ = (w.alloc (.cells #[.int .i64 a, .int .i64 b] 30)).alloc (.cells #[.int .i64 c, .int .i64 d] 30) := ⟨_, rfl⟩
    rw [← hW]
    have h_A : W.heap[w.heap.size]? = some (.cells #[.int .i64 a, .int .i64 b] 30 (0, 0)) := by
      rw [hW]
      first | (simp (disch := first | with_reducible assumption | (with_reducible first | exact Nat.ne_of_lt (by assumption) | exact Nat.ne_of_gt (by assumption) | exact Ne.symm (by assumption)) | ((fail_if_success (refine Hand.trip (by with_reducible rfl) ?_)); first | omega | (simp only [Hand.sa, Hand.ss, Hand.sd, Hand.sn]; first | done | with_reducible assumption | omega))) only [Hand.q2, Hand.q1, Hand.q5, Hand.q6, Hand.q4, Hand.q3]; done) | (simp (disch := first | with_reducible assumption | (with_reducible first | exact Nat.ne_of_lt (by assumption) | exact Nat.ne_of_gt (by assumption) | exact Ne.symm (by assumption)) | ((fail_if_success (refine Hand.trip (by with_reducible rfl) ?_)); first | omega | (simp only [Hand.sa, Hand.ss, Hand.sd, Hand.sn]; first | done | with_reducible assumption | omega))) only [Hand.q2, Hand.q1, Hand.q5, Hand.q6, Hand.q4, Hand.q3]; rfl)
    have h_B : W.heap[w.heap.size + 1]? = some (.cells #[.int .i64 c, .int .i64 d] 30 (0, 0)) := by
      rw [hW]
      first | (simp (disch := first | with_reducible assumption | (with_reducible first | exact Nat.ne_of_lt (by assumption) | exact Nat.ne_of_gt (by assumption) | exact Ne.symm (by assumption)) | ((fail_if_success (refine Hand.trip (by with_reducible rfl) ?_)); first | omega | (simp only [Hand.sa, Hand.ss, Hand.sd, Hand.sn]; first | done | with_reducible assumption | omega))) only [Hand.q2, Hand.q1, Hand.q5, Hand.q6, Hand.q4, Hand.q3]; done) | (simp (disch := first | with_reducible assumption | (with_reducible first | exact Nat.ne_of_lt (by assumption) | exact Nat.ne_of_gt (by assumption) | exact Ne.symm (by assumption)) | ((fail_if_success (refine Hand.trip (by with_reducible rfl) ?_)); first | omega | (simp only [Hand.sa, Hand.ss, Hand.sd, Hand.sn]; first | done | with_reducible assumption | omega))) only [Hand.q2, Hand.q1, Hand.q5, Hand.q6, Hand.q4, Hand.q3]; rfl)
    have hB' : Below w.heap.size w W := by
      rw [hW]
      repeat (first | exact Below.refl _ _ | (with_reducible first | apply Below.drew | apply pw_below_drewN | refine Below.setCell ?_ (by dsimp only; omega) _ | refine Below.alloc ?_ (by first | omega | (simp only [Hand.sa, Hand.ss, Hand.sd, Hand.sn]; omega)) _))
    clear hW
    have g_A := h_A
    have g_B := h_B
    have hB := hB'
    clear hB' h_A h_B
    obtain ⟨z_A, z1_A, z2_A, y0_A, y1_A⟩ := Hand.hz g_A
    obtain ⟨c_A_0, f_A_0, c_A_1, f_A_1⟩ := Hand.hc2 g_A
    obtain ⟨z_B, z1_B, z2_B, y0_B, y1_B⟩ := Hand.hz g_B
    obtain ⟨c_B_0, f_B_0, c_B_1, f_B_1⟩ := Hand.hc2 g_B
    have zw : w.heap.size ≤ W.heap.size := hB.size
    have HG := Lib.hid (And.intro g_A (And.intro g_B (hB)))
    clear g_A g_B hB
    have HBW := Lib.hid (HG.out.2.2)
    have HK := Lib.hid (And.intro c_A_0 (And.intro c_A_1 (And.intro c_B_0 (c_B_1))))
    have BD : Below W.heap.size W W.drew := Below.drew (Below.refl _ _)
    have BR : Below W.heap.size W W := Below.refl _ _
    go_region_held3 (fun w_ => Below w.heap.size w w_ ∧ w_.cell? ⟨w.heap.size, 0, none⟩ = some (.int .i64 a) ∧ w_.cell? ⟨w.heap.size, 1, none⟩ = some (.int .i64 b) ∧ w_.cell? ⟨w.heap.size + 1, 0, none⟩ = some (.int .i64 c) ∧ w_.cell? ⟨w.heap.size + 1, 1, none⟩ = some (.int .i64 d)) (first | with_reducible (refine ⟨?_, (Below.cell BR (p := ⟨w.heap.size, 0, none⟩) z_A).trans (HK.out.1), (Below.cell BR (p := ⟨w.heap.size, 1, none⟩) z_A).trans (HK.out.2.1), (Below.cell BR (p := ⟨w.heap.size + 1, 0, none⟩) z_B).trans (HK.out.2.2.1), (Below.cell BR (p := ⟨w.heap.size + 1, 1, none⟩) z_B).trans (HK.out.2.2.2)⟩; apply (HBW.out.trans (Below.mono BR zw))) | with_reducible (refine ⟨?_, (Below.cell BD (p := ⟨w.heap.size, 0, none⟩) z_A).trans (HK.out.1), (Below.cell BD (p := ⟨w.heap.size, 1, none⟩) z_A).trans (HK.out.2.1), (Below.cell BD (p := ⟨w.heap.size + 1, 0, none⟩) z_B).trans (HK.out.2.2.1), (Below.cell BD (p := ⟨w.heap.size + 1, 1, none⟩) z_B).trans (HK.out.2.2.2)⟩; apply (HBW.out.trans (Below.mono BD zw))) | with_reducible (refine ⟨?_, (Below.cell BB (p := ⟨w.heap.size, 0, none⟩) z_A).trans (HK.out.1), (Below.cell BB (p := ⟨w.heap.size, 1, none⟩) z_A).trans (HK.out.2.1), (Below.cell BB (p := ⟨w.heap.size + 1, 0, none⟩) z_B).trans (HK.out.2.2.1), (Below.cell BB (p := ⟨w.heap.size + 1, 1, none⟩) z_B).trans (HK.out.2.2.2)⟩; apply (HBW.out.trans (Below.mono BB zw))) | (refine ⟨?_, ?_, ?_, ?_, ?_⟩; (focus (repeat (with_reducible first | apply (HBW.out.trans (Below.mono BB zw)) | apply Below.drew | (apply Below.setCell; rotate_left; (dsimp only; omega)) | (apply Below.alloc; rotate_left; (first | omega | (simp only [Hand.sa, Hand.ss, Hand.sd, Hand.sn]; omega)))))); (repeat (with_reducible first | exact (Below.cell BB (p := ⟨w.heap.size, 0, none⟩) z_A).trans (HK.out.1) | refine Hand.cell_alloc ?_ | refine Hand.cell_drew ?_ | refine Hand.cell_far (by omega) ?_)); (repeat (with_reducible first | exact (Below.cell BB (p := ⟨w.heap.size, 1, none⟩) z_A).trans (HK.out.2.1) | refine Hand.cell_alloc ?_ | refine Hand.cell_drew ?_ | refine Hand.cell_far (by omega) ?_)); (repeat (with_reducible first | exact (Below.cell BB (p := ⟨w.heap.size + 1, 0, none⟩) z_B).trans (HK.out.2.2.1) | refine Hand.cell_alloc ?_ | refine Hand.cell_drew ?_ | refine Hand.cell_far (by omega) ?_)); (repeat (with_reducible first | exact (Below.cell BB (p := ⟨w.heap.size + 1, 1, none⟩) z_B).trans (HK.out.2.2.2) | refine Hand.cell_alloc ?_ | refine Hand.cell_drew ?_ | refine Hand.cell_far (by omega) ?_)))) (first | (go_at_call 73; ((with_reducible refine (S1.out _).mono ?_); rintro e w2 ⟨rfl, hb_⟩; have BB : Below W.heap.size W w2 := Hand.stepB hb_.below (by assumption) (Nat.le_refl _); have zB_w2 := Below.size BB; clear hb_)) | (go_at_call 73; ((with_reducible refine (S2.out _).mono ?_); rintro e w3 ⟨rfl, hb_⟩; have BB : Below W.heap.size W w3 := Hand.stepB hb_.below (by assumption) (Nat.le_refl _); have zB_w3 := Below.size BB; clear hb_)) | (go_at_call 85; ((with_reducible refine (M1.out _).mono ?_); rintro e w4 ⟨rfl, hb_⟩; have BB : Below W.heap.size W w4 := Hand.stepB hb_ (by assumption) (Nat.le_refl _); have zB_w4 := Below.size BB; clear hb_)) | (go_at_call 85; ((with_reducible refine (M2.out _).mono ?_); rintro e w5 ⟨rfl, hb_⟩; have BB : Below W.heap.size W w5 := Hand.stepB hb_ (by assumption) (Nat.le_refl _); have zB_w5 := Below.size BB; clear hb_)) | (go_at_call 86; ((with_reducible refine (M3.out _).mono ?_); rintro e w6 ⟨rfl, hb_⟩; have BB : Below W.heap.size W w6 := Hand.stepB hb_ (by assumption) (Nat.le_refl _); have zB_w6 := Below.size BB; clear hb_)))
    have k0 : w6.cell? ⟨w.heap.size, 0, none⟩ = some (.int .i64 a) := (Below.cell BB (p := ⟨w.heap.size, 0, none⟩) z_A).trans c_A_0
    go_wp2
    obtain ⟨g_A, g_B, hB⟩ := HG.out
    go_ret
    exact ⟨by rfl, hB.trans (Below.mono BB zw)⟩
theorem cmpR_any (a b c d : Int) (w : World) 
    (ha0 : -9223372036854775808 ≤ a) (ha1 : a ≤ 9223372036854775807) (hb0 : 0 ≤ b) (hb1 : b ≤ 9223372036854775807)
    (hc0 : -9223372036854775808 ≤ c) (hc1 : c ≤ 9223372036854775807) (hd0 : 0 ≤ d) (hd1 : d ≤ 9223372036854775807) :
    Calls Tryz.prog 64 #[.agg #[.int .i64 a, .int .i64 b], .agg #[.int .i64 c, .int .i64 d]] w fun e w' => e = .returned (.int .i64 (cmpS a b c d)) ∧ Below w.heap.size w w' := by
  unfold cmpS
  by_cases h : (decide (a < 0) == decide (c < 0)) = true
  · rw [if_pos h]
    have := cmpR_same a b c d _ _ _ (decide (a < 0)) w rfl (by rw [beq_iff_eq] at h; exact h.symm) ha0 ha1 hb0 hb1 hc0 hc1 hd0 hd1 rfl rfl rfl
    simp only [decide_eq_true_eq] at this
    exact this
  · rw [if_neg h]
    have h' : (decide (a < 0) == decide (c < 0)) = false := by simpa using h
    by_cases h2 : a < 0
    · rw [if_pos h2]; exact cmpR_neg a b c d w h' (decide_eq_true h2)
    · rw [if_neg h2]; exact cmpR_pos a b c d w h' (decide_eq_false h2)
/-- is a / b a time? 0, 12 or 31 -/
def timeS (a b : Int) : Int := if rightS a b = true ∧ b ≤ 1048576 then (if 0 ≤ a ∧ cmpS a b 360000 1 ≤ 0 then 0 else 31) else 12
set_option maxHeartbeats 800000 in
set_option maxRecDepth 100000 in
theorem time_bad (a b : Int) (w : World) (m1 : ∀ w, Calls Tryz.prog 63 #[.agg #[.int .i64 a, .int .i64 b]] w fun e w' => e = .returned (.bool false) ∧ Below w.heap.size w w') :
    Calls Tryz.prog 35 #[.agg #[.int .i64 a, .int .i64 b]] w fun e w' => e = .returned (.int .i64 12) ∧ Below w.heap.size w w' := by
  have M1 := Lib.hid m1
  clear m1
  go_enter Tryz.func35, Tryz.ntmps35
  go_wp2_with fail
  with_reducible refine (M1.out _).mono ?_
  rintro e w1 ⟨rfl, hb1⟩
  have h_A : w1.heap[w.heap.size]? = some (.cells #[.int .i64 a, .int .i64 b] 30 (0, 0)) := by
    refine Hand.kb hb1 ?_; simp (disch := first | omega | (simp only [Hand.sa, Hand.ss, Hand.sd, Hand.sn]; first | done | omega)) only [Hand.q2, Hand.q1, Hand.q5, Hand.q6, Hand.q4, Hand.q3] <;> rfl
  have hB' : Below w.heap.size w w1 := Hand.stepB hb1 (by repeat (with_reducible first | apply Below.refl _ _ | apply Below.drew | apply pw_below_drewN | (apply Below.setCell; rotate_left; (dsimp only; omega)) | (apply Below.alloc; rotate_left; (first | omega | (simp only [Hand.sa, Hand.ss, Hand.sd, Hand.sn]; omega))))) (Nat.le_refl _)
  clear hb1
  have g_A := h_A
  have hB := hB'
  clear hB' h_A
  obtain ⟨z_A, z1_A, z2_A, y0_A, y1_A⟩ := Hand.hz g_A
  obtain ⟨c_A_0, f_A_0, c_A_1, f_A_1⟩ := Hand.hc2 g_A
  have zw : w.heap.size ≤ w1.heap.size := hB.size
  have HG := Lib.hid (And.intro g_A (hB))
  clear g_A hB
  go_wp2
  go_ret
  obtain ⟨g_A, hB⟩ := HG.out
  exact ⟨rfl, hB⟩
set_option maxHeartbeats 800000 in
set_option maxRecDepth 100000 in
theorem time_grid (a b : Int) (w : World) (h1 : decide (b > 1048576) = true) (m1 : ∀ w, Calls Tryz.prog 63 #[.agg #[.int .i64 a, .int .i64 b]] w fun e w' => e = .returned (.bool true) ∧ Below w.heap.size w w') :
    Calls Tryz.prog 35 #[.agg #[.int .i64 a, .int .i64 b]] w fun e w' => e = .returned (.int .i64 12) ∧ Below w.heap.size w w' := by
  have M1 := Lib.hid m1
  clear m1
  go_enter Tryz.func35, Tryz.ntmps35
  go_wp2_with fail
  with_reducible refine (M1.out _).mono ?_
  rintro e w1 ⟨rfl, hb1⟩
  have h_A : w1.heap[w.heap.size]? = some (.cells #[.int .i64 a, .int .i64 b] 30 (0, 0)) := by
    refine Hand.kb hb1 ?_; simp (disch := first | omega | (simp only [Hand.sa, Hand.ss, Hand.sd, Hand.sn]; first | done | omega)) only [Hand.q2, Hand.q1, Hand.q5, Hand.q6, Hand.q4, Hand.q3] <;> rfl
  have hB' : Below w.heap.size w w1 := Hand.stepB hb1 (by repeat (with_reducible first | apply Below.refl _ _ | apply Below.drew | apply pw_below_drewN | (apply Below.setCell; rotate_left; (dsimp only; omega)) | (apply Below.alloc; rotate_left; (first | omega | (simp only [Hand.sa, Hand.ss, Hand.sd, Hand.sn]; omega))))) (Nat.le_refl _)
  clear hb1
  have g_A := h_A
  have hB := hB'
  clear hB' h_A
  obtain ⟨z_A, z1_A, z2_A, y0_A, y1_A⟩ := Hand.hz g_A
  obtain ⟨c_A_0, f_A_0, c_A_1, f_A_1⟩ := Hand.hc2 g_A
  have zw : w.heap.size ≤ w1.heap.size := hB.size
  have HG := Lib.hid (And.intro g_A (hB))
  clear g_A hB
  go_wp2
  go_ret
  obtain ⟨g_A, hB⟩ := HG.out
  exact ⟨rfl, hB⟩
set_option maxHeartbeats 800000 in
set_option maxRecDepth 100000 in
theorem time_neg (a b : Int) (w : World) (h1 : decide (b > 1048576) = false) (h2 : decide (a < 0) = true) (m1 : ∀ w, Calls Tryz.prog 63 #[.agg #[.int .i64 a, .int .i64 b]] w fun e w' => e = .returned (.bool true) ∧ Below w.heap.size w w') :
    Calls Tryz.prog 35 #[.agg #[.int .i64 a, .int .i64 b]] w fun e w' => e = .returned (.int .i64 31) ∧ Below w.heap.size w w' := by
  have M1 := Lib.hid m1
  clear m1
  go_enter Tryz.func35, Tryz.ntmps35
  go_wp2_with fail
  with_reducible refine (M1.out _).mono ?_
  rintro e w1 ⟨rfl, hb1⟩
  have h_A : w1.heap[w.heap.size]? = some (.cells #[.int .i64 a, .int .i64 b] 30 (0, 0)) := by
    refine Hand.kb hb1 ?_; simp (disch := first | omega | (simp only [Hand.sa, Hand.ss, Hand.sd, Hand.sn]; first | done | omega)) only [Hand.q2, Hand.q1, Hand.q5, Hand.q6, Hand.q4, Hand.q3] <;> rfl
  have hB' : Below w.heap.size w w1 := Hand.stepB hb1 (by repeat (with_reducible first | apply Below.refl _ _ | apply Below.drew | apply pw_below_drewN | (apply Below.setCell; rotate_left; (dsimp only; omega)) | (apply Below.alloc; rotate_left; (first | omega | (simp only [Hand.sa, Hand.ss, Hand.sd, Hand.sn]; omega))))) (Nat.le_refl _)
  clear hb1
  have g_A := h_A
  have hB := hB'
  clear hB' h_A
  obtain ⟨z_A, z1_A, z2_A, y0_A, y1_A⟩ := Hand.hz g_A
  obtain ⟨c_A_0, f_A_0, c_A_1, f_A_1⟩ := Hand.hc2 g_A
  have zw : w.heap.size ≤ w1.heap.size := hB.size
  have HG := Lib.hid (And.intro g_A (hB))
  clear g_A hB
  go_wp2
  go_ret
  obtain ⟨g_A, hB⟩ := HG.out
  exact ⟨rfl, hB⟩
set_option maxHeartbeats 800000 in
set_option maxRecDepth 100000 in
theorem time_far (a b c : Int) (w : World) (h1 : decide (b > 1048576) = false) (h2 : decide (a < 0) = false) (h3 : decide (c > 0) = true) (m1 : ∀ w, Calls Tryz.prog 63 #[.agg #[.int .i64 a, .int .i64 b]] w fun e w' => e = .returned (.bool true) ∧ Below w.heap.size w w')
    (m2 : ∀ w, Calls Tryz.prog 64 #[.agg #[.int .i64 a, .int .i64 b], .agg #[.int .i64 360000, .int .i64 1]] w fun e w' => e = .returned (.int .i64 c) ∧ Below w.heap.size w w') :
    Calls Tryz.prog 35 #[.agg #[.int .i64 a, .int .i64 b]] w fun e w' => e = .returned (.int .i64 31) ∧ Below w.heap.size w w' := by
  have M1 := Lib.hid m1
  have M2 := Lib.hid m2
  clear m1 m2
  go_enter Tryz.func35, Tryz.ntmps35
  go_wp2_with fail
  with_reducible refine (M1.out _).mono ?_
  rintro e w1 ⟨rfl, hb1⟩
  have h_A : w1.heap[w.heap.size]? = some (.cells #[.int .i64 a, .int .i64 b] 30 (0, 0)) := by
    refine Hand.kb hb1 ?_; simp (disch := first | omega | (simp only [Hand.sa, Hand.ss, Hand.sd, Hand.sn]; first | done | omega)) only [Hand.q2, Hand.q1, Hand.q5, Hand.q6, Hand.q4, Hand.q3] <;> rfl
  have hB' : Below w.heap.size w w1 := Hand.stepB hb1 (by repeat (with_reducible first | apply Below.refl _ _ | apply Below.drew | apply pw_below_drewN | (apply Below.setCell; rotate_left; (dsimp only; omega)) | (apply Below.alloc; rotate_left; (first | omega | (simp only [Hand.sa, Hand.ss, Hand.sd, Hand.sn]; omega))))) (Nat.le_refl _)
  clear hb1
  have g_A := h_A
  have hB := hB'
  clear hB' h_A
  obtain ⟨z_A, z1_A, z2_A, y0_A, y1_A⟩ := Hand.hz g_A
  obtain ⟨c_A_0, f_A_0, c_A_1, f_A_1⟩ := Hand.hc2 g_A
  have zw : w.heap.size ≤ w1.heap.size := hB.size
  have HG := Lib.hid (And.intro g_A (hB))
  clear g_A hB
  go_wp2_with fail
  with_reducible refine (M2.out _).mono ?_
  rintro e w2 ⟨rfl, hb2⟩
  obtain ⟨g_A, hB⟩ := HG.out
  have h_A : w2.heap[w.heap.size]? = some (.cells #[.int .i64 a, .int .i64 b] 30 (0, 0)) := by
    refine Hand.kb hb2 ?_; first | with_reducible exact g_A | (simp (disch := first | omega | (simp only [Hand.sa, Hand.ss, Hand.sd, Hand.sn]; first | done | omega)) only [Hand.q2, Hand.q1, Hand.q5, Hand.q6, Hand.q4, Hand.q3, g_A] <;> rfl)
  have hB' : Below w.heap.size w w2 := Hand.stepB hb2 (by repeat (with_reducible first | apply hB | apply Below.drew | apply pw_below_drewN | (apply Below.setCell; rotate_left; (dsimp only; omega)) | (apply Below.alloc; rotate_left; (first | omega | (simp only [Hand.sa, Hand.ss, Hand.sd, Hand.sn]; omega))))) (Nat.le_refl _)
  clear HG hB g_A zw z_A z1_A z2_A y0_A y1_A c_A_0 f_A_0 c_A_1 f_A_1
  clear hb2
  have g_A := h_A
  have hB := hB'
  clear hB' h_A
  obtain ⟨z_A, z1_A, z2_A, y0_A, y1_A⟩ := Hand.hz g_A
  obtain ⟨c_A_0, f_A_0, c_A_1, f_A_1⟩ := Hand.hc2 g_A
  have zw : w.heap.size ≤ w2.heap.size := hB.size
  have HG := Lib.hid (And.intro g_A (hB))
  clear g_A hB
  go_wp2
  go_ret
  obtain ⟨g_A, hB⟩ := HG.out
  exact ⟨rfl, hB⟩
set_option maxHeartbeats 800000 in
set_option maxRecDepth 100000 in
theorem time_ok (a b c : Int) (w : World) (h1 : decide (b > 1048576) = false) (h2 : decide (a < 0) = false) (h3 : decide (c > 0) = false) (m1 : ∀ w, Calls Tryz.prog 63 #[.agg #[.int .i64 a, .int .i64 b]] w fun e w' => e = .returned (.bool true) ∧ Below w.heap.size w w')
    (m2 : ∀ w, Calls Tryz.prog 64 #[.agg #[.int .i64 a, .int .i64 b], .agg #[.int .i64 360000, .int .i64 1]] w fun e w' => e = .returned (.int .i64 c) ∧ Below w.heap.size w w') :
    Calls Tryz.prog 35 #[.agg #[.int .i64 a, .int .i64 b]] w fun e w' => e = .returned (.int .i64 0) ∧ Below w.heap.size w w' := by
  have M1 := Lib.hid m1
  have M2 := Lib.hid m2
  clear m1 m2
  go_enter Tryz.func35, Tryz.ntmps35
  go_wp2_with fail
  with_reducible refine (M1.out _).mono ?_
  rintro e w1 ⟨rfl, hb1⟩
  have h_A : w1.heap[w.heap.size]? = some (.cells #[.int .i64 a, .int .i64 b] 30 (0, 0)) := by
    refine Hand.kb hb1 ?_; simp (disch := first | omega | (simp only [Hand.sa, Hand.ss, Hand.sd, Hand.sn]; first | done | omega)) only [Hand.q2, Hand.q1, Hand.q5, Hand.q6, Hand.q4, Hand.q3] <;> rfl
  have hB' : Below w.heap.size w w1 := Hand.stepB hb1 (by repeat (with_reducible first | apply Below.refl _ _ | apply Below.drew | apply pw_below_drewN | (apply Below.setCell; rotate_left; (dsimp only; omega)) | (apply Below.alloc; rotate_left; (first | omega | (simp only [Hand.sa, Hand.ss, Hand.sd, Hand.sn]; omega))))) (Nat.le_refl _)
  clear hb1
  have g_A := h_A
  have hB := hB'
  clear hB' h_A
  obtain ⟨z_A, z1_A, z2_A, y0_A, y1_A⟩ := Hand.hz g_A
  obtain ⟨c_A_0, f_A_0, c_A_1, f_A_1⟩ := Hand.hc2 g_A
  have zw : w.heap.size ≤ w1.heap.size := hB.size
  have HG := Lib.hid (And.intro g_A (hB))
  clear g_A hB
  go_wp2_with fail
  with_reducible refine (M2.out _).mono ?_
  rintro e w2 ⟨rfl, hb2⟩
  obtain ⟨g_A, hB⟩ := HG.out
  have h_A : w2.heap[w.heap.size]? = some (.cells #[.int .i64 a, .int .i64 b] 30 (0, 0)) := by
    refine Hand.kb hb2 ?_; first | with_reducible exact g_A | (simp (disch := first | omega | (simp only [Hand.sa, Hand.ss, Hand.sd, Hand.sn]; first | done | omega)) only [Hand.q2, Hand.q1, Hand.q5, Hand.q6, Hand.q4, Hand.q3, g_A] <;> rfl)
  have hB' : Below w.heap.size w w2 := Hand.stepB hb2 (by repeat (with_reducible first | apply hB | apply Below.drew | apply pw_below_drewN | (apply Below.setCell; rotate_left; (dsimp only; omega)) | (apply Below.alloc; rotate_left; (first | omega | (simp only [Hand.sa, Hand.ss, Hand.sd, Hand.sn]; omega))))) (Nat.le_refl _)
  clear HG hB g_A zw z_A z1_A z2_A y0_A y1_A c_A_0 f_A_0 c_A_1 f_A_1
  clear hb2
  have g_A := h_A
  have hB := hB'
  clear hB' h_A
  obtain ⟨z_A, z1_A, z2_A, y0_A, y1_A⟩ := Hand.hz g_A
  obtain ⟨c_A_0, f_A_0, c_A_1, f_A_1⟩ := Hand.hc2 g_A
  have zw : w.heap.size ≤ w2.heap.size := hB.size
  have HG := Lib.hid (And.intro g_A (hB))
  clear g_A hB
  go_wp2
  go_ret
  obtain ⟨g_A, hB⟩ := HG.out
  exact ⟨rfl, hB⟩
theorem time_any (a b : Int) (w : World) (ha0 : -9223372036854775808 ≤ a) (ha1 : a ≤ 9223372036854775807) (hb0 : -9223372036854775808 ≤ b) (hb1 : b ≤ 9223372036854775807) :
    Calls Tryz.prog 35 #[.agg #[.int .i64 a, .int .i64 b]] w fun e w' => e = .returned (.int .i64 (timeS a b)) ∧ Below w.heap.size w w' := by
  have m1 := fun w => right_any a b w ha0 ha1 hb0 hb1
  unfold timeS
  cases hr : rightS a b
  · rw [hr] at m1
    rw [if_neg (by simp)]; exact time_bad a b w m1
  · rw [hr] at m1
    have hb := right_bounds hr
    by_cases h1 : b ≤ 1048576
    · rw [if_pos ⟨rfl, h1⟩]
      have d1 : decide (b > 1048576) = false := by simpa using h1
      by_cases h2 : 0 ≤ a
      · have d2 : decide (a < 0) = false := by simpa using h2
        have m2 := fun w => cmpR_any a b 360000 1 w ha0 ha1 (by omega) hb1 (by omega) (by omega) (by omega) (by omega)
        by_cases h3 : cmpS a b 360000 1 ≤ 0
        · rw [if_pos ⟨h2, h3⟩]; exact time_ok a b _ w d1 d2 (by simpa using h3) m1 m2
        · rw [if_neg (fun h => h3 h.2)]; exact time_far a b _ w d1 d2 (by simpa using h3) m1 m2
      · rw [if_neg (fun h => h2 h.1)]; exact time_neg a b w d1 (by simpa using h2) m1
    · rw [if_neg (fun h => h1 h.2)]; exact time_grid a b w (by simpa using h1) m1
end Go.Proofs.YtghiibdhibcbaaaGreatDoor.PA
namespace Go.Proofs.YtghiibdhibcbaaaGreatDoor.PA
open Go Go.RowKit Go.Proofs.YtghiibdhibcbaaaGreatDoorW.PrintWords Go.Proofs.YtghiibdhibcbaaaGreatDoorW.PrintLast Go.Proofs.YtghiibdhibcbaaaGreatDoorW.PrintMore Go.Proofs.YtghiibdhibcbaaaGreatDoor.CS
set_option linter.unusedSimpArgs false
set_option linter.unusedVariables false
theorem eqA88 (d : Nat) (w : World) (x0 y0 : Int) (x1 y1 : Int) :
    (Op.equalIn (d + 2) 88 (.agg #[.int .i64 x0, .int .i64 x1]) (.agg #[.int .i64 y0, .int .i64 y1])).run Tryz.prog w = .ok (x0 == y0 && (x1 == y1)) w := by
  have hu : Tryz.prog.underlying 88 = some (.array 2 3) := by kernel_rfl
  have s3 : (sizeOf 3).run Tryz.prog w = .ok 1 w := by go_simp
  rw [Op.equalIn]
  simp only [Sem.run_bind, run_underlying hu, Result.andThen_ok, s3]
  simp [go_sem, List.range'_succ]
  by_cases h0 : x0 = y0 <;> by_cases h1 : x1 = y1 <;> simp [h0, h1]
attribute [local go_sem high] eqA88
/-- a rate as an argument -/
abbrev rate (n d : Int) (dr : Bool) : Value := .agg #[.int .i64 n, .int .i64 d, .bool dr]
def dropsS (n d : Int) : Int := if (n == 30000 && (d == 1001)) = true then 2 else if (n == 60000 && (d == 1001)) = true then 4 else 0
set_option maxHeartbeats 800000 in
set_option maxRecDepth 100000 in
theorem drops_any (n d : Int) (w : World) :
    Calls Tryz.prog 56 #[.agg #[.int .i64 n, .int .i64 d]] w fun e w' => e = .returned (.int .i64 (dropsS n d)) ∧ Below w.heap.size w w' := by
  unfold dropsS
  cases h1 : (n == 30000) <;> cases h2 : (n == 60000) <;> cases h3 : (d == 1001)
  all_goals
    simp only [Bool.false_and, Bool.and_false, Bool.true_and, Bool.and_true, if_true, Bool.false_eq_true, if_false]
    go_enter Tryz.func56, Tryz.ntmps56
    go_wp2
    go_ret
    exact ⟨rfl, (Below.refl _ _).alloc (Nat.le_refl _) _⟩
set_option maxHeartbeats 800000 in
set_option maxRecDepth 100000 in
theorem full_any (n d : Int) (dr : Bool) (h : Ok n d dr) (w : World) :
    Calls Tryz.prog 53 #[rate n d dr] w fun e w' => e = .returned (.int .i64 (full n d)) ∧ Below w.heap.size w w' := by
  obtain ⟨n1, n2, d1, d2, _, _, _, _⟩ := h
  have hd : ¬ d = 0 := by omega
  have hd' : (d == 0) = false := by simpa using hd
  unfold full
  go_enter Tryz.func53, Tryz.ntmps53
  go_wp2
  go_ret
  exact ⟨rfl, (Below.refl _ _).alloc (Nat.le_refl _) _⟩
set_option maxHeartbeats 800000 in
set_option maxRecDepth 100000 in
theorem colon_any (n d : Int) (dr : Bool) (w : World) :
    Calls Tryz.prog 54 #[rate n d dr] w fun e w' => e = .returned (.string (if dr = true then ⟨#[59]⟩ else ⟨#[58]⟩)) ∧ Below w.heap.size w w' := by
  cases dr
  all_goals
    go_enter Tryz.func54, Tryz.ntmps54
    go_wp2
    go_ret
    exact ⟨rfl, (Below.refl _ _).alloc (Nat.le_refl _) _⟩
set_option maxHeartbeats 800000 in
set_option maxRecDepth 100000 in
theorem within_any (n d fr : Int) (dr : Bool) (h : Ok n d dr) (w : World) :
    Calls Tryz.prog 51 #[rate n d dr, .int .i64 fr] w fun e w' => e = .returned (.bool (inF n d fr)) ∧ Below w.heap.size w w' := by
  obtain ⟨n1, n2, d1, d2, _, _, _, _⟩ := h
  have hd' : (d == 0) = false := by simp; omega
  have hd : ¬ d = 0 := by omega
  unfold inF last
  by_cases hf : 0 ≤ fr
  all_goals
    go_enter Tryz.func51, Tryz.ntmps51
    go_wp2
    go_ret
    exact ⟨by first | (rw [decide_eq_true hf]; rfl) | (rw [decide_eq_false (show ¬ 0 ≤ fr by omega)]; rfl), (Below.refl _ _).alloc (Nat.le_refl _) _⟩
end Go.Proofs.YtghiibdhibcbaaaGreatDoor.PA
namespace Go.Proofs.YtghiibdhibcbaaaGreatDoor.PA
open Go Go.RowKit Go.Proofs.YtghiibdhibcbaaaGreatDoorW.PrintWords Go.Proofs.YtghiibdhibcbaaaGreatDoorW.PrintLast Go.Proofs.YtghiibdhibcbaaaGreatDoorW.PrintMore Go.Proofs.YtghiibdhibcbaaaGreatDoor.CS
set_option linter.unusedSimpArgs false
set_option linter.unusedVariables false
set_option maxHeartbeats 800000 in
set_option maxRecDepth 100000 in
theorem check_out (n d : Int) (dr : Bool) (w : World) (h : n < 1 ∨ n > 240000 ∨ d < 1 ∨ d > 1001) :
    Calls Tryz.prog 45 #[rate n d dr] w fun e w' => e = .returned (.int .i64 14) ∧ Below w.heap.size w w' := by
  have hh := Lib.hid h
  clear h
  go_enter Tryz.func45, Tryz.ntmps45
  go_wp2
  all_goals first
    | (go_ret; exact ⟨rfl, (Below.refl _ _).alloc (Nat.le_refl _) _⟩)
    | (exfalso; have := hh.out; omega)
theorem checkS_eq {n d : Int} {dr : Bool} (a : Nat) (n1 : 1 ≤ n) (n2 : n ≤ 240000) (d1 : 1 ≤ d) (d2 : d ≤ 1001) (hg : Nat.gcd a 0 = Nat.gcd n.natAbs d.natAbs) :
    checkS n d dr = if a = 1 ∧ d ≤ n ∧ n ≤ 240 * d ∧ (dr = true → (dropsS n d == 0) = false) then 0 else 14 := by
  rw [Nat.gcd_zero_right] at hg
  unfold checkS
  have e : okR n d dr = true ↔ a = 1 ∧ d ≤ n ∧ n ≤ 240 * d ∧ (dr = true → (dropsS n d == 0) = false) := by
    rw [okR_iff]
    have hd : (dropsS n d == 0) = false ↔ d = 1001 ∧ (n = 30000 ∨ n = 60000) := by
      unfold dropsS
      by_cases h1 : n = 30000 <;> by_cases h2 : n = 60000 <;> by_cases h3 : d = 1001 <;> simp [h1, h2, h3] <;> omega
    rw [hd, hg]
    exact ⟨fun h => ⟨h.g, h.le, h.ge, h.dr⟩, fun ⟨a, b, c, e⟩ => ⟨n1, n2, d1, d2, a, b, c, e⟩⟩
  by_cases h : okR n d dr = true
  · rw [if_pos h, if_pos (e.mp h)]
  · rw [if_neg h, if_neg (fun x => h (e.mpr x))]
set_option maxHeartbeats 1600000 in
set_option maxRecDepth 100000 in
theorem check_in (n d : Int) (dr z : Bool) (w : World) (n1 : 1 ≤ n) (n2 : n ≤ 240000) (d1 : 1 ≤ d) (d2 : d ≤ 1001) (hz : (dropsS n d == 0) = z) :
    Calls Tryz.prog 45 #[rate n d dr] w fun e w' => e = .returned (.int .i64 (checkS n d dr)) ∧ Below w.heap.size w w' := by
  have hc := Lib.hid (fun (a : Nat) => checkS_eq (dr := dr) a n1 n2 d1 d2)
  have HZ := Lib.hid hz
  obtain ⟨q, hq⟩ : ∃ q, dropsS n d = q := ⟨_, rfl⟩
  have m1 := drops_any n d
  rw [hq] at hz m1
  have M1 := Lib.hid m1
  clear m1 hq
  obtain ⟨R, hR⟩ : ∃ R, checkS n d dr = R := ⟨_, rfl⟩
  rw [hR]
  have HR := Lib.hid hR
  clear hR
  cases dr <;> cases z
  all_goals
    go_enter Tryz.func45, Tryz.ntmps45
    go_wp2
    go_quiet (fail)
    go_wp2
    go_loopw [3, 4] (fun x y wr => ∃ a b k : Nat, x = .int .i64 a ∧ y = .int .i64 b ∧ Nat.gcd a b = Nat.gcd n.natAbs d.natAbs ∧ 1 ≤ a ∧ a ≤ 240000 ∧ b ≤ 240000 ∧ wr = (w.alloc (.cells #[.int .i64 n, .int .i64 d, .bool _] 23)).drewN k) (fun _ y _ => (intOf y).toNat)
    case atStart =>
      refine ⟨n.toNat, d.toNat, _, ?_, ?_, ?_, by omega, by omega, by omega, rfl⟩
      · rw [Int.toNat_of_nonneg (by omega)]
      · rw [Int.toNat_of_nonneg (by omega)]
      · congr 1 <;> omega
    case round =>
      obtain ⟨a, b, k, rfl, rfl, hg, a1, a2, b2, rfl⟩ := hrel
      have HG := Lib.hid hg
      clear hg
      by_cases hb : b = 0
      · subst hb
        go_wp2_with (go_at_call 56; (with_reducible refine (M1.out _).mono ?_); rintro e w1 ⟨rfl, hb1⟩)
        all_goals
          go_ret
          refine ⟨?_, ?_⟩
          · have h2 := hc.out a HG.out
            rw [HR.out, HZ.out] at h2
            rw [h2]
            first
              | (rw [if_pos ⟨by omega, by omega, by omega, by simp⟩]; rfl)
              | (rw [if_neg (fun hh => by obtain ⟨h3, h4, h5, h6⟩ := hh; first | omega | simp at h6)]; rfl)
          · first
              | exact Below.trans (pw_below_drewN ((Below.refl _ _).alloc (Nat.le_refl _) _) _) (hb1.mono (by simp))
              | exact pw_below_drewN ((Below.refl _ _).alloc (Nat.le_refl _) _) _
      · have hb1 : ((b : Int) == 0) = false := by simp; omega
        have hb2 : ((b : Int) != 0) = true := by simp; omega
        go_wp2
        go_quiet (fail)
        go_wp2
        go_roundw
        case rel =>
          refine ⟨b, a % b, _, rfl, by first | rfl | go_num, ?_, by omega, b2, ?_, World.drewN_drewN _ _ _⟩
          · rw [← HG.out, Nat.gcd_comm b, Nat.gcd_comm a b, ← Nat.gcd_rec]
          · have := Nat.mod_lt a (show b > 0 by omega); omega
        case measure =>
          have := Nat.mod_lt a (show b > 0 by omega)
          simp [intOf]; omega
theorem check_any (n d : Int) (dr : Bool) (w : World) :
    Calls Tryz.prog 45 #[rate n d dr] w fun e w' => e = .returned (.int .i64 (checkS n d dr)) ∧ Below w.heap.size w w' := by
  by_cases h : n < 1 ∨ n > 240000 ∨ d < 1 ∨ d > 1001
  · have e : checkS n d dr = 14 := by
      unfold checkS
      rw [if_neg (fun hh => by have := okR_iff.mp hh; obtain ⟨_, _, _, _, _, _, _, _⟩ := this; omega)]
    rw [e]; exact check_out n d dr w h
  · exact check_in n d dr _ w (by omega) (by omega) (by omega) (by omega) rfl
end Go.Proofs.YtghiibdhibcbaaaGreatDoor.PA
