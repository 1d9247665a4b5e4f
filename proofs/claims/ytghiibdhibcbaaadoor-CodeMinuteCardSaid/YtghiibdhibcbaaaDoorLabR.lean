/- Reading a label that was written. -/
import Derived.Test.YtghiibdhibcbaaaDoorLabP
import Derived.Test.YtghiibdhibcbaaaDoorDigT
namespace Go.Proofs.YtghiibdhibcbaaaDoor.PA
open Go Go.Proofs.YtghiibdhibcbaaaDoor.CS
set_option linter.unusedSimpArgs false
set_option linter.unusedVariables false
theorem isD_dg (n : Nat) : isD (dg n) = true := by unfold isD; rw [dg_nat]; simp; omega
theorem vg1 (c : UInt8) (l : List UInt8) (v : Int) : List.foldl (fun v (c : UInt8) => 10 * v + ((c.toNat : Int) - 48) % 256) v (c :: l) = List.foldl (fun v (c : UInt8) => 10 * v + ((c.toNat : Int) - 48) % 256) (10 * v + ((c.toNat : Int) - 48) % 256) l := rfl
/-- digits, as a reader takes them -/
structure Digs (l : List UInt8) (k : Nat) (v : Int) : Prop where
  len : l.length = k
  no : noD l = false
  val : vg l = v
theorem digs2 {n : Int} (h0 : 0 ≤ n) (h1 : n < 100) : Digs (digL n 2) 2 n := by
  rw [digL2 h0 h1]
  refine ⟨rfl, by simp [noD, isD_dg], ?_⟩
  show 10 * (10 * 0 + (((dg (n.toNat / 10)).toNat : Int) - 48) % 256) + (((dg n.toNat).toNat : Int) - 48) % 256 = n
  rw [dg_nat, dg_nat]; omega
theorem digs3 {n : Int} (h0 : 0 ≤ n) (h1 : n < 1000) : Digs (digL n 3) 3 n := by
  rw [digL3 h0 h1]
  refine ⟨rfl, by simp [noD, isD_dg], ?_⟩
  show 10 * (10 * (10 * 0 + (((dg (n.toNat / 100)).toNat : Int) - 48) % 256) + (((dg (n.toNat / 10)).toNat : Int) - 48) % 256) + (((dg n.toNat).toNat : Int) - 48) % 256 = n
  rw [dg_nat, dg_nat, dg_nat]; omega
theorem digs1 {n : Int} (h0 : 0 ≤ n) (h1 : n < 10) : Digs (digL n 1) 1 n := by
  rw [digL1 h0 h1]
  refine ⟨rfl, by simp [noD, isD_dg], ?_⟩
  show 10 * 0 + (((dg n.toNat).toNat : Int) - 48) % 256 = n
  rw [dg_nat]; omega
theorem digs_eq {n : Int} {a b : Nat} (h : digL n a = digL n b) {k : Nat} {v : Int} (d : Digs (digL n a) k v) : Digs (digL n b) k v := by rw [← h]; exact d
/-- hours in two digits, or in three -/
theorem digsH {n : Int} (h0 : 0 ≤ n) (h1 : n < 1000) : ∃ k, (k = 2 ∨ k = 3 ∧ (digL n 2).head? ≠ some 48) ∧ Digs (digL n 2) k n := by
  by_cases h : n < 100
  · exact ⟨2, .inl rfl, digs2 h0 h⟩
  · have e : digL n 3 = digL n 2 := by rw [digL3 h0 h1, digL23 (by omega) h1]
    refine ⟨3, .inr ⟨rfl, ?_⟩, digs_eq e (digs3 h0 h1)⟩
    rw [digL23 (by omega) h1]
    simp only [List.head?_cons, ne_eq, Option.some.injEq]
    intro e
    have := congrArg UInt8.toNat e
    rw [dg_nat] at this
    have h48 : (48 : UInt8).toNat = 48 := rfl
    omega
theorem digO_app {l r : List UInt8} {k : Nat} {v : Int} (d : Digs l k v) : digO k (l ++ r) = some (v, r) := by
  obtain ⟨h1, h2, h3⟩ := d
  unfold digO
  rw [← h1, List.take_left, List.drop_left, if_pos ⟨by simp, h2⟩, h3]
theorem belO_app {l r : List UInt8} {k : Nat} {v most : Int} (d : Digs l k v) (h : v < most) : belO k most (l ++ r) = some (v, r) := by
  unfold belO
  rw [digO_app d, Option.bind_some, if_pos h]
theorem byteO_app (c : UInt8) (r : List UInt8) : byteO c (c :: r) = some r := by unfold byteO; simp
theorem noD_not {l : List UInt8} (h : noD l = false) {c : UInt8} (hc : isD c = false) : c ∉ l := by
  intro hm
  unfold noD at h
  rw [List.any_eq_false] at h
  have := h c hm
  rw [hc] at this
  exact this rfl
theorem hcO_app {l r : List UInt8} {k least : Nat} {v : Int} (d : Digs l k v) (k1 : least ≤ k) (k3 : k ≤ 3) (hh : k > least → l.head? ≠ some 48) (l1 : 1 ≤ least) : hcO least (l ++ 58 :: r) = some (v, r) := by
  obtain ⟨h1, h2, h3⟩ := d
  have hi : Lib.indexByte (l ++ 58 :: r) 58 = (k : Int) := by rw [ParD.index_at _ _ _ (noD_not h2 (by decide)), h1]
  unfold hcO
  rw [hi, Int.toNat_natCast]
  have e1 : (l ++ 58 :: r).take k = l := by rw [← h1, List.take_left]
  have e2 : (l ++ 58 :: r).drop (k + 1) = r := by
    rw [← h1, show l.length + 1 = (l ++ [58]).length by simp, show l ++ 58 :: r = (l ++ [58]) ++ r by simp, List.drop_left]
  have e3 : (l ++ 58 :: r).head? = l.head? := by
    cases l with
    | nil => simp at h1; omega
    | cons a l => rfl
  rw [e1, e2, e3, if_pos ⟨by omega, by omega, fun h => hh (by omega), h2⟩, h3]
/-- a label is read as it was written -/
theorem labO_labT {dr : Bool} {f h m s k : Int} (h0 : 0 ≤ h) (h1 : h ≤ 999) (m0 : 0 ≤ m) (m1 : m < 60) (s0 : 0 ≤ s) (s1 : s < 60) (k0 : 0 ≤ k) (k1 : k < f) (f1 : f ≤ 1000) :
    labO dr f (labT dr h m s k (wide f)) = some (h, m, s, k) := by
  obtain ⟨j, hj, dh⟩ := digsH h0 (by omega)
  have dk : Digs (digL k (wide f)) (wide f) k := by
    unfold wide
    by_cases hw : f > 100
    · rw [if_pos hw]; exact digs3 k0 (by omega)
    · rw [if_neg hw]; exact digs2 k0 (by omega)
  unfold labO labT
  rw [hcO_app dh (by omega) (by omega) (fun hk => by rcases hj with rfl | ⟨_, h⟩; exact absurd hk (by decide); exact h) (by decide)]
  simp only [Option.bind_some]
  rw [belO_app (digs2 m0 (by omega)) m1]
  simp only [Option.bind_some]
  rw [byteO_app]
  simp only [Option.bind_some]
  rw [belO_app (digs2 s0 (by omega)) s1]
  simp only [Option.bind_some]
  rw [byteO_app]
  simp only [Option.bind_some]
  have e := belO_app (r := []) dk k1
  rw [List.append_nil] at e
  rw [e]
  rfl
/-- the minute and the rest are there -/
theorem step_ex {F D r0 : Int} {q : Nat → Int} (h0 : q 0 = 60 * F) (hq : ∀ m, 1 ≤ m → m ≤ 9 → q m = 60 * F - D) (hr : r0 < 600 * F - 9 * D) (hp : 0 < 60 * F - D) (hF : 0 < F) (r00 : 0 ≤ r0) : ∃ m r, stepP q r0 m r ∧ r < q m := by
  have go : ∀ (N : Nat) (m : Nat) (r : Int), r.toNat ≤ N → stepP q r0 m r → ∃ m r, stepP q r0 m r ∧ r < q m := by
    intro N
    induction N with
    | zero =>
      intro m r hN h
      refine ⟨m, r, h, ?_⟩
      have := h.2.2
      rcases Nat.eq_zero_or_pos m with rfl | hm
      · rw [h0]; omega
      · rw [hq m hm h.1]; omega
    | succ N ih =>
      intro m r hN h
      by_cases hl : r < q m
      · exact ⟨m, r, h, hl⟩
      · have hpos : 0 < q m := by
          rcases Nat.eq_zero_or_pos m with rfl | hm
          · rw [h0]; omega
          · rw [hq m hm h.1]; exact hp
        exact ih (m + 1) (r - q m) (by omega) (stepP_next h0 hq hr h (by omega))
  exact go r0.toNat 0 r0 (Nat.le_refl _) ⟨by decide, by show (0 : Int) + r0 = r0; omega, r00⟩
/-- a frame's number, and back: minutes M, the rest K -/
theorem num_read {n d fr : Int} {dr : Bool} (o : Ok n d dr) (h0 : 0 ≤ fr) : ∃ M K, num n d dr fr = 60 * full n d * M + K ∧ 0 ≤ K ∧ K < 60 * full n d ∧ 0 ≤ M ∧ fr = num n d dr fr - drop n d dr * (M - M / 10) ∧ (M % 10 ≠ 0 → drop n d dr ≤ K) := by
  obtain ⟨f0, f1⟩ := full_le o
  obtain ⟨D0, D1⟩ := @drop_le n d dr
  have q0 : (fun m : Nat => 60 * full n d - outS n d dr (m : Int)) 0 = 60 * full n d := by
    show 60 * full n d - outS n d dr 0 = _
    rw [outS_0]; omega
  have qp : ∀ m : Nat, 1 ≤ m → m ≤ 9 → (fun m : Nat => 60 * full n d - outS n d dr (m : Int)) m = 60 * full n d - drop n d dr := fun m a b => by
    show 60 * full n d - outS n d dr (m : Int) = _
    rw [outS_p n d dr a b]
  have r0 : 0 ≤ fr % (600 * full n d - 9 * drop n d dr) := Int.emod_nonneg _ (by omega)
  have r1 : fr % (600 * full n d - 9 * drop n d dr) < 600 * full n d - 9 * drop n d dr := Int.emod_lt_of_pos _ (by omega)
  have t0 : 0 ≤ fr / (600 * full n d - 9 * drop n d dr) := Int.ediv_nonneg h0 (by omega)
  obtain ⟨m, r, hs, hl⟩ := step_ex q0 qp r1 (by omega) (by omega) r0
  obtain ⟨e1, e2, e3⟩ := num_parts (fr := fr) o (q := fun m : Nat => 60 * full n d - outS n d dr (m : Int)) (fun m => rfl) hs hl
  obtain ⟨s1, s2, s3⟩ := hs
  have e0 : (600 * full n d - 9 * drop n d dr) * (fr / (600 * full n d - 9 * drop n d dr)) + fr % (600 * full n d - 9 * drop n d dr) = fr := Int.mul_ediv_add_emod _ _
  refine ⟨_, _, e1, e2, e3, by omega, ?_, ?_⟩
  · obtain ⟨F, hF⟩ : ∃ F, full n d = F := ⟨_, rfl⟩
    obtain ⟨D, hD⟩ : ∃ D, drop n d dr = D := ⟨_, rfl⟩
    rw [hF] at f0 f1 q0 qp s2 e0 e1 r0 r1 t0 ⊢
    rw [hD] at D0 D1 qp s2 e0 e1 r0 r1 t0 ⊢
    obtain ⟨T, hT⟩ : ∃ T, fr / (600 * F - 9 * D) = T := ⟨_, rfl⟩
    obtain ⟨R, hR⟩ : ∃ R, fr % (600 * F - 9 * D) = R := ⟨_, rfl⟩
    rw [hT] at e0 e1 t0 ⊢
    rw [hR] at e0 s2
    rw [e1]
    have em : ((m : Int) + 10 * T) - ((m : Int) + 10 * T) / 10 = m + 9 * T := by omega
    rw [em]
    have g1 : (600 * F - 9 * D) * T = 600 * (F * T) - 9 * (D * T) := by grind
    have g2 : 60 * F * ((m : Int) + 10 * T) = 60 * (F * (m : Int)) + 600 * (F * T) := by grind
    have g3 : D * ((m : Int) + 9 * T) = D * (m : Int) + 9 * (D * T) := by grind
    rcases Nat.eq_zero_or_pos m with rfl | hm
    · have hc : consq (fun m : Nat => 60 * F - outS n d dr (m : Int)) 0 = 0 := rfl
      rw [hc] at s2
      have ho : outS n d dr ((0 : Nat) : Int) = 0 := outS_0 n d dr
      rw [g2, g3, ho]
      simp only [Int.natCast_zero, Int.mul_zero]
      omega
    · have ho := outS_p n d dr hm s1
      obtain ⟨j, rfl⟩ : ∃ j, m = j + 1 := ⟨m - 1, by omega⟩
      have hc := consq_eq F D _ q0 qp j (by omega)
      rw [hc] at s2
      rw [g2, g3, ho, hD]
      have g4 : (j : Int) * (60 * F - D) = 60 * (F * (j : Int)) - D * (j : Int) := by grind
      have g5 : F * ((j + 1 : Nat) : Int) = F * (j : Int) + F := by rw [Int.natCast_succ]; grind
      have g6 : D * ((j + 1 : Nat) : Int) = D * (j : Int) + D := by rw [Int.natCast_succ]; grind
      rw [g5, g6]
      omega
  · intro hm
    have hm1 : 1 ≤ m := by omega
    rw [outS_p n d dr hm1 s1]; omega
end Go.Proofs.YtghiibdhibcbaaaDoor.PA
