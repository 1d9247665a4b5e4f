/- CodeMinute. -/
import Derived.Test.YtghiibdhibcbaaaDoorLwMiB
import Derived.Test.YtghiibdhibcbaaaDoorTrTen
namespace Go.Proofs.YtghiibdhibcbaaaDoor.PA
open Go Go.RowKit Go.Proofs.YtghiibdhibcbaaaDoor.CS Go.ChangeShapes Go.WideShapes
set_option linter.unusedVariables false
/-- the number of a minute's second, at number 0 -/
def minB (n d : Int) (dr : Bool) (u s : Int) : Int := full n d * (60 * u + s) - drop n d dr * (u - u / 10)
theorem said_min (n d u s k : Int) (dr : Bool) : said n d (u / 60) (u % 60) s k - drop n d dr * (60 * (u / 60) + u % 60 - (60 * (u / 60) + u % 60) / 10) = minB n d dr u s + k := by
  unfold said minB
  rw [show 60 * (u / 60) + u % 60 = u by omega]
  omega
theorem minB_le {n d u s k : Int} {dr : Bool} (o : Ok n d dr) (u0 : 0 ≤ u) (u1 : u < 2700) (s0 : 0 ≤ s) (s1 : s < 60) (k0 : 0 ≤ k) (k1 : k < full n d) (h : s = 0 → u % 10 ≠ 0 → drop n d dr ≤ k) : 0 ≤ minB n d dr u s + k ∧ minB n d dr u s + k ≤ last n d ∧ minB n d dr u s + k ≤ 1000000000 := by
  obtain ⟨f0, f1⟩ := full_le o
  obtain ⟨D0, D1⟩ := @drop_le n d dr
  have hfd := full_bound o
  have hl := (last_le o).2.2.2
  have hl2 := (last_le o).2.1
  have hd1 := o.d1
  have n1 := o.n1
  have hDF : drop n d dr = 0 ∨ 30 ≤ full n d := by rcases o.kinds with ⟨_, h⟩ | ⟨_, _, _, _, h⟩ | ⟨_, _, _, _, h⟩ <;> omega
  have e0 : 0 ≤ drop n d dr * (u - u / 10) := Int.mul_nonneg D0 (by omega)
  have t0 : 0 ≤ full n d * (60 * u + s) := Int.mul_nonneg (by omega) (by omega)
  have t1 : full n d * (60 * u + s) ≤ full n d * 161999 := Int.mul_le_mul_of_nonneg_left (by omega) (by omega)
  have e1 : drop n d dr * (u - u / 10) ≤ full n d * (60 * u + s) := by
    rcases hDF with hz | hz
    · rw [hz, Int.zero_mul]; exact t0
    · have g1 : drop n d dr * (u - u / 10) ≤ 4 * u := Int.mul_le_mul (by omega) (by omega) (by omega) (by omega)
      have g2 : 30 * (60 * u + s) ≤ full n d * (60 * u + s) := Int.mul_le_mul_of_nonneg_right hz (by omega)
      omega
  have hle : minB n d dr u s + k ≤ full n d * 162000 := by unfold minB; omega
  refine ⟨by unfold minB; omega, ?_, by omega⟩
  rcases Int.lt_or_le (last n d) (minB n d dr u s + k) with hlt | hge
  · exfalso
    have y1 : (last n d + 1) * d ≤ full n d * 162000 * d := Int.mul_le_mul_of_nonneg_right (by omega) (by omega)
    have y2 : full n d * 162000 * d = 162000 * (full n d * d) := by grind
    omega
  · exact hge
theorem nmb_min {n d u s k : Int} {dr : Bool} (h : okR n d dr = true) (u0 : 0 ≤ u) (u1 : u < 2700) (s0 : 0 ≤ s) (s1 : s < 60) (k0 : 0 ≤ k) (k1 : k < full n d) (hk : s = 0 → u % 10 ≠ 0 → drop n d dr ≤ k) :
    nmbS n d dr (labT dr (u / 60) (u % 60) s k (wide (full n d))) = (minB n d dr u s + k, 0) := by
  have o := okR_iff.mp h
  obtain ⟨f0, f1⟩ := full_le o
  obtain ⟨b0, b1, b2⟩ := minB_le o u0 u1 s0 s1 k0 k1 hk
  unfold nmbS
  rw [if_pos h, labO_labT (by omega) (by omega) (by omega) (by omega) s0 s1 k0 k1 (by omega)]
  dsimp only
  unfold valS
  rw [if_neg (by rintro ⟨_, h2, h3, h4⟩; have := hk h2 (by omega); omega), said_min, if_pos (inF_iff.mpr ⟨b0, b1⟩)]
theorem nmb_drop {n d u k : Int} (h : okR n d true = true) (u0 : 0 ≤ u) (u1 : u < 2700) (hu : u % 10 ≠ 0) (k0 : 0 ≤ k) (k1 : k < full n d) (hk : k < drop n d true) :
    nmbS n d true (labT true (u / 60) (u % 60) 0 k (wide (full n d))) = (0, 15) := by
  have o := okR_iff.mp h
  obtain ⟨f0, f1⟩ := full_le o
  unfold nmbS
  rw [if_pos h, labO_labT (by omega) (by omega) (by omega) (by omega) (by decide) (by decide) k0 k1 (by omega)]
  dsimp only
  unfold valS
  rw [if_pos ⟨rfl, rfl, by omega, hk⟩]
theorem bs_min (dr : Bool) (a b c z : List UInt8) : bs (a ++ 58 :: (b ++ 58 :: (c ++ (if dr = true then 59 else 58) :: z))) = bs a ++ (⟨#[58]⟩ : ByteArray) ++ bs b ++ (⟨#[58]⟩ : ByteArray) ++ bs c ++ (if dr = true then ⟨#[59]⟩ else ⟨#[58]⟩) ++ bs z := by
  have e1 : (⟨#[58]⟩ : ByteArray) = bs [58] := rfl
  have e3 : (if dr = true then (⟨#[59]⟩ : ByteArray) else ⟨#[58]⟩) = bs [if dr = true then 59 else 58] := by cases dr <;> rfl
  rw [e3, e1, bs_cat, bs_cat, bs_cat, bs_cat, bs_cat, bs_cat]
  congr 1
  simp
theorem minute5_true (n d : Int) (dr : Bool) (v : Int) (hn : (Lit.int .i64 n).wf = true) (hd : (Lit.int .i64 d).wf = true) (hv : (Lit.int .i64 v).wf = true) (w : World) (ht : TabN w) :
    Calls Tryd.prog 8 #[rate n d dr, .int .i64 v] w fun e w' => e = .returned (.bool true) ∧ Below w.heap.size w w' := by
  have m1 := rcheck_any n d dr
  unfold checkS at m1
  by_cases h : okR n d dr = true
  · rw [if_pos h] at m1
    have o := okR_iff.mp h
    obtain ⟨f0, f1⟩ := full_le o
    have u0 := Int.emod_nonneg v (show (2700 : Int) ≠ 0 by decide)
    have u1 := Int.emod_lt_of_pos v (show (0 : Int) < 2700 by decide)
    have m2 := within5_any v 2700 (by decide) (by decide)
    obtain ⟨u, hu⟩ : ∃ u, v % 2700 = u := ⟨_, rfl⟩
    rw [hu] at u0 u1 m2
    have m3 := fun (j : Int) (w : World) (a : 0 ≤ j) (b : j < 100) => two_any j a b w
    have m5 := fun (k : Int) (w : World) (a : 0 ≤ k) (b : k < full n d) => three_any k (full n d) a b f1 w
    have z2 : ∀ j : Int, 0 ≤ j → j < 100 → (bs (digL j 2)).size = 2 := fun j a b => by rw [bs_size, (digs2 a b).len]
    have z3 : ∀ k : Int, 0 ≤ k → k < full n d → (bs (digL k (wide (full n d)))).size ≤ 3 := fun k a b => by
      unfold wide
      split
      · rw [bs_size, (digs3 a (by omega)).len]; decide
      · rw [bs_size, (digs2 a (by omega)).len]; decide
    have zH : (bs (digL (u / 60) 2) ++ (⟨#[58]⟩ : ByteArray) ++ bs (digL (u % 60) 2) ++ (⟨#[58]⟩ : ByteArray)).size = 6 := by
      rw [ByteArray.size_append, ByteArray.size_append, ByteArray.size_append, z2 _ (by omega) (by omega), z2 _ (by omega) (by omega)]; rfl
    obtain ⟨n1, n2, d1, d2, o5, o6, o7, o8⟩ := o
    have o := okR_iff.mp h
    have hF : (n + d - 1) / d = full n d := rfl
    have m7 : ∀ (s k : Int) (w : World), 0 ≤ s → s < 60 → 0 ≤ k → k < full n d → (s = 0 → u % 10 ≠ 0 → drop n d dr ≤ k) → TabN w → Calls Tryd.prog 21 #[rate n d dr, .string (bs (digL (u / 60) 2) ++ (⟨#[58]⟩ : ByteArray) ++ bs (digL (u % 60) 2) ++ (⟨#[58]⟩ : ByteArray) ++ bs (digL s 2) ++ (if dr = true then ⟨#[59]⟩ else ⟨#[58]⟩) ++ bs (digL k (wide (full n d))))] w fun e w' => e = .returned (.tuple #[.int .i64 (minB n d dr u s + k), .int .i64 0]) ∧ Below w.heap.size w w' := fun s k w a1 a2 a3 a4 a5 ht => by
      have q := cnumber_any n d dr (labT dr (u / 60) (u % 60) s k (wide (full n d))) w ht
      rw [nmb_min h u0 u1 a1 a2 a3 a4 a5] at q
      unfold labT at q
      rw [bs_min] at q
      exact q
    rcases o.kinds with ⟨hdr, hD⟩ | hk
    · subst hdr
      exact min_false n d v u (full n d) (minB n d false u) (fun j => bs (digL j 2)) (fun k => bs (digL k (wide (full n d)))) _ n1 n2 d1 d2 u0 u1 hF f0 f1 rfl (z2 _ (by omega) (by omega)) (z2 _ (by omega) (by omega)) zH z2 z3 (fun s k a1 a2 a3 a4 a5 => ⟨(minB_le o u0 u1 a1 a2 a3 a4 (fun h _ => by rw [hD]; exact a5 h)).1, (minB_le o u0 u1 a1 a2 a3 a4 (fun h _ => by rw [hD]; exact a5 h)).2.2⟩) w ht known_any m1 m2 m3 m5 (fun k w a b => absurd (Int.lt_of_le_of_lt a b) (by decide)) (fun s k w a1 a2 a3 a4 a5 ht => m7 s k w a1 a2 a3 a4 (fun h _ => by rw [hD]; exact a5 h) ht)
    · have hdr : dr = true := by rcases hk with ⟨h, _⟩ | ⟨h, _⟩ <;> exact h
      subst hdr
      have hD15 : full n d / 15 = drop n d true := by rcases hk with ⟨_, _, _, h1, h2⟩ | ⟨_, _, _, h1, h2⟩ <;> rw [h1, h2] <;> rfl
      obtain ⟨D0, D1⟩ := @drop_le n d true
      by_cases hm : u % 10 = 0
      · exact min_ten n d v u (full n d) (minB n d true u) (fun j => bs (digL j 2)) (fun k => bs (digL k (wide (full n d)))) _ n1 n2 d1 d2 u0 u1 hF f0 f1 hm rfl (z2 _ (by omega) (by omega)) (z2 _ (by omega) (by omega)) zH z2 z3 (fun s k a1 a2 a3 a4 a5 => ⟨(minB_le o u0 u1 a1 a2 a3 a4 (fun _ h => absurd hm h)).1, (minB_le o u0 u1 a1 a2 a3 a4 (fun _ h => absurd hm h)).2.2⟩) w ht known_any m1 m2 m3 m5 (fun k w a b => absurd (Int.lt_of_le_of_lt a b) (by decide)) (fun s k w a1 a2 a3 a4 a5 ht => m7 s k w a1 a2 a3 a4 (fun _ h => absurd hm h) ht)
      · exact min_true n d v u (full n d) (minB n d true u) (fun j => bs (digL j 2)) (fun k => bs (digL k (wide (full n d)))) _ n1 n2 d1 d2 u0 u1 hF f0 f1 (drop n d true) hm hD15 D0 (by omega) rfl (z2 _ (by omega) (by omega)) (z2 _ (by omega) (by omega)) zH z2 z3 (fun s k a1 a2 a3 a4 a5 => ⟨(minB_le o u0 u1 a1 a2 a3 a4 (fun h _ => a5 h)).1, (minB_le o u0 u1 a1 a2 a3 a4 (fun h _ => a5 h)).2.2⟩) w ht known_any m1 m2 m3 m5
          (fun k w a b ht => by
            have hkf : k < full n d := by rcases hk with ⟨_, _, _, h1, h2⟩ | ⟨_, _, _, h1, h2⟩ <;> omega
            have q := cnumber_any n d true (labT true (u / 60) (u % 60) 0 k (wide (full n d))) w ht
            rw [nmb_drop h u0 u1 hm a hkf b] at q
            unfold labT at q
            rw [bs_min] at q
            exact q)
          (fun s k w a1 a2 a3 a4 a5 ht => m7 s k w a1 a2 a3 a4 (fun h _ => a5 h) ht)
  · rw [if_neg h] at m1
    exact min_no n d v 14 dr (by decide) w ht known_any m1
end Go.Proofs.YtghiibdhibcbaaaDoor.PA
