/- Chapter 6: the law's helpers: fine, knots; what a made map may be asked for. -/
import Derived.Test.YthlpaglldhgmfaaKn6
import Derived.Test.YthlpaglldhgmfaaPz6
import Derived.StillTailTactics
namespace Go.Proofs.Ythlpaglldhgmfaa.PA
open Go Go.RowKit Go.Proofs.YthlpaglldhgmfaaW.PrintWords Go.Proofs.YthlpaglldhgmfaaW.PrintLast Go.Proofs.YthlpaglldhgmfaaW.PrintMore
set_option linter.unusedSimpArgs false
set_option linter.unusedVariables false
theorem right_R64 {r : Rt} (h : rRight r = true) : R64 r := by
  obtain ⟨h1, h2, h3, _⟩ := rightS_iff.1 h
  exact ⟨by omega, by omega, by omega, by omega⟩
theorem MapQ.ok {l : List Kn} {m : MapV} (h : MapQ l m) : MapOk m := by
  obtain ⟨p, q, L, o1, o2, o3, o4⟩ := h.own
  have := h.ns
  exact ⟨fun k hk => ⟨right_R64 (h.kr k hk).1, right_R64 (h.kr k hk).2⟩, h.kr, by omega, by omega, by omega, by omega, fun s hs => right_R64 (h.sr s hs)⟩
set_option maxHeartbeats 800000 in
set_option maxRecDepth 100000 in
theorem fine6_any (e : Int) (w : World) : Calls Try.prog 14 #[.int .i64 e] w fun r w' => r = .returned (.bool (e == 0)) ∧ w' = w := by
  go_enter Try.func14, Try.ntmps14
  go_wp2
  go_ret
  exact ⟨rfl, rfl⟩
attribute [local go_sem high] eqA31
theorem eqA35 (d : Nat) (w : World) (x0 x1 x2 x3 y0 y1 y2 y3 : Int) :
    (Op.equalIn (d + 3) 35 (.agg #[.int .i64 x0, .int .i64 x1, .int .i64 x2, .int .i64 x3]) (.agg #[.int .i64 y0, .int .i64 y1, .int .i64 y2, .int .i64 y3])).run Try.prog w = .ok ((x0 == y0 && (x1 == y1)) && (x2 == y2 && (x3 == y3))) w := by
  refine eqA_of Try.underlying35 (by kernel_rfl) ?_
  refine eqf_cons (by rfl) (by go_simp; rfl) (by go_simp; rfl) (by go_simp) ?_
  exact eqf_last (by rfl) (by go_simp; rfl) (by go_simp; rfl) (by go_simp)
attribute [local go_sem high] eqA35
set_option maxHeartbeats 1600000 in
set_option maxRecDepth 100000 in
theorem lknots_some (ad ad' : Addr) (l : List Kn) (n cap cap' : Nat) (w : World) (hn : n = l.length) (hK : KnA w ad l) (hK' : KnA w ad' l) (hN : n ≤ 100000) :
    Calls Try.prog 19 #[.slice (some ad) n cap, .slice (some ad') n cap'] w fun e w' => e = .returned (.bool true) ∧ Below w.heap.size w w' := by
  have HK := Lib.hid hK
  have HK' := Lib.hid hK'
  have HN := Lib.hid hn
  clear hK hK' hn
  go_enter Try.func19, Try.ntmps19
  go_wp2_with fail
  go_loopw [5] (fun i wr => ∃ j : Nat, j ≤ n ∧ i = .int .i64 (j : Int) ∧ Below w.heap.size w wr) (fun i _ => n - (intOf i).toNat)
  case atStart => exact ⟨0, Nat.zero_le _, rfl, Below.refl _ _⟩
  case round =>
    obtain ⟨j, hj, rfl, hB⟩ := hrel
    by_cases hjn : j < n
    · have p1 : ((j : Int) < (n : Int)) = True := eq_true (by omega)
      have p5 : (0 : Int) ≤ (j : Int) := by omega
      have p6 : (j < n) = True := eq_true (by omega)
      have w2 : IntKind.i64.wrap (j : Int) = (j : Int) := by rw [IntKind.wrap_i64]; omega
      have hjl : j < l.length := by have := HN.out; omega
      obtain ⟨c0, c1, c2, c3⟩ := (HK.out.below hB) j hjl
      obtain ⟨d0, d1, d2, d3⟩ := (HK'.out.below hB) j hjl
      obtain ⟨⟨⟨k1, k2⟩, k3, k4⟩, hk⟩ : ∃ k, l[j] = k := ⟨_, rfl⟩
      rw [hk] at c0 c1 c2 c3 d0 d1 d2 d3
      dsimp only at c0 c1 c2 c3 d0 d1 d2 d3
      clear hk
      go_wp2_with fail
      go_still_tail 8, (by kernel_rfl)
      change wpList _ _ _ _ _ wr.drew
      go_wp2_with fail
      go_roundw
      case rel => exact ⟨j + 1, by omega, by rw [Int.natCast_add]; rfl, hB.drew⟩
      case measure => simp [intOf]; omega
    · have p1 : ((j : Int) < (n : Int)) = False := eq_false (by omega)
      go_wp2
      go_ret
      exact ⟨rfl, hB⟩
set_option maxHeartbeats 1600000 in
set_option maxRecDepth 100000 in
theorem lknots_none (A A' : Option Addr) (cap cap' : Nat) (w : World) :
    Calls Try.prog 19 #[.slice A 0 cap, .slice A' 0 cap'] w fun e w' => e = .returned (.bool true) ∧ Below w.heap.size w w' := by
  go_enter Try.func19, Try.ntmps19
  go_wp2_with fail
  go_loopw [5] (fun i wr => i = .int .i64 0 ∧ w = wr) (fun _ _ => 0)
  case atStart => exact ⟨rfl, rfl⟩
  case round =>
    obtain ⟨rfl, rfl⟩ := hrel
    go_wp2
    go_ret
    exact ⟨rfl, Below.refl _ _⟩
theorem lknots_any (A A' : Option Addr) (l : List Kn) (cap cap' : Nat) (w : World) (hK : KnS w A l) (hK' : KnS w A' l) (hN : l.length ≤ 100000) :
    Calls Try.prog 19 #[.slice A l.length cap, .slice A' l.length cap'] w fun e w' => e = .returned (.bool true) ∧ Below w.heap.size w w' := by
  rcases hK with rfl | ⟨ad, rfl, hK⟩
  · exact lknots_none A A' cap cap' w
  · rcases hK' with rfl | ⟨ad', rfl, hK'⟩
    · exact lknots_none _ _ cap cap' w
    · exact lknots_some ad ad' l l.length cap cap' w rfl hK hK' hN
end Go.Proofs.Ythlpaglldhgmfaa.PA
