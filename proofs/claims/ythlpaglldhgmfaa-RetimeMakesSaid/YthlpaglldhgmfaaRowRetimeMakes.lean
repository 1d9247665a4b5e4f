/- The row of RetimeMakes and its card: whatever the input, the law returns true, and the input reads as it did. -/
import Derived.Test.YthlpaglldhgmfaaRows
import Derived.Test.YthlpaglldhgmfaaOp6
import Derived.WalkKit
import Derived.ProofKit
import Derived.OpenShut
import Derived.ChangeOld
import Derived.Below
import Derived.Deep.DeepHandedRow
import Derived.Lib.SmallJoins
import Derived.Lib.LaidTab
import Derived.MakeChecks
import Derived.LaidSub
import Derived.Test.YthlpaglldhgmfaaMakT
namespace Go.Proofs.Ythlpaglldhgmfaa.retimeMakes
open Go.ChangeShapes Go.WideShapes Go.ChangeAt Go.RowKit Go.Joins
set_option linter.unusedVariables false
theorem laidOut : laidOutB Try.prog = true := by kernel_rfl
theorem own : ownKnob Try.prog.godebug = none := by kernel_rfl
theorem cells50 : Try.prog.cellsOf 50 = 3 := by kernel_rfl
theorem cells31 : Try.prog.cellsOf 31 = 2 := by kernel_rfl
set_option maxHeartbeats 1000000 in
set_option maxRecDepth 100000 in
theorem contract (H : Type) (enc : TypeId × Value → H) (W : World) (base : Nat) (args : Array Value) (ds gs : List (DataW H)) (before : List MemPlace)
    (hval0 : ∀ (j : Nat) t v, Try.f7.params[j]? = some t → args[j]? = some v → Value.okWide Try.prog W .any base t v)
    (hW : DataW.Whole enc Try.prog Try.f7.params.toList Rows.retimeMakesSpec.vars false W args.toList ds gs before) :
    Calls Try.prog 7 args W fun e W' => ∃ v, e = .returned v ∧ Rows.retimeMakesSpec.post enc Try.prog Try.f7 false true false false W args v W' := by
  have hval : ∀ (j : Nat) t v, Try.f7.params[j]? = some t → args[j]? = some v → Value.okWide Try.prog W .any base t v := hval0
  have hW' := hW
  obtain ⟨p, q, hA0, hV, rfl, hfz, hnd⟩ := hW
  have hA : DataW.TrodAll enc Try.prog W 0 (fun _ => true) true Try.f7.params.toList args.toList ds p := hA0
  rw [Try.params7] at hA hval
  obtain ⟨v0, vs0, d0, ds0, p0, q0, hargs, rfl, rfl, h0, r0⟩ := trodAll_cons hA
  obtain ⟨v1, vs1, d1, ds1, p1, q1, rfl, rfl, rfl, h1, r1⟩ := trodAll_cons r0
  obtain ⟨v2, vs2, d2, ds2, p2, q2, rfl, rfl, rfl, h2, r2⟩ := trodAll_cons r1
  obtain ⟨v3, vs3, d3, ds3, p3, q3, rfl, rfl, rfl, h3, r3⟩ := trodAll_cons r2
  obtain ⟨v4, vs4, d4, ds4, p4, q4, rfl, rfl, rfl, h4, r4⟩ := trodAll_cons r3
  obtain ⟨rfl, rfl, rfl⟩ := trodAll_nil r4
  obtain rfl : args = #[v0, v1, v2, v3, v4] := by cases args; simp_all
  obtain ⟨rfl, rfl⟩ := trodVars_none hV
  obtain ⟨c0_0, c1_0, y0_0, y1_0, m0, rfl, rfl, rfl, hy0_0, hy1_0⟩ := open_agg2 Try.underlying31 (by kernel_rfl) cells31 (hval 0 31 v0 rfl rfl) h0
  obtain ⟨a0, e0_0, rfl, wa0⟩ := DataW.trod_int Try.underlying2 hy0_0
  obtain ⟨b0, e1_0, rfl, wb0⟩ := DataW.trod_int Try.underlying2 hy1_0
  simp at e0_0 e1_0
  subst e0_0 e1_0
  obtain ⟨c0_1, c1_1, y0_1, y1_1, m1, rfl, rfl, rfl, hy0_1, hy1_1⟩ := open_agg2 Try.underlying31 (by kernel_rfl) cells31 (hval 1 31 v1 rfl rfl) h1
  obtain ⟨a1, e0_1, rfl, wa1⟩ := DataW.trod_int Try.underlying2 hy0_1
  obtain ⟨b1, e1_1, rfl, wb1⟩ := DataW.trod_int Try.underlying2 hy1_1
  simp at e0_1 e1_1
  subst e0_1 e1_1
  obtain ⟨c0_2, c1_2, c2_2, y0_2, y1_2, y2_2, m2, rfl, rfl, rfl, hy0_2, hy1_2, hy2_2⟩ := open_agg3 Try.underlying50 (by kernel_rfl) cells50 (hval 2 50 v2 rfl rfl) h2
  obtain ⟨a2, e0_2, rfl, wa2⟩ := DataW.trod_int Try.underlying3 hy0_2
  obtain ⟨b2, e1_2, rfl, wb2⟩ := DataW.trod_int Try.underlying3 hy1_2
  obtain ⟨dr2, e2_2, rfl⟩ := DataW.trod_bool Try.underlying4 hy2_2
  simp at e0_2 e1_2 e2_2
  subst e0_2 e1_2 e2_2
  obtain ⟨c0_3, c1_3, c2_3, y0_3, y1_3, y2_3, m3, rfl, rfl, rfl, hy0_3, hy1_3, hy2_3⟩ := open_agg3 Try.underlying50 (by kernel_rfl) cells50 (hval 3 50 v3 rfl rfl) h3
  obtain ⟨a3, e0_3, rfl, wa3⟩ := DataW.trod_int Try.underlying3 hy0_3
  obtain ⟨b3, e1_3, rfl, wb3⟩ := DataW.trod_int Try.underlying3 hy1_3
  obtain ⟨dr3, e2_3, rfl⟩ := DataW.trod_bool Try.underlying4 hy2_3
  simp at e0_3 e1_3 e2_3
  subst e0_3 e1_3 e2_3
  obtain ⟨A4, len4, cap4, rfl⟩ := okWide_slice Try.underlying23 (hval 4 23 v4 rfl rfl)
  have k4 := h4
  have lt4 : ∀ x ∈ p4, x.block < W.heap.size := by obtain ⟨m, hm⟩ := k4; exact DataW.trod_lt m _ _ _ hm
  obtain ⟨l4, rfl, hC4, ho4⟩ := PA.slice_T Try.underlying23 h4
  clear hA0 hval0
  refine (Go.Proofs.Ythlpaglldhgmfaa.PA.makes6 a0 b0 a1 b1 a2 b2 dr2 a3 b3 dr3 l4 W wa0 wb0 wa1 wb1 wa2 wb2 wa3 wb3 hC4 ho4).mono fun e W' ⟨he, bel⟩ => ?_
  subst he
  exact ⟨_, rfl, _, _, _, [], _, [], hW', trodAll_mk1 (shut_bool Try.underlying4 _), (trodAll_cons_mk (shut_agg2 (y0 := (.lit (.int .i64 a0), [])) (y1 := (.lit (.int .i64 b0), [])) Try.underlying31 (by kernel_rfl) cells31 ⟨1, by simp [DataW.trod, Try.underlying2, wa0]⟩ ⟨1, by simp [DataW.trod, Try.underlying2, wb0]⟩) (trodAll_cons_mk (shut_agg2 (y0 := (.lit (.int .i64 a1), [])) (y1 := (.lit (.int .i64 b1), [])) Try.underlying31 (by kernel_rfl) cells31 ⟨1, by simp [DataW.trod, Try.underlying2, wa1]⟩ ⟨1, by simp [DataW.trod, Try.underlying2, wb1]⟩) (trodAll_cons_mk (shut_agg3 (y0 := (.lit (.int .i64 a2), [])) (y1 := (.lit (.int .i64 b2), [])) (y2 := (.lit (.bool dr2), [])) Try.underlying50 (by kernel_rfl) cells50 ⟨1, by simp [DataW.trod, Try.underlying3, wa2]⟩ ⟨1, by simp [DataW.trod, Try.underlying3, wb2]⟩ ⟨1, by simp [DataW.trod, Try.underlying4]⟩) (trodAll_cons_mk (shut_agg3 (y0 := (.lit (.int .i64 a3), [])) (y1 := (.lit (.int .i64 b3), [])) (y2 := (.lit (.bool dr3), [])) Try.underlying50 (by kernel_rfl) cells50 ⟨1, by simp [DataW.trod, Try.underlying3, wa3]⟩ ⟨1, by simp [DataW.trod, Try.underlying3, wb3]⟩ ⟨1, by simp [DataW.trod, Try.underlying4]⟩) (trodAll_cons_mk (Below.trod laidOut (by kernel_rfl) (of_decide_eq_true (by kernel_rfl)) k4 bel lt4) trodAll_mk0))))), rfl, bel.frame _, fun h => by cases h⟩
set_option maxRecDepth 100000 in
theorem lifted (os : Os) (started : os.Started) (H : Type) (enc : TypeId × Value → H) :
    ReturnsInHanded {} Try.checked os 7 .any (Rows.retimeMakesSpec.pre6 enc Try.prog Try.f7 Rows.retimeMakesRow.domain false) (Rows.retimeMakesSpec.post enc Try.prog Try.f7 false true false false) := by
  refine returnsInHanded_of_change (C := Try.checked) own started (by kernel_rfl) Try.func7
    (ChangeSpec.witness6 (enc := enc) (C := Try.checked) false ⟨#[], #[.agg #[.int .i64 0, .int .i64 0], .agg #[.int .i64 0, .int .i64 0], .agg #[.int .i64 0, .int .i64 0, .bool false], .agg #[.int .i64 0, .int .i64 0, .bool false], .slice none 0 0], []⟩ 8 (by kernel_rfl) (by kernel_rfl) (by kernel_rfl) (by kernel_rfl)) ?_
  intro W base args ds gs before hval hW hcnd _
  exact contract H enc W base args ds gs before hval hW
theorem said : Rows.RetimeMakesSaid :=
  OpenClaim.holds_of_wide 7 Try.f7 rfl rfl rfl rfl rfl rfl rfl ⟨rfl, rfl, rfl, rfl, rfl⟩ rfl rfl rfl rfl rfl (by kernel_rfl) Try.func7 (by kernel_rfl)
    (of_decide_eq_true (by kernel_rfl)) (by unfold Func.isWrapper; first | (rw [if_pos (by decide +kernel)]; kernel_rfl) | (rw [if_neg (by decide +kernel)]; exact ⟨rfl, rfl⟩))
    (fun os started H enc _ => lifted os started H enc)
#print axioms said
end Go.Proofs.Ythlpaglldhgmfaa.retimeMakes
namespace Go.Proofs.Ythlpaglldhgmfaa
/-- The law's sentence, under a short name, for the claim. -/
theorem retimeMakes_holds : Rows.RetimeMakesSaid := retimeMakes.said
end Go.Proofs.Ythlpaglldhgmfaa
