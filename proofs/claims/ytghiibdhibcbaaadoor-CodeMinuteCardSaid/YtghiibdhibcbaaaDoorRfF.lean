/- The reference: Label told at all inputs. -/
import Derived.Test.YtghiibdhibcbaaaDoorRfE
namespace Go.Proofs.YtghiibdhibcbaaaDoor.PA
open Go Go.RowKit Go.Proofs.YtghiibdhibcbaaaDoor.CS
set_option linter.unusedSimpArgs false
set_option linter.unusedVariables false
theorem outS_le (n d m : Int) (dr : Bool) : 0 ≤ outS n d dr m ∧ outS n d dr m ≤ 4 := by
  have := @drop_le n d dr
  unfold outS
  split <;> omega
theorem rlabel_any (n d fr : Int) (dr : Bool) (w : World) :
    Calls Tryd.prog 20 #[rate n d dr, .int .i64 fr] w fun e w' => e = .returned (.tuple #[.string (bs (lblS n d dr fr).1), .int .i64 (lblS n d dr fr).2]) ∧ Below w.heap.size w w' := by
  have m1 := rcheck_any n d dr
  unfold checkS at m1
  unfold lblS
  by_cases h : okR n d dr = true
  · rw [if_pos h] at m1 ⊢
    have o := okR_iff.mp h
    have m2 := rlast_any n d dr o
    by_cases hf : inF n d fr = true
    · rw [if_pos hf]
      obtain ⟨b0, b1, b2, b3, b4⟩ := fr_le o hf
      obtain ⟨c0, c1⟩ := inF_iff.mp hf
      obtain ⟨f0, f1⟩ := full_le o
      obtain ⟨D0, D1⟩ := @drop_le n d dr
      have t0 : 0 ≤ fr / (600 * full n d - 9 * drop n d dr) := Int.ediv_nonneg b0 (by omega)
      have t1 : fr / (600 * full n d - 9 * drop n d dr) ≤ fr := Int.ediv_le_self _ b0
      have r0 : 0 ≤ fr % (600 * full n d - 9 * drop n d dr) := Int.emod_nonneg _ (by omega)
      have r1 : fr % (600 * full n d - 9 * drop n d dr) < 600 * full n d - 9 * drop n d dr := Int.emod_lt_of_pos _ (by omega)
      have q0 : (fun m : Nat => 60 * full n d - outS n d dr (m : Int)) 0 = 60 * full n d := by
        show 60 * full n d - outS n d dr 0 = _
        rw [outS_0]; omega
      have qp : ∀ m : Nat, 1 ≤ m → m ≤ 9 → (fun m : Nat => 60 * full n d - outS n d dr (m : Int)) m = 60 * full n d - drop n d dr := fun m a b => by
        show 60 * full n d - outS n d dr (m : Int) = _
        rw [outS_p n d dr a b]
      have hs := fun m r => stepP_next (m := m) (r := r) q0 qp r1
      have hn := fun m r => num_parts (fr := fr) o (q := fun m : Nat => 60 * full n d - outS n d dr (m : Int)) (fun m => rfl) (m := m) (r := r)
      have hx := fun M K (a : num n d dr fr = 60 * full n d * M + K) b c => labL_parts o a b c
      cases dr
      · exact rlabel_false n d fr _ _ _ _ _ _ _ (fun m : Nat => 60 * full n d - outS n d false (m : Int)) (decide_eq_false (by omega)) (decide_eq_false (by omega)) b0 b1 f0 f1 D0 D1 rfl rfl rfl t0 (by omega) r0 r1 (fun m => rfl) (fun m => outS_le n d m _) hs hn hx w m1 m2 (rfull_any n d _ o) (rleft_any n d _ o) (fun m w hm => rout_any n d m _ o hm w)
      · exact rlabel_true n d fr _ _ _ _ _ _ _ (fun m : Nat => 60 * full n d - outS n d true (m : Int)) (decide_eq_false (by omega)) (decide_eq_false (by omega)) b0 b1 f0 f1 D0 D1 rfl rfl rfl t0 (by omega) r0 r1 (fun m => rfl) (fun m => outS_le n d m _) hs hn hx w m1 m2 (rfull_any n d _ o) (rleft_any n d _ o) (fun m w hm => rout_any n d m _ o hm w)
    · rw [if_neg hf]
      by_cases h0 : fr < 0
      · exact rlabel_neg n d fr dr (decide_eq_true h0) w m1
      · have h1 : last n d < fr := by
          rw [inF_iff] at hf; omega
        exact rlabel_far n d fr _ dr (decide_eq_false h0) (decide_eq_true h1) w m1 m2
  · rw [if_neg h] at m1 ⊢
    exact rlabel_bad n d 14 fr dr (by decide) w m1
end Go.Proofs.YtghiibdhibcbaaaDoor.PA
