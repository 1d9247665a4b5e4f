/- Chapter 6: Knots and All told. -/
import Derived.Test.YthlpaglldhgmfaaCat6
import Derived.Deep.AppendLies
import Derived.OwnWalk
namespace Go.Proofs.Ythlpaglldhgmfaa.PA
open Go Go.RowKit Go.Proofs.YthlpaglldhgmfaaW.PrintWords Go.Proofs.YthlpaglldhgmfaaW.PrintLast Go.Proofs.YthlpaglldhgmfaaW.PrintMore
set_option linter.unusedSimpArgs false
set_option linter.unusedVariables false
set_option maxHeartbeats 1600000 in
set_option maxRecDepth 100000 in
theorem knots_any (p : Nat) (ak as_ : Addr) (ck cs : Nat) (m : MapV) (w : World) (hm : MapA w p ak as_ ck cs m) (h0 : 0 < m.knots.length) (h1 : m.knots.length ≤ 66) :
    Calls Try.prog 16 #[.pointer (some ⟨p, 0, none⟩)] w fun e w' => ∃ g c, e = .returned (.slice (some ⟨g, 0, none⟩) m.knots.length c) ∧ w'.ownsRow w.heap.size 35 4 (.slice (some ⟨g, 0, none⟩) m.knots.length c) m.knots.length (flatK m.knots) ∧ Below w.heap.size w w' := by
  have M := Lib.hid (fun (u : World) (h : Below w.heap.size w u) => cloneK ak m.knots.length ck (flatK m.knots) u h0 (by omega) (flatK_len _) (kna_flat (hm.kn.below h)) (flatK_one _))
  obtain ⟨c0, f0, c1, f1, c2, f2⟩ := Hand.hc3 hm.blk
  obtain ⟨n, hn⟩ : ∃ n, m.knots.length = n := ⟨_, rfl⟩
  rw [hn] at c0 M ⊢
  clear hn
  go_enter Try.func16, Try.ntmps16
  go_wp2_with fail
  with_reducible refine (M.out _ (Below.refl _ _)).mono ?_
  rintro e w1 ⟨g, c, rfl, hown, hb1⟩
  go_wp2
  go_ret
  exact ⟨_, _, rfl, hown, hb1⟩
/-- a slice that holds ratios -/
def RtS (w : World) (A : Option Addr) (l : List Rt) : Prop := l = [] ∨ ∃ ad, A = some ad ∧ RtA w ad l
theorem RtS.below {w w' : World} {A : Option Addr} {l : List Rt} (h : RtS w A l) (hb : Below w.heap.size w w') : RtS w' A l := by
  rcases h with h | ⟨ad, h1, h2⟩
  · exact .inl h
  · exact .inr ⟨ad, h1, h2.below hb⟩
/-- all times behind some: the first error and its place -/
def allF (m : MapV) : List Rt → Nat → List Rt → List Rt × Int × Int
  | [], _, acc => (acc, 0, 0)
  | t :: l, i, acc => if (m.app t).2 ≠ 0 then ([], (i : Int), (m.app t).2) else allF m l (i + 1) (acc ++ [(m.app t).1])
def allS (m : MapV) (l : List Rt) : List Rt × Int × Int := allF m l 0 []
theorem app_R (m : MapV) (ho : MapOk m) (t : Rt) (ht : R64 t) : R64 (m.app t).1 := by
  unfold MapV.app
  split
  · unfold alongS; exact do_R add_R _ _ _
  · exact R64_0
theorem allF_len (m : MapV) : ∀ (l : List Rt) (i : Nat) (acc : List Rt), (allF m l i acc).2.2 = 0 → (allF m l i acc).1.length = acc.length + l.length := by
  intro l
  induction l with
  | nil => intro i acc _; rfl
  | cons t l ih =>
    intro i acc h
    simp only [allF] at h ⊢
    split at h
    · rename_i h1; exact absurd h h1
    · rename_i h1; rw [if_neg h1, ih _ _ h]; simp; omega
theorem allF_le (m : MapV) : ∀ (l : List Rt) (i : Nat) (acc : List Rt), (allF m l i acc).1.length ≤ acc.length + l.length := by
  intro l
  induction l with
  | nil => intro i acc; exact Nat.le_refl _
  | cons t l ih =>
    intro i acc
    simp only [allF]
    split
    · simp
    · have := ih (i + 1) (acc ++ [(m.app t).1]); simp at this ⊢; omega
set_option maxHeartbeats 1600000 in
set_option maxRecDepth 100000 in
theorem all_none (p : Nat) (A : Option Addr) (cap : Nat) (m : MapV) (w : World) :
    Calls Try.prog 22 #[.pointer (some ⟨p, 0, none⟩), .slice A 0 cap] w fun e w' => ∃ v, e = .returned (.tuple #[v, .int .i64 (allS m []).2.1, .int .i64 (allS m []).2.2]) ∧ w'.ownsRow w.heap.size 31 2 v (allS m []).1.length (flatT (allS m []).1) ∧ Below w.heap.size w w' := by
  have hr : w.ownsRow w.heap.size 31 2 (.slice none 0 0) 0 [] := World.ownsRow_nil _ _ _ _
  go_enter Try.func22, Try.ntmps22
  go_wp2_with fail
  go_loopw [7, 14] (fun v i wr => v = .slice none 0 0 ∧ i = .int .i64 0 ∧ w = wr) (fun _ _ _ => 0)
  case atStart => exact ⟨rfl, rfl, rfl⟩
  case round =>
    obtain ⟨rfl, rfl, rfl⟩ := hrel
    go_wp2
    go_ret3
    exact ⟨_, rfl, hr, Below.refl _ _⟩
set_option maxHeartbeats 1600000 in
set_option maxRecDepth 100000 in
theorem all_some (p : Nat) (ak as_ : Addr) (ck cs : Nat) (m : MapV) (ad : Addr) (l : List Rt) (n cap : Nat) (w : World) (hn : n = l.length) (hm : MapA w p ak as_ ck cs m) (ho : MapOk m) (hL : RtA w ad l) (hR : ∀ t ∈ l, R64 t) (hN : n ≤ 2000) :
    Calls Try.prog 22 #[.pointer (some ⟨p, 0, none⟩), .slice (some ad) n cap] w fun e w' => ∃ v, e = .returned (.tuple #[v, .int .i64 (allS m l).2.1, .int .i64 (allS m l).2.2]) ∧ w'.ownsRow w.heap.size 31 2 v (allS m l).1.length (flatT (allS m l).1) ∧ Below w.heap.size w w' := by
  have HM := Lib.hid hm
  have HO := Lib.hid ho
  have HL := Lib.hid hL
  have HR := Lib.hid hR
  have HN := Lib.hid hn
  clear hm ho hL hR hn
  go_enter Try.func22, Try.ntmps22
  go_wp2_with fail
  go_loopw [7, 14] (fun v i wr => ∃ (j : Nat) (xs : List Rt), j ≤ n ∧ i = .int .i64 (j : Int) ∧ allS m l = allF m (l.drop j) j xs ∧ xs.length = j ∧ wr.ownsRow w.heap.size 31 2 v j (flatT xs) ∧ Below w.heap.size w wr) (fun _ i _ => n - (intOf i).toNat)
  case atStart => exact ⟨0, [], Nat.zero_le _, rfl, rfl, rfl, World.ownsRow_nil _ _ _ _, Below.refl _ _⟩
  case round =>
    obtain ⟨j, xs, hj, rfl, hall, hxl, hown, hB⟩ := hrel
    have HA := Lib.hid hall
    have HXL := Lib.hid hxl
    have HOWN := Lib.hid hown
    clear hall hxl hown
    by_cases hjn : j < n
    · have p1 : ((j : Int) < (n : Int)) = True := eq_true (by omega)
      have p5 : (0 : Int) ≤ (j : Int) := by omega
      have p6 : (j < n) = True := eq_true (by omega)
      have w2 : IntKind.i64.wrap (j : Int) = (j : Int) := by rw [IntKind.wrap_i64]; omega
      have hjl : j < l.length := by have := HN.out; omega
      obtain ⟨c0, c1⟩ := (HL.out.below hB) j hjl
      have hr := HR.out _ (List.getElem_mem hjl)
      have hdrop : l.drop j = l[j] :: l.drop (j + 1) := List.drop_eq_getElem_cons hjl
      obtain ⟨⟨t1, t2⟩, ht⟩ : ∃ t, l[j] = t := ⟨_, rfl⟩
      rw [ht] at c0 c1 hr hdrop
      dsimp only at c0 c1
      have MA := Lib.hid (fun (u : World) (h : Below w.heap.size w u) => app_any p ak as_ ck cs m (t1, t2) u (HM.out.below h) HO.out hr)
      have hxr := app_R m HO.out (t1, t2) hr
      have HA2 := Lib.hid (show allS m l = allF m ((t1, t2) :: l.drop (j + 1)) j xs from by rw [HA.out, hdrop])
      simp only [allF] at HA2
      obtain ⟨⟨⟨x1, x2⟩, er⟩, hx⟩ : ∃ x, m.app (t1, t2) = x := ⟨_, rfl⟩
      rw [hx] at MA HA2 hxr
      dsimp only [rv] at MA HA2
      clear ht hr hdrop hx
      go_wp2_with fail
      with_reducible refine (MA.out _ (hB.alloc hB.size _)).mono ?_
      rintro e w1 ⟨rfl, hb1⟩
      have hB1 : Below w.heap.size w w1 := Hand.stepB hb1 (hB.alloc hB.size _) (Nat.le_refl _)
      by_cases he : er = 0
      · have j0 : (er != 0) = false := by simpa using he
        have j1 : (er == 0) = true := by simpa using he
        have HBB := Lib.hid (hB1.alloc hB1.size (.cells #[.int .i64 x1, .int .i64 x2] 31))
        have HOW2 : ∀ u, Below wr.heap.size wr u → u.ownsRow w.heap.size 31 2 _ j (flatT xs) := fun u hu => own_below HOWN.out hu
        have HO2 := Lib.hid HOW2
        clear HOW2
        have hbr := Lib.hid (Hand.stepB hb1 ((Below.refl _ wr).alloc (Nat.le_refl _) _) (Nat.le_refl _))
        go_wp2_with (at_builtin; refine wpList_append_lies _ rfl _ _ 23 rfl w.heap.size 31 _ (.agg #[.int .i64 0, .int .i64 0]) 2 16 Try.underlying23 rfl rfl rfl rfl rfl (by decide) _ j _ rfl (HO2.out _ ((hbr.out.alloc hbr.out.size _).alloc (by have := hbr.out.size; simp only [World.size_alloc]; omega) _)) ⟨w1.heap.size + 1, 0, none⟩ 1 1 [.int .i64 x1, .int .i64 x2] rfl rfl (World.news_of_block (Hand.q3 _ _ _ (by simp))) (by intro u hu; simp at hu; rcases hu with rfl | rfl <;> rfl) (by decide) (by unfold maxLen; omega) (by omega) (by simp only [World.size_alloc]; have := HBB.out.size; simp only [World.size_alloc] at this; omega) _ rfl ?_)
        intro g2 cap2 w2 hown hgrow hat hlt
        have hB2 : Below w.heap.size w w2 := (HBB.out.alloc HBB.out.size _).grown hgrow (by have := HBB.out.size; simp only [World.size_alloc] at this ⊢; omega) (fun k hk => (HOWN.out.lt k hk).1)
        go_wp2
        go_roundw
        case rel => exact ⟨j + 1, xs ++ [(x1, x2)], by omega, by rw [Int.natCast_add]; rfl, by rw [HA2.out, if_neg (by simp [he])], by simp [HXL.out], by rw [flatT_snoc]; exact hown, hB2⟩
        case measure => simp [intOf]; omega
      · have j0 : (er != 0) = true := by simpa using he
        go_wp2
        go_ret3
        rw [HA2.out, if_pos he]
        exact ⟨_, rfl, World.ownsRow_nil _ _ _ _, hB1.alloc hB1.size _⟩
    · have p1 : ((j : Int) < (n : Int)) = False := eq_false (by omega)
      have hjn2 : j = n := by omega
      have HE := Lib.hid (show allS m l = (xs, 0, 0) from by rw [HA.out, List.drop_eq_nil_of_le (by have := HN.out; omega)]; rfl)
      go_wp2
      go_ret3
      rw [HE.out]
      refine ⟨_, rfl, ?_, hB⟩
      rw [HXL.out]
      exact HOWN.out
theorem all_any (p : Nat) (ak as_ : Addr) (ck cs : Nat) (m : MapV) (A : Option Addr) (l : List Rt) (cap : Nat) (w : World) (hm : MapA w p ak as_ ck cs m) (ho : MapOk m) (hL : RtS w A l) (hR : ∀ t ∈ l, R64 t) (hN : l.length ≤ 2000) :
    Calls Try.prog 22 #[.pointer (some ⟨p, 0, none⟩), .slice A l.length cap] w fun e w' => ∃ v, e = .returned (.tuple #[v, .int .i64 (allS m l).2.1, .int .i64 (allS m l).2.2]) ∧ w'.ownsRow w.heap.size 31 2 v (allS m l).1.length (flatT (allS m l).1) ∧ Below w.heap.size w w' := by
  rcases hL with rfl | ⟨ad, rfl, hL⟩
  · exact all_none p A cap m w
  · exact all_some p ak as_ ck cs m ad l l.length cap w rfl hm ho hL hR hN
end Go.Proofs.Ythlpaglldhgmfaa.PA
