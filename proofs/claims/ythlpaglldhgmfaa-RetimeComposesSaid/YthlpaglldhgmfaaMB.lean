/- Chapter 6: the law's helpers: fine, knots; what a made map may be asked for. Chapter 6: a map's own knots make the map; a knot laid down on it changes nothing. Chapter 6: one map behind another, the map backwards: in plain lists. RetimeOwn: rows that are written over; what lies elsewhere. Chapter 6: Inverse told; a map's bends told. -/
import Derived.Test.YthlpaglldhgmfaaM9
import Derived.Test.YthlpaglldhgmfaaMA
import Derived.StillTailTactics
namespace Go.Proofs.Ythlpaglldhgmfaa.PA
open Go Go.RowKit Go.Proofs.YthlpaglldhgmfaaW.PrintWords Go.Proofs.YthlpaglldhgmfaaW.PrintLast Go.Proofs.YthlpaglldhgmfaaW.PrintMore
set_option linter.unusedSimpArgs false
set_option linter.unusedVariables false
theorem right_R64 {r : Rt} (h : rRight r = true) : R64 r := by
  obtain ⟨h1, h2, h3, _⟩ := rightS_iff.1 h
  exact ⟨by omega, by omega, by omega, by omega⟩
theorem MapQ.ok {l : List Kn} {m : MapV} (h : MapQ l m) : MapOk m := by
  obtain ⟨p, q, L, o1, o2, o3, o4⟩ := h.own
  have := h.ns
  exact ⟨fun k hk => ⟨right_R64 (h.kr k hk).1, right_R64 (h.kr k hk).2⟩, h.kr, by omega, by omega, by omega, by omega, fun s hs => right_R64 (h.sr s hs)⟩
set_option maxHeartbeats 800000 in
set_option maxRecDepth 100000 in
theorem fine6_any (e : Int) (w : World) : Calls Try.prog 14 #[.int .i64 e] w fun r w' => r = .returned (.bool (e == 0)) ∧ w' = w := by
  go_enter Try.func14, Try.ntmps14
  go_wp2
  go_ret
  exact ⟨rfl, rfl⟩
attribute [local go_sem high] eqA31
theorem eqA35 (d : Nat) (w : World) (x0 x1 x2 x3 y0 y1 y2 y3 : Int) :
    (Op.equalIn (d + 3) 35 (.agg #[.int .i64 x0, .int .i64 x1, .int .i64 x2, .int .i64 x3]) (.agg #[.int .i64 y0, .int .i64 y1, .int .i64 y2, .int .i64 y3])).run Try.prog w = .ok ((x0 == y0 && (x1 == y1)) && (x2 == y2 && (x3 == y3))) w := by
  refine eqA_of Try.underlying35 (by kernel_rfl) ?_
  refine eqf_cons (by rfl) (by go_simp; rfl) (by go_simp; rfl) (by go_simp) ?_
  exact eqf_last (by rfl) (by go_simp; rfl) (by go_simp; rfl) (by go_simp)
attribute [local go_sem high] eqA35
set_option maxHeartbeats 1600000 in
set_option maxRecDepth 100000 in
theorem lknots_some (ad ad' : Addr) (l : List Kn) (n cap cap' : Nat) (w : World) (hn : n = l.length) (hK : KnA w ad l) (hK' : KnA w ad' l) (hN : n ≤ 100000) :
    Calls Try.prog 19 #[.slice (some ad) n cap, .slice (some ad') n cap'] w fun e w' => e = .returned (.bool true) ∧ Below w.heap.size w w' := by
  have HK := Lib.hid hK
  have HK' := Lib.hid hK'
  have HN := Lib.hid hn
  clear hK hK' hn
  go_enter Try.func19, Try.ntmps19
  go_wp2_with fail
  go_loopw [5] (fun i wr => ∃ j : Nat, j ≤ n ∧ i = .int .i64 (j : Int) ∧ Below w.heap.size w wr) (fun i _ => n - (intOf i).toNat)
  case atStart => exact ⟨0, Nat.zero_le _, rfl, Below.refl _ _⟩
  case round =>
    obtain ⟨j, hj, rfl, hB⟩ := hrel
    by_cases hjn : j < n
    · have p1 : ((j : Int) < (n : Int)) = True := eq_true (by omega)
      have p5 : (0 : Int) ≤ (j : Int) := by omega
      have p6 : (j < n) = True := eq_true (by omega)
      have w2 : IntKind.i64.wrap (j : Int) = (j : Int) := by rw [IntKind.wrap_i64]; omega
      have hjl : j < l.length := by have := HN.out; omega
      obtain ⟨c0, c1, c2, c3⟩ := (HK.out.below hB) j hjl
      obtain ⟨d0, d1, d2, d3⟩ := (HK'.out.below hB) j hjl
      obtain ⟨⟨⟨k1, k2⟩, k3, k4⟩, hk⟩ : ∃ k, l[j] = k := ⟨_, rfl⟩
      rw [hk] at c0 c1 c2 c3 d0 d1 d2 d3
      dsimp only at c0 c1 c2 c3 d0 d1 d2 d3
      clear hk
      go_wp2_with fail
      go_still_tail 8, (by kernel_rfl)
      change wpList _ _ _ _ _ wr.drew
      go_wp2_with fail
      go_roundw
      case rel => exact ⟨j + 1, by omega, by rw [Int.natCast_add]; rfl, hB.drew⟩
      case measure => simp [intOf]; omega
    · have p1 : ((j : Int) < (n : Int)) = False := eq_false (by omega)
      go_wp2
      go_ret
      exact ⟨rfl, hB⟩
set_option maxHeartbeats 1600000 in
set_option maxRecDepth 100000 in
theorem lknots_none (A A' : Option Addr) (cap cap' : Nat) (w : World) :
    Calls Try.prog 19 #[.slice A 0 cap, .slice A' 0 cap'] w fun e w' => e = .returned (.bool true) ∧ Below w.heap.size w w' := by
  go_enter Try.func19, Try.ntmps19
  go_wp2_with fail
  go_loopw [5] (fun i wr => i = .int .i64 0 ∧ w = wr) (fun _ _ => 0)
  case atStart => exact ⟨rfl, rfl⟩
  case round =>
    obtain ⟨rfl, rfl⟩ := hrel
    go_wp2
    go_ret
    exact ⟨rfl, Below.refl _ _⟩
theorem lknots_any (A A' : Option Addr) (l : List Kn) (cap cap' : Nat) (w : World) (hK : KnS w A l) (hK' : KnS w A' l) (hN : l.length ≤ 100000) :
    Calls Try.prog 19 #[.slice A l.length cap, .slice A' l.length cap'] w fun e w' => e = .returned (.bool true) ∧ Below w.heap.size w w' := by
  rcases hK with rfl | ⟨ad, rfl, hK⟩
  · exact lknots_none A A' cap cap' w
  · rcases hK' with rfl | ⟨ad', rfl, hK'⟩
    · exact lknots_none _ _ cap cap' w
    · exact lknots_some ad ad' l l.length cap cap' w rfl hK hK' hN
end Go.Proofs.Ythlpaglldhgmfaa.PA
namespace Go.Proofs.Ythlpaglldhgmfaa.PA
open Go
set_option linter.unusedSimpArgs false
set_option linter.unusedVariables false
theorem bq_inj {a b : Kn × Rt} (ha : (rRight a.1.1 = true ∧ rRight a.1.2 = true) ∧ rRight a.2 = true) (hb : (rRight b.1.1 = true ∧ rRight b.1.2 = true) ∧ rRight b.2 = true) (e : bq a = bq b) : a = b := by
  have e1 := congrArg Prod.fst e
  have e2 := congrArg Prod.snd e
  exact Prod.ext (qk_inj ha.1 hb.1 e1) (qr_inj ha.2 hb.2 e2)
theorem own_again {l : List Kn} {m : MapV} (h : newK l = (some m, 0)) : newK m.knots = (some m, 0) := by
  have hQ := newK_Q h
  obtain ⟨k0, ks, p0, ss, rfl, h1, h2, h3, h4, h5, h6⟩ := newK_inv h
  obtain ⟨c1, c2, c3, c4⟩ := (chk0_iff _).1 h1
  obtain ⟨m1, m2, m3, m4⟩ := make_of h2
  obtain ⟨o1, o2⟩ := own_q h5
  have hb := bend_len ss p0 ks
  have hm := bend_mem ss p0 ks
  obtain ⟨B, hB⟩ : ∃ B, bendF p0 ss ks = B := ⟨_, rfl⟩
  rw [hB] at h3 h4 h5 m1 o1 o2 hb hm
  have hlen : m.knots.length ≤ 64 := by simp only [List.length_cons] at c2; omega
  have hne : m.knots ≠ [] := by intro e; rw [e] at o2; simp at o2
  have hc : chkK m.knots = 0 := (chk0_iff _).2 ⟨hne, hlen, hQ.kr, hQ.rk⟩
  obtain ⟨a, K, hk⟩ := List.exists_cons_of_ne_nil hne
  have hsl : (slopesS m.knots).1.length = K.length := by
    have hK : K ≠ [] := by intro e; rw [hk, e] at o2; simp at o2
    unfold slopesS
    rw [if_neg (by rw [o2]; omega), hk]
    exact slope_len K a 0
  have hsn : (slopesS m.knots).1 ≠ [] := by
    intro e; rw [e] at hsl; have := o2; rw [hk] at this; simp at this hsl; omega
  obtain ⟨q0, qs, hqs⟩ := List.exists_cons_of_ne_nil hsn
  have hsq : slopesS (a :: K) = (q0 :: qs, 0) := by rw [← hk]; exact Prod.ext hqs h6
  obtain ⟨n1, n2, n3, n4⟩ := make_of hsq
  have hM : PL.make ((a :: K).map qk) = PL.make ((k0 :: ks).map qk) := by rw [← hk, hQ.kn, (PL.Mp.knots_spec hQ.val).2]
  rw [n1, m1] at hM
  simp only [PL.Mp.mk.injEq] at hM
  have e0 : q0 = p0 := qr_inj n2 m2 hM.1
  subst e0
  have hm2 := bend_mem qs q0 K
  have e1 : bendF q0 qs K = B := by
    refine map_inj_on (f := bq) (P := fun a => (rRight a.1.1 = true ∧ rRight a.1.2 = true) ∧ rRight a.2 = true) (fun a b => bq_inj) _ _ ?_ ?_ hM.2.2
    · intro x hx
      have := hm2 x hx
      exact ⟨hQ.kr _ (by rw [hk]; exact List.mem_cons_of_mem _ this.1), n3 _ this.2⟩
    · intro x hx
      have := hm x hx
      exact ⟨c3 _ (List.mem_cons_of_mem _ this.1), m3 _ this.2⟩
  have hown : ownK q0 B a = (m.knots, 0) := by
    cases B with
    | cons b B' => exact h5
    | nil =>
      have h5 : lineS k0 q0 = (m.knots, 0) := h5
      unfold lineS at h5
      dsimp only at h5
      simp only [Prod.mk.injEq] at h5
      obtain ⟨g5, g6⟩ := h5
      obtain ⟨y1, f1, g1⟩ := at_ok g6
      obtain ⟨_, f0, g0⟩ := at_ok y1
      rw [g1, g0] at g5
      obtain ⟨_, _, _, _, x0r, a0⟩ := along_ok (pr0 f0)
      obtain ⟨_, _, _, _, x1r, a1⟩ := along_ok (pr0 f1)
      have ha : a = ((0, 1), (alongS k0 q0 (0, 1)).1) := by rw [hk] at g5; exact (List.cons.inj g5).1.symm
      have s0 := along_self (k := a) (s := q0) (by rw [ha]; exact right_0) (by rw [ha]; exact x0r) m2
      have ha1 : a.1 = (0, 1) := by rw [ha]
      have ha2 : a.2 = (alongS k0 q0 (0, 1)).1 := by rw [ha]
      rw [ha1] at s0
      obtain ⟨z1, hz1⟩ : ∃ z, (alongS k0 q0 (1, 1)).1 = z := ⟨_, rfl⟩
      rw [hz1] at x1r a1 g5
      have s1 : alongS a q0 (1, 1) = (z1, 0) := by
        unfold alongS
        rw [ha1, rSub_of right_1 right_0 right_1 (by rw [qr_0, qr_1]; grind)]
        dsimp only
        rw [doS_0, rMul_of right_1 m2 m2 (by rw [qr_1]; grind)]
        dsimp only
        rw [doS_0]
        exact rAdd_of (by rw [ha2]; exact x0r) m2 x1r (by rw [ha2, a0, a1, qr_0, qr_1]; grind)
      show lineS a q0 = (m.knots, 0)
      unfold lineS
      have t0 : atS 0 a q0 (0, 1) = (((0, 1), a.2), 0) := by unfold atS; rw [if_pos rfl, s0]
      have t1 : atS 0 a q0 (1, 1) = (((1, 1), z1), 0) := by unfold atS; rw [if_pos rfl, s1]
      dsimp only
      rw [t0]
      dsimp only
      rw [t1]
      rw [← g5, ha2]
  rw [newK_ok hc h6 hqs hk]
  unfold postK
  rw [e1, hown]
  unfold endK
  rw [if_neg (by simp), if_neg (by simp [h6])]
  obtain ⟨mk, ms, mb⟩ := m
  simp only at h3 h4
  rw [h3, h4]
/-- a knot laid into rising ones -/
def insK (t x : Rt) : List Kn → List Kn
  | [] => [(t, x)]
  | k :: l => if rCmp t k.1 < 0 then (t, x) :: k :: l else k :: insK t x l
theorem insK_q {G : Rat → Rat} {t x : Rt} (ht : rRight t = true) (hx : qr x = G (qr t)) : ∀ (l : List Kn), (∀ k ∈ l, rRight k.1 = true ∧ qr k.2 = G (qr k.1)) → (insK t x l).map qk = PL.graph G (PL.insT (qr t) ((l.map qk).map (·.1))) := by
  intro l
  induction l with
  | nil => intro _; simp [insK, PL.insT, PL.graph, qk, hx]
  | cons k l ih =>
    intro h
    have hk := h k List.mem_cons_self
    have i := ih (fun y hy => h y (List.mem_cons_of_mem _ hy))
    have hg : (l.map qk) = PL.graph G ((l.map qk).map (·.1)) := by
      simp only [PL.graph, List.map_map]
      refine List.map_congr_left fun y hy => ?_
      exact Prod.ext rfl (h y (List.mem_cons_of_mem _ hy)).2
    simp only [insK, List.map_cons, PL.insT]
    have e := rCmp_lt ht hk.1
    have ek : (qk k).1 = qr k.1 := rfl
    by_cases hc : rCmp t k.1 < 0
    · rw [if_pos hc, ek, if_pos (e.1 hc)]
      simp only [List.map_cons, PL.graph, List.cons.injEq]
      refine ⟨Prod.ext rfl hx, Prod.ext rfl hk.2, ?_⟩
      exact hg
    · rw [if_neg hc, ek, if_neg (fun h2 => hc (e.2 h2))]
      simp only [List.map_cons, i, PL.graph, List.cons.injEq]
      exact ⟨Prod.ext rfl hk.2, trivial⟩
theorem only_same {l : List Kn} {m o : MapV} {t x : Rt} (h : newK l = (some m, 0)) (ha : m.app t = (x, 0)) (h2 : 2 ≤ l.length) (hn : ∀ k ∈ l, rCmp t k.1 ≠ 0) (ho : newK (insK t x l) = (some o, 0)) : o.knots = m.knots := by
  have hQ := newK_Q h
  have hO := newK_Q ho
  obtain ⟨ht, hx, hq⟩ := hQ.app ha
  have hG : ∀ k ∈ l, rRight k.1 = true ∧ qr k.2 = (PL.make (l.map qk)).ev (qr k.1) := fun k hk => ⟨(hQ.lr k hk).1, by
    rw [PL.make_ev hQ.rs]
    exact (PL.evL_at _ hQ.rs (qk k) (List.mem_map_of_mem hk)).symm⟩
  have e := insK_q ht hq l hG
  have hnot : qr t ∉ (l.map qk).map (·.1) := by
    intro hm
    simp only [List.map_map, List.mem_map, Function.comp] at hm
    obtain ⟨k, hk, e⟩ := hm
    have := hn k hk
    rw [rCmp_q ht (hQ.lr k hk).1] at this
    exact this (if_pos e.symm)
  have hL : ∃ p q L, l.map qk = p :: q :: L := by
    match l, h2 with
    | a :: b :: L, _ => exact ⟨_, _, _, rfl⟩
  obtain ⟨p, q, L, hL⟩ := hL
  have hr := hQ.rs
  have key : PL.make ((insK t x l).map qk) = PL.make (l.map qk) := by
    rw [e]
    rw [hL] at hr hnot ⊢
    exact (PL.insert_same hr (qr t) hnot).2
  refine map_inj_on (f := qk) (P := fun a => rRight a.1 = true ∧ rRight a.2 = true) (fun a b => qk_inj) _ _ hO.kr hQ.kr ?_
  rw [hO.kn, hQ.kn, key]
theorem insK_len (t x : Rt) : ∀ l : List Kn, (insK t x l).length = l.length + 1 := by
  intro l
  induction l with
  | nil => rfl
  | cons k l ih => simp only [insK]; split <;> simp [ih]
end Go.Proofs.Ythlpaglldhgmfaa.PA
namespace Go.Proofs.Ythlpaglldhgmfaa.PA
open Go
set_option linter.unusedSimpArgs false
set_option linter.unusedVariables false
def swapK (l : List Kn) : List Kn := l.map fun k => (k.2, k.1)
/-- the map's bends -/
def turnsK (m : MapV) : List Kn := m.knots.tail.dropLast
/-- where times come from: the first error -/
def undF (m : MapV) : List Rt → List Rt → List Rt × Int
  | [], acc => (acc, 0)
  | t :: l, acc => if (m.undo t).2 ≠ 0 then ([], (m.undo t).2) else undF m l (acc ++ [(m.undo t).1])
/-- two rising lists xs_ one -/
def mrgF : List Rt → List Rt → List Rt
  | [], ys_ => ys_
  | a :: xs_, [] => a :: xs_
  | a :: xs_, b :: ys_ => if rCmp a b < 0 then a :: mrgF xs_ (b :: ys_) else if rCmp b a < 0 then b :: mrgF (a :: xs_) ys_ else a :: mrgF xs_ ys_
termination_by xs_ ys_ => xs_.length + ys_.length
/-- with a time ahead, one behind -/
def edgeS : List Rt → List Rt × Int
  | [] => ([(0, 1), (1, 1)], 0)
  | t :: l => ((rSub t (1, 1)).1 :: ((t :: l) ++ [(doS rAdd (rSub t (1, 1)).2 ((t :: l).getLast (by simp)) (1, 1)).1]), (doS rAdd (rSub t (1, 1)).2 ((t :: l).getLast (by simp)) (1, 1)).2)
def ptsS (m n : MapV) : List Rt × Int :=
  if (undF m ((turnsK n).map (·.1)) []).2 ≠ 0 then ([], (undF m ((turnsK n).map (·.1)) []).2) else edgeS (mrgF ((turnsK m).map (·.1)) (undF m ((turnsK n).map (·.1)) []).1)
/-- times sent through both -/
def thrF (m n : MapV) : List Rt → List Kn → List Kn × Int
  | [], acc => (acc, 0)
  | t :: l, acc => if (m.app t).2 ≠ 0 then ([], (m.app t).2) else if (n.app (m.app t).1).2 ≠ 0 then ([], (n.app (m.app t).1).2) else thrF m n l (acc ++ [(t, (n.app (m.app t).1).1)])
def thenS (m n : MapV) : Option MapV × Int :=
  if (ptsS m n).2 ≠ 0 then (none, (ptsS m n).2) else if (thrF m n (ptsS m n).1 []).2 ≠ 0 then (none, (thrF m n (ptsS m n).1 []).2) else newK (thrF m n (ptsS m n).1 []).1
def invS (m : MapV) : Option MapV × Int := newK (swapK m.knots)
/-- what a map does, in numbers -/
noncomputable def MapV.F (m : MapV) (t : Rat) : Rat := (PL.make (m.knots.map qk)).ev t
def Mk (m : MapV) : Prop := newK m.knots = (some m, 0)
theorem mk_of {l : List Kn} {m : MapV} (h : newK l = (some m, 0)) : Mk m := own_again h
theorem Mk.q {m : MapV} (h : Mk m) : MapQ m.knots m := newK_Q h
theorem F_of {l : List Kn} {m : MapV} (h : newK l = (some m, 0)) (t : Rat) : m.F t = (PL.make (l.map qk)).ev t := by
  unfold MapV.F
  rw [(newK_Q h).kn, (PL.Mp.knots_spec (newK_Q h).val).2]
theorem Mk.app {m : MapV} (h : Mk m) {t x : Rt} (ha : m.app t = (x, 0)) : rRight t = true ∧ rRight x = true ∧ qr x = m.F (qr t) := h.q.app ha
theorem Mk.mono {m : MapV} (h : Mk m) {t u : Rat} (e : t < u) : m.F t < m.F u := PL.Mp.ev_mono h.q.val e
theorem Mk.lt {m : MapV} (h : Mk m) {t u : Rat} (e : m.F t < m.F u) : t < u := by
  by_cases c : u ≤ t
  · exact absurd (PL.Mp.ev_le h.q.val c) (Rat.not_le.2 e)
  · exact Rat.not_le.1 c
theorem Mk.inj {m : MapV} (h : Mk m) {t u : Rat} (e : m.F t = m.F u) : t = u := by
  have a : t ≤ u := PL.Mp.le_of_ev h.q.val (show m.F t ≤ m.F u by rw [e]; exact Rat.le_refl)
  have b : u ≤ t := PL.Mp.le_of_ev h.q.val (show m.F u ≤ m.F t by rw [e]; exact Rat.le_refl)
  exact Rat.le_antisymm a b
theorem Mk.same {m n : MapV} (h : Mk m) (h2 : Mk n) (e : ∀ t, m.F t = n.F t) : m.knots = n.knots := by
  have key : PL.make (m.knots.map qk) = PL.make (n.knots.map qk) := PL.Mp.unique h.q.val h2.q.val e
  refine map_inj_on (f := qk) (P := fun a => rRight a.1 = true ∧ rRight a.2 = true) (fun a b => qk_inj) _ _ h.q.kr h2.q.kr ?_
  rw [h.q.kn, h2.q.kn, key]
theorem slp_swap {p q : Rat × Rat} : PL.slp (p.2, p.1) (q.2, q.1) = 1 / PL.slp p q := by
  simp only [PL.slp]; rw [Rat.div_def, Rat.div_def, Rat.div_def, Rat.inv_mul_rev, Rat.inv_inv, Rat.one_mul]
theorem slF_swap : ∀ (l : List (Rat × Rat)) (p : Rat × Rat), slF (p.2, p.1) (PL.swap l) = (slF p l).map (fun s => 1 / s) := by
  intro l
  induction l with
  | nil => intro p; rfl
  | cons q l ih =>
    intro p
    simp only [PL.swap, List.map_cons, slF, slp_swap, List.cons.injEq, true_and]
    exact ih q
theorem Mk.undo {m : MapV} (h : Mk m) {t x : Rt} (ha : m.undo t = (x, 0)) : rRight t = true ∧ rRight x = true ∧ m.F (qr x) = qr t := by
  obtain ⟨p, q, L, o1, o2, o3, o4⟩ := h.q.own
  unfold MapV.undo at ha
  split at ha
  · rename_i ht
    obtain ⟨a1, a2, a3, a4, a5, a6⟩ := back_ok ha
    refine ⟨ht, a5, ?_⟩
    obtain ⟨hi, s1, s2⟩ := at_spec m (·.2) t (by omega)
    have hrk := h.q.rk
    have hsw := PL.rising_swap _ hrk
    have hev : ∀ u, m.F u = PL.evL (m.knots.map qk) u := fun u => by unfold MapV.F; rw [PL.make_ev hrk]
    have hss : PL.swap (PL.swap (m.knots.map qk)) = m.knots.map qk := by simp [PL.swap, Function.comp_def]
    have hback : ∀ u, m.F (PL.evL (PL.swap (m.knots.map qk)) u) = u := fun u => by
      have := PL.evL_swap _ hsw u
      rw [hss] at this
      rw [hev]; exact this
    rw [← hback (qr t)]
    congr 1
    have hsl : PL.swap (m.knots.map qk) = (p.2, p.1) :: (q.2, q.1) :: PL.swap L := by rw [o1]; rfl
    have hel : ∀ j (hj : j < m.knots.length), ∃ hj', ((p.2, p.1) :: (q.2, q.1) :: PL.swap L)[j]'hj' = ((qk m.knots[j]).2, (qk m.knots[j]).1) := by
      intro j hj
      have : j < (PL.swap (m.knots.map qk)).length := by simpa [PL.swap] using hj
      refine ⟨by rw [← hsl]; exact this, ?_⟩
      exact (List.getElem_of_eq hsl.symm _).trans (by simp [PL.swap])
    have hm : ∀ j (hj : j < m.knots.length), rRight (m.knots[j]).2 = true := fun j hj => (h.q.kr _ (List.getElem_mem hj)).2
    obtain ⟨hi', e1⟩ := hel _ hi
    rw [hsl] at hsw ⊢
    have hlen : (PL.swap L).length = L.length := by simp [PL.swap]
    rw [evL_idx (qr t) (PL.swap L) (p.2, p.1) (q.2, q.1) (m.at (·.2) t) hi' hsw ?_ ?_, e1, a6]
    · have ek : m.knot (m.at (·.2) t) = m.knots[m.at (·.2) t] := by unfold MapV.knot; rw [List.getD_eq_getElem?_getD, List.getElem?_eq_getElem hi]; rfl
      rw [ek]
      have e2 : slF (p.2, p.1) ((q.2, q.1) :: PL.swap L) = (m.slopes.map qr).map (fun s => 1 / s) := by rw [← o2]; exact slF_swap (q :: L) p
      rw [e2]
      have hj : min (m.at (·.2) t) L.length < m.slopes.length := by omega
      unfold MapV.slope
      rw [show m.slopes.length - 1 = L.length by omega, hlen]
      rw [List.getD_eq_getElem?_getD, List.getD_eq_getElem?_getD, List.getElem?_map, List.getElem?_map, List.getElem?_eq_getElem hj]
      simp only [Option.map_some, Option.getD_some, qk]
      rw [Rat.div_def, Rat.div_def, Rat.one_mul]
    · rcases s1 with s1 | s1
      · exact .inl s1
      · rw [e1]; exact .inr ((rCmp_le (hm _ hi) ht).1 s1)
    · intro j hj hlt
      have hj2 : j < m.knots.length := by rw [o3]; simpa [hlen] using hj
      obtain ⟨_, e2⟩ := hel j hj2
      rw [e2]
      have := s2 j hj2 hlt
      rw [rCmp_le (hm j hj2) ht] at this
      exact Rat.not_le.1 this
  · cases ha
theorem Mk.inv {m v : MapV} (h : Mk m) (hv : invS m = (some v, 0)) : Mk v ∧ (∀ t, v.F (m.F t) = t) ∧ (∀ t, m.F (v.F t) = t) := by
  have e : (swapK m.knots).map qk = PL.swap (m.knots.map qk) := by simp [swapK, PL.swap, Function.comp_def, qk]
  have h1 : ∀ t, v.F (m.F t) = t := fun t => by
    rw [F_of hv, e, h.q.kn]
    unfold MapV.F
    exact PL.Mp.inv h.q.val t
  refine ⟨mk_of hv, h1, fun t => ?_⟩
  obtain ⟨u, hu⟩ := PL.Mp.onto h.q.val t
  have hu : m.F u = t := hu
  rw [← hu, h1]
/-- turns in numbers -/
theorem turns_q {m : MapV} (h : Mk m) : ∀ j ∈ (PL.make (m.knots.map qk)).J, j.1.1 ∈ (turnsK m).map (fun k => qr k.1) := by
  intro j hj
  obtain ⟨p, q, L, o1, o2, o3, o4⟩ := h.q.own
  rw [o1] at hj
  have := PL.make_turns j hj
  have e : (turnsK m).map qk = (q :: L).dropLast := by unfold turnsK; rw [List.map_dropLast, List.map_tail, o1]; rfl
  rw [← e] at this
  obtain ⟨k, hk, e2⟩ := List.mem_map.1 this
  exact List.mem_map.2 ⟨k, hk, by rw [← e2]; rfl⟩
theorem up_map_dropLast : ∀ (l : List Rat), PL.Up l → PL.Up l.dropLast := by
  intro l
  induction l with
  | nil => intro _; trivial
  | cons x l ih =>
    intro h
    cases l with
    | nil => trivial
    | cons y l =>
      cases l with
      | nil => trivial
      | cons z l => exact ⟨h.1, ih h.2⟩
theorem turns_up {m : MapV} (h : Mk m) : PL.Up ((turnsK m).map (fun k => qr k.1)) := by
  have hr := PL.ins_up h.q.rk
  have e : (turnsK m).map (fun k => qr k.1) = ((m.knots.map qk).map (·.1)).tail.dropLast := by unfold turnsK; rw [← List.map_tail, ← List.map_tail, ← List.map_dropLast, ← List.map_dropLast, List.map_map]; rfl
  rw [e]
  refine up_map_dropLast _ ?_
  cases hc : (m.knots.map qk).map (·.1) with
  | nil => trivial
  | cons a l => rw [hc] at hr; exact hr.tail
theorem undF_ok {m : MapV} (h : Mk m) : ∀ (l acc xs : List Rt), undF m l acc = (xs, 0) → ∃ ys, xs = acc ++ ys ∧ (∀ y ∈ ys, rRight y = true) ∧ ys.map (fun y => m.F (qr y)) = l.map qr := by
  intro l
  induction l with
  | nil => intro acc xs e; simp only [undF, Prod.mk.injEq, and_true] at e; exact ⟨[], by simp [e], fun y hy => (by cases hy), rfl⟩
  | cons t l ih =>
    intro acc xs e
    simp only [undF] at e
    split at e
    · rename_i hne; simp only [Prod.mk.injEq] at e; exact absurd e.2 hne
    · rename_i hz
      have hz : (m.undo t).2 = 0 := by omega
      obtain ⟨ys, e1, e2, e3⟩ := ih _ _ e
      obtain ⟨_, hr, hq⟩ := h.undo (pr0 hz)
      refine ⟨(m.undo t).1 :: ys, by rw [e1]; simp, ?_, ?_⟩
      · intro y hy
        rcases List.mem_cons.1 hy with rfl | hy
        · exact hr
        · exact e2 y hy
      · simp only [List.map_cons, e3, hq]
theorem up_of_F {m : MapV} (h : Mk m) : ∀ (ys : List Rt), PL.Up (ys.map (fun y => m.F (qr y))) → PL.Up (ys.map qr) := by
  intro ys
  induction ys with
  | nil => intro _; trivial
  | cons a ys ih =>
    intro hu
    cases ys with
    | nil => trivial
    | cons b ys => exact ⟨h.lt hu.1, ih hu.2⟩
theorem mrgF_mem : ∀ (n : Nat) (a b : List Rt), a.length + b.length ≤ n → (∀ x ∈ a, rRight x = true) → (∀ x ∈ b, rRight x = true) → ∀ x, x ∈ mrgF a b ↔ x ∈ a ∨ x ∈ b := by
  intro n
  induction n with
  | zero => intro a b hl _ _ x; cases a <;> cases b <;> simp_all [mrgF]
  | succ n ih =>
    intro a b hl ha hb x
    cases a with
    | nil => simp [mrgF]
    | cons y a =>
      cases b with
      | nil => simp [mrgF]
      | cons z b =>
        rw [mrgF]
        have ha2 : ∀ x ∈ a, rRight x = true := fun x hx => ha x (List.mem_cons_of_mem _ hx)
        have hb2 : ∀ x ∈ b, rRight x = true := fun x hx => hb x (List.mem_cons_of_mem _ hx)
        simp only [List.length_cons] at hl
        split
        · have := ih a (z :: b) (by simp only [List.length_cons]; omega) ha2 hb x
          simp only [List.mem_cons] at this ⊢
          rw [this, or_assoc]
        · rename_i h1
          split
          · have := ih (y :: a) b (by simp only [List.length_cons]; omega) ha hb2 x
            simp only [List.mem_cons] at this ⊢
            rw [this, ← or_assoc, ← or_assoc, or_comm (a := x = z)]
            simp only [or_assoc]
            constructor
            · rintro (h | h | h | h) <;> simp [h]
            · rintro (h | h | h | h) <;> simp [h]
          · rename_i h2
            have ry := ha y List.mem_cons_self
            have rz := hb z List.mem_cons_self
            rw [rCmp_lt ry rz] at h1
            rw [rCmp_lt rz ry] at h2
            have e : y = z := qr_inj ry rz (Rat.le_antisymm (Rat.not_lt.1 h2) (Rat.not_lt.1 h1))
            subst e
            have := ih a b (by omega) ha2 hb2 x
            simp only [List.mem_cons] at this ⊢
            rw [this]
            constructor
            · rintro (h | h | h) <;> simp [h]
            · rintro ((h | h) | h | h) <;> simp [h]
theorem up_cons {x : Rat} {l : List Rat} (h : ∀ y ∈ l, x < y) (hu : PL.Up l) : PL.Up (x :: l) := by
  cases l with
  | nil => trivial
  | cons y l => exact ⟨h y List.mem_cons_self, hu⟩
theorem mrgF_up : ∀ (n : Nat) (a b : List Rt), a.length + b.length ≤ n → (∀ x ∈ a, rRight x = true) → (∀ x ∈ b, rRight x = true) → PL.Up (a.map qr) → PL.Up (b.map qr) → PL.Up ((mrgF a b).map qr) := by
  intro n
  induction n with
  | zero => intro a b hl _ _ _ _; cases a <;> cases b <;> simp_all [mrgF, PL.Up]
  | succ n ih =>
    intro a b hl ha hb ua ub
    cases a with
    | nil => simpa [mrgF] using ub
    | cons y a =>
      cases b with
      | nil => simpa [mrgF] using ua
      | cons z b =>
        rw [mrgF]
        have ha2 : ∀ x ∈ a, rRight x = true := fun x hx => ha x (List.mem_cons_of_mem _ hx)
        have hb2 : ∀ x ∈ b, rRight x = true := fun x hx => hb x (List.mem_cons_of_mem _ hx)
        have ry := ha y List.mem_cons_self
        have rz := hb z List.mem_cons_self
        simp only [List.length_cons] at hl
        simp only [List.map_cons] at ua ub
        have lay : ∀ x ∈ a, qr y < qr x := fun x hx => ua.lt _ (List.mem_map_of_mem hx)
        have lbz : ∀ x ∈ b, qr z < qr x := fun x hx => ub.lt _ (List.mem_map_of_mem hx)
        split
        · rename_i h1
          rw [rCmp_lt ry rz] at h1
          simp only [List.map_cons]
          refine up_cons ?_ (ih a (z :: b) (by simp only [List.length_cons]; omega) ha2 hb ua.tail ub)
          intro q hq
          obtain ⟨x, hx, rfl⟩ := List.mem_map.1 hq
          rcases (mrgF_mem _ a (z :: b) (Nat.le_refl _) ha2 hb x).1 hx with hx | hx
          · exact lay x hx
          · rcases List.mem_cons.1 hx with rfl | hx
            · exact h1
            · have := lbz x hx; grind
        · rename_i h1
          split
          · rename_i h2
            rw [rCmp_lt rz ry] at h2
            simp only [List.map_cons]
            refine up_cons ?_ (ih (y :: a) b (by simp only [List.length_cons]; omega) ha hb2 ua ub.tail)
            intro q hq
            obtain ⟨x, hx, rfl⟩ := List.mem_map.1 hq
            rcases (mrgF_mem _ (y :: a) b (Nat.le_refl _) ha hb2 x).1 hx with hx | hx
            · rcases List.mem_cons.1 hx with rfl | hx
              · exact h2
              · have := lay x hx; grind
            · exact lbz x hx
          · rename_i h2
            rw [rCmp_lt ry rz] at h1
            rw [rCmp_lt rz ry] at h2
            simp only [List.map_cons]
            refine up_cons ?_ (ih a b (by omega) ha2 hb2 ua.tail ub.tail)
            intro q hq
            obtain ⟨x, hx, rfl⟩ := List.mem_map.1 hq
            rcases (mrgF_mem _ a b (Nat.le_refl _) ha2 hb2 x).1 hx with hx | hx
            · exact lay x hx
            · have := lbz x hx; grind
theorem thrF_ok {m n : MapV} (h : Mk m) (hn : Mk n) : ∀ (l : List Rt) (acc K : List Kn), thrF m n l acc = (K, 0) → ∃ K2, K = acc ++ K2 ∧ K2.map qk = PL.graph (fun t => n.F (m.F t)) (l.map qr) := by
  intro l
  induction l with
  | nil => intro acc K e; simp only [thrF, Prod.mk.injEq, and_true] at e; exact ⟨[], by simp [e], rfl⟩
  | cons t l ih =>
    intro acc K e
    simp only [thrF] at e
    split at e
    · rename_i hne; simp only [Prod.mk.injEq] at e; exact absurd e.2 hne
    · rename_i hz
      split at e
      · rename_i hne; simp only [Prod.mk.injEq] at e; exact absurd e.2 hne
      · rename_i hy
        obtain ⟨K2, e1, e2⟩ := ih _ _ e
        obtain ⟨_, _, hq⟩ := h.app (pr0 (show (m.app t).2 = 0 by omega))
        obtain ⟨_, _, hp⟩ := hn.app (pr0 (show (n.app (m.app t).1).2 = 0 by omega))
        refine ⟨(t, (n.app (m.app t).1).1) :: K2, by rw [e1]; simp, ?_⟩
        simp only [List.map_cons, e2, PL.graph, qk, hp, hq]
theorem edge_ok {l : List Rt} {P : List Rt} (h : edgeS l = (P, 0)) (hu : PL.Up (l.map qr)) : ∃ x y L, P.map qr = x :: y :: L ∧ PL.Up (x :: y :: L) ∧ (y :: L).dropLast = l.map qr := by
  cases l with
  | nil =>
    simp only [edgeS, Prod.mk.injEq, and_true] at h
    subst h
    refine ⟨0, 1, [], ?_, ⟨by decide, trivial⟩, rfl⟩
    simp [qr_0, qr_1]
  | cons t l =>
    simp only [edgeS, Prod.mk.injEq] at h
    obtain ⟨rfl, h2⟩ := h
    obtain ⟨h3, h4⟩ := doS_e h2
    obtain ⟨_, _, _, q1⟩ := rSub_ok (pr0 h3)
    obtain ⟨_, _, _, q2⟩ := rAdd_ok (pr0 h4)
    rw [h3, doS_0]
    rw [qr_1] at q1 q2
    have hg : ∀ (l : List Rt) (t : Rt), PL.Up ((t :: l).map qr) → ∀ z, qr ((t :: l).getLast (by simp)) < z → PL.Up ((t :: l).map qr ++ [z]) := by
      intro l
      induction l with
      | nil => intro t _ z hz; exact ⟨by simpa using hz, trivial⟩
      | cons a l ih => intro t hu z hz; exact ⟨hu.1, ih a hu.2 z (by simpa using hz)⟩
    have hg2 := hg l t hu _ (show qr ((t :: l).getLast (by simp)) < qr (rAdd ((t :: l).getLast (by simp)) (1, 1)).1 by rw [q2]; grind)
    refine ⟨qr (rSub t (1, 1)).1, qr t, l.map qr ++ [qr (rAdd ((t :: l).getLast (by simp)) (1, 1)).1], by simp, ⟨by rw [q1]; grind, by simpa using hg2⟩, ?_⟩
    rw [← List.cons_append, List.dropLast_concat]
    rfl
theorem Mk.thn {m n o : MapV} (h : Mk m) (hn : Mk n) (ho : thenS m n = (some o, 0)) : Mk o ∧ ∀ t, o.F t = n.F (m.F t) := by
  unfold thenS at ho
  split at ho
  · cases ho
  · rename_i hp
    split at ho
    · cases ho
    · rename_i ht
      refine ⟨mk_of ho, fun t => ?_⟩
      rw [F_of ho]
      have ht : (thrF m n (ptsS m n).1 []).2 = 0 := Decidable.not_not.1 ht
      obtain ⟨K2, e1, e2⟩ := thrF_ok h hn (ptsS m n).1 [] (thrF m n (ptsS m n).1 []).1 (Prod.ext rfl ht)
      rw [e1, List.nil_append, e2]
      have hp : (ptsS m n).2 = 0 := Decidable.not_not.1 hp
      unfold ptsS at hp ⊢
      split at hp
      · rename_i hz; exact absurd hp hz
      · rename_i hz
        rw [if_neg hz]
        have hz : (undF m ((turnsK n).map (·.1)) []).2 = 0 := by omega
        obtain ⟨ys, f1, f2, f3⟩ := undF_ok h _ [] (undF m ((turnsK n).map (·.1)) []).1 (Prod.ext rfl hz)
        rw [List.nil_append] at f1
        rw [f1] at hp ⊢
        have hra : ∀ x ∈ (turnsK m).map (·.1), rRight x = true := by
          intro x hx
          obtain ⟨k, hk, rfl⟩ := List.mem_map.1 hx
          exact (h.q.kr k (List.mem_of_mem_tail (List.dropLast_subset _ hk))).1
        have um : PL.Up (((turnsK m).map (·.1)).map qr) := by rw [List.map_map]; exact turns_up h
        have uy : PL.Up (ys.map qr) := by
          refine up_of_F h ys ?_
          rw [f3, List.map_map]
          exact turns_up hn
        obtain ⟨x, y, L, g1, g2, g3⟩ := edge_ok (Prod.ext rfl hp) (mrgF_up _ _ _ (Nat.le_refl _) hra f2 um uy)
        rw [g1]
        refine PL.comp_ev h.q.val hn.q.val g2 ?_ t
        intro z hz
        rw [g3]
        rcases hz with ⟨j, hj, rfl⟩ | ⟨j, hj, hz⟩
        · obtain ⟨k, hk, e⟩ := List.mem_map.1 (turns_q h j hj)
          exact List.mem_map.2 ⟨k.1, (mrgF_mem _ _ _ (Nat.le_refl _) hra f2 _).2 (.inl (List.mem_map_of_mem hk)), e⟩
        · have := turns_q hn j hj
          have e3 : (turnsK n).map (fun k => qr k.1) = ys.map (fun y => m.F (qr y)) := by rw [f3, List.map_map]; rfl
          rw [e3] at this
          obtain ⟨w, hw, e⟩ := List.mem_map.1 this
          have : qr w = z := h.inj (show m.F (qr w) = m.F z from e.trans hz.symm)
          exact List.mem_map.2 ⟨w, (mrgF_mem _ _ _ (Nat.le_refl _) hra f2 _).2 (.inr hw), this⟩
/-- RetimeInverts in plain lists -/
theorem inv_knots {m v w : MapV} (h : Mk m) (hv : invS m = (some v, 0)) (hw : invS v = (some w, 0)) : w.knots = m.knots := by
  obtain ⟨a1, a2, a3⟩ := h.inv hv
  obtain ⟨b1, b2, b3⟩ := a1.inv hw
  refine b1.same h fun t => ?_
  refine a1.inj ?_
  rw [b3, a2]
theorem inv_still {m v s : MapV} (h : Mk m) (hv : invS m = (some v, 0)) (hs : thenS m v = (some s, 0)) : s.knots = [((0, 1), (0, 1)), ((1, 1), (1, 1))] := by
  obtain ⟨a1, a2, a3⟩ := h.inv hv
  obtain ⟨b1, b2⟩ := h.thn a1 hs
  refine map_inj_on (f := qk) (P := fun a => rRight a.1 = true ∧ rRight a.2 = true) (fun a b => qk_inj) _ _ b1.q.kr ?_ ?_
  · intro k hk
    rcases List.mem_cons.1 hk with rfl | hk
    · exact ⟨right_0, right_0⟩
    · rcases List.mem_cons.1 hk with rfl | hk
      · exact ⟨right_1, right_1⟩
      · cases hk
  · rw [b1.q.kn, PL.still_eq b1.q.val (fun t => (b2 t).trans (a2 t))]
    simp [qk, qr_0, qr_1]
theorem inv_app {m v : MapV} (h : Mk m) (hv : invS m = (some v, 0)) {t x y : Rt} (hx : m.app t = (x, 0)) (hy : v.app x = (y, 0)) : y = t := by
  obtain ⟨a1, a2, a3⟩ := h.inv hv
  obtain ⟨c1, c2, c3⟩ := h.app hx
  obtain ⟨d1, d2, d3⟩ := a1.app hy
  exact qr_inj d2 c1 (by rw [d3, c3, a2])
theorem inv_undo {m v : MapV} (h : Mk m) (hv : invS m = (some v, 0)) {t x z : Rt} (hx : m.app t = (x, 0)) (hz : v.undo t = (z, 0)) : z = x := by
  obtain ⟨a1, a2, a3⟩ := h.inv hv
  obtain ⟨c1, c2, c3⟩ := h.app hx
  obtain ⟨d1, d2, d3⟩ := a1.undo hz
  refine qr_inj d2 c2 (a1.inj ?_)
  rw [d3, c3, a2]
theorem undo_app {m : MapV} (h : Mk m) {t x y : Rt} (hx : m.app t = (x, 0)) (hy : m.undo x = (y, 0)) : y = t := by
  obtain ⟨c1, c2, c3⟩ := h.app hx
  obtain ⟨d1, d2, d3⟩ := h.undo hy
  exact qr_inj d2 c1 (h.inj (by rw [d3, c3]))
/-- RetimeComposes in plain lists -/
theorem then_app {m n o : MapV} (h : Mk m) (hn : Mk n) (ho : thenS m n = (some o, 0)) {t x y z : Rt} (hx : m.app t = (x, 0)) (hy : n.app x = (y, 0)) (hz : o.app t = (z, 0)) : z = y := by
  obtain ⟨b1, b2⟩ := h.thn hn ho
  obtain ⟨c1, c2, c3⟩ := h.app hx
  obtain ⟨d1, d2, d3⟩ := hn.app hy
  obtain ⟨e1, e2, e3⟩ := b1.app hz
  exact qr_inj e2 d2 (by rw [e3, d3, b2, c3])
theorem then_undo {m n o : MapV} (h : Mk m) (hn : Mk n) (ho : thenS m n = (some o, 0)) {t x y z : Rt} (hx : m.app t = (x, 0)) (hy : n.app x = (y, 0)) (hz : o.undo y = (z, 0)) : z = t := by
  obtain ⟨b1, b2⟩ := h.thn hn ho
  obtain ⟨c1, c2, c3⟩ := h.app hx
  obtain ⟨d1, d2, d3⟩ := hn.app hy
  obtain ⟨e1, e2, e3⟩ := b1.undo hz
  exact qr_inj e2 c1 (b1.inj (by rw [e3, d3, b2, c3]))
theorem then_then {m n o mn no x y : MapV} (h : Mk m) (hn : Mk n) (ho : Mk o) (h1 : thenS m n = (some mn, 0)) (h2 : thenS n o = (some no, 0)) (h3 : thenS mn o = (some x, 0)) (h4 : thenS m no = (some y, 0)) : x.knots = y.knots := by
  obtain ⟨a1, a2⟩ := h.thn hn h1
  obtain ⟨b1, b2⟩ := hn.thn ho h2
  obtain ⟨c1, c2⟩ := a1.thn ho h3
  obtain ⟨d1, d2⟩ := h.thn b1 h4
  exact c1.same d1 fun t => by rw [c2, d2, a2, b2]
end Go.Proofs.Ythlpaglldhgmfaa.PA
namespace Go.Proofs.Ythlpaglldhgmfaa.PA
open Go Go.RowKit Go.Proofs.YthlpaglldhgmfaaW.PrintWords Go.Proofs.YthlpaglldhgmfaaW.PrintLast Go.Proofs.YthlpaglldhgmfaaW.PrintMore
set_option linter.unusedSimpArgs false
set_option linter.unusedVariables false
/-- a row's block, whatever its cells hold -/
def VR (w : World) (g n cap size : Nat) (e : TypeId) : Prop := n ≤ cap ∧ cap ≤ maxLen ∧ ∃ C, w.heap[g]? = some (.cells C e (0, 0)) ∧ C.size = cap * size
theorem VR.of_own {w : World} {base g n cap size : Nat} {e : TypeId} {xs : List Value} (h : w.ownsRow base e size (.slice (some ⟨g, 0, none⟩) n cap) n xs) : VR w g n cap size e := by
  rcases h.2 with ⟨h0, _⟩ | ⟨g', cap', cur, hv, hb, hg, hn, hm, hs, ht⟩
  · cases h0
  · cases hv; exact ⟨hn, hm, cur, hg, hs⟩
theorem VR.own {w : World} {base g n cap size : Nat} {e : TypeId} (h : VR w g n cap size e) (hb : base ≤ g) : ∃ xs, w.ownsRow base e size (.slice (some ⟨g, 0, none⟩) n cap) n xs := by
  obtain ⟨hn, hm, C, hg, hs⟩ := h
  refine ⟨C.toList.take (n * size), ?_, .inr ⟨g, cap, C, rfl, hb, hg, hn, hm, hs, rfl⟩⟩
  rw [List.length_take, Array.length_toList, hs]
  have := Nat.mul_le_mul_right size hn
  omega
theorem VR.set {w : World} {g n cap size : Nat} {e : TypeId} (h : VR w g n cap size e) (i : Nat) (u : Value) : VR (w.setCell ⟨g, i, none⟩ u) g n cap size e := by
  obtain ⟨hn, hm, C, hg, hs⟩ := h
  exact ⟨hn, hm, C.setIfInBounds i u, by rw [Hand.q1, hg]; rfl, by simp [hs]⟩
theorem VR.keep {w w' : World} {g n cap size : Nat} {e : TypeId} (h : VR w g n cap size e) (k : w'.heap[g]? = w.heap[g]?) : VR w' g n cap size e := by
  obtain ⟨hn, hm, C, hg, hs⟩ := h
  exact ⟨hn, hm, C, by rw [k]; exact hg, hs⟩
theorem VR.below {w w' : World} {g n cap size : Nat} {e : TypeId} (h : VR w g n cap size e) (k : Below w.heap.size w w') : VR w' g n cap size e := by
  obtain ⟨hn, hm, C, hg, hs⟩ := h
  exact ⟨hn, hm, C, Hand.kb k hg, hs⟩
theorem VR.lt {w : World} {g n cap size : Nat} {e : TypeId} (h : VR w g n cap size e) : g < w.heap.size := by
  obtain ⟨hn, hm, C, hg, hs⟩ := h
  exact (Hand.hz hg).1
theorem VR.cell {w : World} {g n cap size : Nat} {e : TypeId} (h : VR w g n cap size e) (i : Nat) (hi : i < cap * size) : ∃ u, w.cell? ⟨g, i, none⟩ = some u ∧ w.frozen? ⟨g, i, none⟩ = false := by
  obtain ⟨hn, hm, C, hg, hs⟩ := h
  exact ⟨_, Hand.cell_of hg _ _ (Array.getElem?_eq_getElem (by omega)), Hand.free_of hg i⟩
theorem F2.trans {g h : Nat} {a b c : World} (f : F2 g h a b) (k : F2 g h b c) : F2 g h a c :=
  ⟨k.os.trans f.os, k.tape.trans f.tape, k.output.trans f.output, Nat.le_trans f.size k.size, fun i hi h1 h2 => (k.block i (Nat.lt_of_lt_of_le hi f.size) h1 h2).trans (f.block i hi h1 h2)⟩
theorem F2.wide {g : Nat} {a b : World} (f : F2 g g a b) (h : Nat) : F2 g h a b := ⟨f.os, f.tape, f.output, f.size, fun i hi h1 _ => f.block i hi h1 h1⟩
theorem F2.widel {g : Nat} {a b : World} (f : F2 g g a b) (h : Nat) : F2 h g a b := ⟨f.os, f.tape, f.output, f.size, fun i hi _ h1 => f.block i hi h1 h1⟩
theorem F2.of_below {a b : World} (g h : Nat) (f : Below a.heap.size a b) : F2 g h a b := ⟨f.os, f.tape, f.output, f.size, fun i hi _ _ => f.block i hi⟩
theorem F2.grown {g h : Nat} {a w w' : World} (f : F2 g h a w) {row : Option Nat} (k : w.grownBy w' row) (hr : ∀ q, row = some q → q = g ∨ q = h ∨ a.heap.size ≤ q) : F2 g h a w' :=
  ⟨k.os.trans f.os, k.tape.trans f.tape, k.output.trans f.output, Nat.le_trans f.size k.size, fun i hi h1 h2 => (k.block i (Nat.lt_of_lt_of_le hi f.size) (fun e => by rcases hr i e.symm with h | h | h <;> omega)).trans (f.block i hi h1 h2)⟩
theorem MapA.f2 {w w' : World} {g h p : Nat} {ak as_ : Addr} {ck cs : Nat} {m : MapV} (a : MapA w p ak as_ ck cs m) (f : F2 g h w w') (h1 : p ≠ g ∧ p ≠ h) (h2 : ak.block ≠ g ∧ ak.block ≠ h) (h3 : as_.block ≠ g ∧ as_.block ≠ h) : MapA w' p ak as_ ck cs m :=
  ⟨f.kb a.blk h1.1 h1.2, a.kn.f2 f h2.1 h2.2, a.sl.f2 f h3.1 h3.2, a.cp⟩
theorem RtS.f2 {w w' : World} {g h : Nat} {A : Option Addr} {l : List Rt} (r : RtS w A l) (f : F2 g h w w') (hn : l = [] ∨ ∀ ad, A = some ad → ad.block ≠ g ∧ ad.block ≠ h) : RtS w' A l := by
  rcases r with r | ⟨ad, h1, h2⟩
  · exact .inl r
  · rcases hn with hn | hn
    · exact .inl hn
    · exact .inr ⟨ad, h1, h2.f2 f (hn ad h1).1 (hn ad h1).2⟩
theorem rts_lt {w : World} {A : Option Addr} {l : List Rt} (r : RtS w A l) : l = [] ∨ ∃ ad, A = some ad ∧ ad.block < w.heap.size ∧ RtA w ad l := by
  cases l with
  | nil => exact .inl rfl
  | cons t l =>
    rcases r with r | ⟨ad, h1, h2⟩
    · cases r
    · exact .inr ⟨ad, h1, World.block_lt_of_cell? w _ h2.zero.1, h2⟩
theorem own_rts {w : World} {base n : Nat} {e : TypeId} {v : Value} {l : List Rt} (h : w.ownsRow base e 2 v n (flatT l)) : ∃ A c, v = .slice A l.length c ∧ n = l.length ∧ RtS w A l ∧ ((l = [] ∧ v = .slice none 0 0) ∨ ∃ g, A = some ⟨g, 0, none⟩ ∧ base ≤ g ∧ g < w.heap.size ∧ VR w g n c 2 e) := by
  have hl := h.1
  rw [flatT_len] at hl
  have hn : n = l.length := by omega
  rcases h.2 with ⟨h0, h1⟩ | ⟨g, cap, cur, hv, hb, r⟩
  · have : l = [] := List.length_eq_zero_iff.mp (by omega)
    subst this
    exact ⟨none, 0, h0, hn, .inl rfl, .inl ⟨rfl, h0⟩⟩
  · have hlt := h.lt g (by rw [hv]; rfl)
    refine ⟨some ⟨g, 0, none⟩, cap, by rw [hv, hn], hn, .inr ⟨_, rfl, ?_⟩, .inr ⟨g, rfl, hb, hlt.2, ?_⟩⟩
    · rw [hv] at h; exact own_rta h
    · rw [hv] at h; exact VR.of_own h
theorem MapA.lt {w : World} {p : Nat} {ak as_ : Addr} {ck cs : Nat} {m : MapV} (a : MapA w p ak as_ ck cs m) (ok : MapOk m) : p < w.heap.size ∧ ak.block < w.heap.size ∧ as_.block < w.heap.size := by
  refine ⟨(Hand.hz a.blk).1, ?_, ?_⟩
  · have h := a.kn 0 ok.k0
    rw [Nat.zero_mul, show ak.add 0 = ak from rfl] at h
    exact World.block_lt_of_cell? w _ h.1
  · have h := a.sl 0 ok.s0
    rw [Nat.zero_mul, show as_.add 0 = as_ from rfl] at h
    exact World.block_lt_of_cell? w _ h.1
end Go.Proofs.Ythlpaglldhgmfaa.PA
namespace Go.Proofs.Ythlpaglldhgmfaa.PA
open Go Go.RowKit Go.Proofs.YthlpaglldhgmfaaW.PrintWords Go.Proofs.YthlpaglldhgmfaaW.PrintLast Go.Proofs.YthlpaglldhgmfaaW.PrintMore
set_option linter.unusedSimpArgs false
set_option linter.unusedVariables false
theorem add_add (a : Addr) (i j : Nat) : (a.add i).add j = a.add (i + j) := by
  unfold Addr.add
  by_cases hi : i = 0
  · subst hi; simp
  · by_cases hj : j = 0
    · subst hj; simp [hi]
    · rw [if_neg hi, if_neg hj, if_neg (by omega)]
      simp only [Nat.add_assoc]
theorem KnA.set4 {w : World} {g j : Nat} {l : List Kn} (h : KnA w ⟨g, 0, none⟩ l) (hj : j < l.length) (a b c d : Int) :
    KnA ((((w.setCell ⟨g, j * 4, none⟩ (.int .i64 a)).setCell ⟨g, j * 4 + 1, none⟩ (.int .i64 b)).setCell ⟨g, j * 4 + 2, none⟩ (.int .i64 c)).setCell ⟨g, j * 4 + 3, none⟩ (.int .i64 d)) ⟨g, 0, none⟩ (l.set j ((a, b), (c, d))) := by
  intro i hi
  rw [List.length_set] at hi
  obtain ⟨a0, a1, a2, a3⟩ := h i hi
  obtain ⟨b0, b1, b2, b3⟩ := h j hj
  rw [add0] at a0 a1 a2 a3 b0 b1 b2 b3 ⊢
  have same : ∀ (W : World) (o : Nat) (u v : Value), W.cell? ⟨g, o, none⟩ = some u → (W.setCell ⟨g, o, none⟩ v).cell? ⟨g, o, none⟩ = some v := fun W o u v hc => World.cell?_setCell_same _ _ _ hc
  have other : ∀ (W : World) (o o' : Nat) (u v : Value), o ≠ o' → W.cell? ⟨g, o', none⟩ = some u → (W.setCell ⟨g, o, none⟩ v).cell? ⟨g, o', none⟩ = some u := fun W o o' u v hne hc => (World.cell?_setCell_other _ _ _ _ (by intro e; exact hne (by cases e; rfl))).trans hc
  by_cases e : j = i
  · subst e
    simp only [List.getElem_set_self]
    exact ⟨other _ _ _ _ _ (by omega) (other _ _ _ _ _ (by omega) (other _ _ _ _ _ (by omega) (same _ _ _ _ b0))),
      other _ _ _ _ _ (by omega) (other _ _ _ _ _ (by omega) (same _ _ _ _ (other _ _ _ _ _ (by omega) b1))),
      other _ _ _ _ _ (by omega) (same _ _ _ _ (other _ _ _ _ _ (by omega) (other _ _ _ _ _ (by omega) b2))),
      same _ _ _ _ (other _ _ _ _ _ (by omega) (other _ _ _ _ _ (by omega) (other _ _ _ _ _ (by omega) b3)))⟩
  · simp only [List.getElem_set_ne e]
    have z : ∀ (o : Nat) (u : Value), (o = i * 4 ∨ o = i * 4 + 1 ∨ o = i * 4 + 2 ∨ o = i * 4 + 3) → w.cell? ⟨g, o, none⟩ = some u →
        ((((w.setCell ⟨g, j * 4, none⟩ (.int .i64 a)).setCell ⟨g, j * 4 + 1, none⟩ (.int .i64 b)).setCell ⟨g, j * 4 + 2, none⟩ (.int .i64 c)).setCell ⟨g, j * 4 + 3, none⟩ (.int .i64 d)).cell? ⟨g, o, none⟩ = some u :=
      fun o u ho hc => other _ _ _ _ _ (by omega) (other _ _ _ _ _ (by omega) (other _ _ _ _ _ (by omega) (other _ _ _ _ _ (by omega) hc)))
    exact ⟨z _ _ (by omega) a0, z _ _ (by omega) a1, z _ _ (by omega) a2, z _ _ (by omega) a3⟩
/-- knots, the first j of them turned round -/
def swp (l : List Kn) (j : Nat) : List Kn := swapK (l.take j) ++ l.drop j
theorem swp_zero (l : List Kn) : swp l 0 = l := by simp [swp, swapK]
theorem swp_all (l : List Kn) (j : Nat) (h : l.length ≤ j) : swp l j = swapK l := by simp [swp, List.take_of_length_le h, List.drop_eq_nil_of_le h]
theorem swp_len (l : List Kn) (j : Nat) : (swp l j).length = l.length := by simp [swp, swapK]; omega
theorem swp_at (l : List Kn) (j : Nat) (h : j < l.length) : (swp l j)[j]'(by rw [swp_len]; exact h) = l[j] := by
  simp only [swp]
  rw [List.getElem_append_right (by simp [swapK]; omega)]
  simp [swapK, Nat.min_eq_left (Nat.le_of_lt h)]
theorem swp_succ (l : List Kn) (j : Nat) (h : j < l.length) : swp l (j + 1) = (swp l j).set j (l[j].2, l[j].1) := by
  have hl : (swapK (l.take j)).length = j := by simp [swapK]; omega
  simp only [swp]
  rw [List.set_append_right _ _ (by omega), hl, Nat.sub_self, List.drop_eq_getElem_cons h, List.set_cons_zero]
  simp only [swapK, List.take_succ_eq_append_getElem h, List.map_append, List.map_cons, List.map_nil, List.append_assoc, List.cons_append, List.nil_append]
theorem NewR.mono {B B' : Nat} {w : World} {v : Value} {r : Option MapV} (h : NewR B' w v r) (hb : B ≤ B') : NewR B w v r := by
  cases r with
  | none => exact h
  | some m =>
    obtain ⟨p, ak, as_, ck, cs, h1, h2, h3, h4, h5⟩ := h
    exact ⟨p, ak, as_, ck, cs, h1, h2, Nat.le_trans hb h3, Nat.le_trans hb h4, Nat.le_trans hb h5⟩
theorem swapK_len (l : List Kn) : (swapK l).length = l.length := by simp [swapK]
set_option maxHeartbeats 4000000 in
set_option maxRecDepth 100000 in
theorem inv_any (p : Nat) (ak as_ : Addr) (ck cs : Nat) (m : MapV) (w : World) (hm : MapA w p ak as_ ck cs m) (hok : MapOk m) :
    Calls Try.prog 32 #[.pointer (some ⟨p, 0, none⟩)] w (NewQ w (invS m)) := by
  have M := Lib.hid (knots_any p ak as_ ck cs m w hm hok.k0 hok.k1)
  obtain ⟨n, hn⟩ : ∃ n, m.knots.length = n := ⟨_, rfl⟩
  have hn66 : n ≤ 66 := by have := hok.k1; omega
  have HKR := Lib.hid hok.kr
  have HN := Lib.hid hn
  rw [hn] at M
  clear hm hok hn
  go_enter Try.func32, Try.ntmps32
  go_wp2_with fail
  with_reducible refine (M.out).mono ?_
  rintro e_ w1 ⟨g, c, rfl, hown, hb1⟩
  have HV := Lib.hid (VR.of_own hown)
  have HK := Lib.hid (own_kna hown)
  have hgb : w.heap.size ≤ g := by
    rcases hown.2 with ⟨h0, _⟩ | ⟨g', cap', cur, hv, hb, _⟩
    · cases h0
    · cases hv; exact hb
  have HB := Lib.hid hb1
  clear hown hb1
  go_wp2_with fail
  go_loopw [11] (fun i wr => ∃ j : Nat, j ≤ n ∧ i = .int .i64 (j : Int) ∧ Below w.heap.size w wr ∧ VR wr g n c 4 35 ∧ KnA wr ⟨g, 0, none⟩ (swp m.knots j)) (fun i _ => n - (intOf i).toNat)
  case atStart => exact ⟨0, Nat.zero_le _, rfl, HB.out, HV.out, by rw [swp_zero]; exact HK.out⟩
  case round =>
    obtain ⟨j, hj, rfl, hB, hV, hK⟩ := hrel
    by_cases hjn : j < n
    · have p1 : ((j : Int) < (n : Int)) = True := eq_true (by omega)
      have p6 : (j < n) = True := eq_true (by omega)
      have p5 : (0 : Int) ≤ (j : Int) := by omega
      have w2 : IntKind.i64.wrap (j : Int) = (j : Int) := by rw [IntKind.wrap_i64]; omega
      have hjl : j < m.knots.length := by have := HN.out; omega
      have hcx := hV.1
      have hgl := hV.lt
      obtain ⟨d0, d1, d2, d3⟩ := hK j (by rw [swp_len]; exact hjl)
      rw [swp_at _ _ hjl, add0] at d0 d1 d2 d3
      obtain ⟨y0, c0, f0⟩ := hV.cell (j * 4) (by omega)
      obtain ⟨y1, c1, f1⟩ := hV.cell (j * 4 + 1) (by omega)
      obtain ⟨y2, c2, f2⟩ := hV.cell (j * 4 + 2) (by omega)
      obtain ⟨y3, c3, f3⟩ := hV.cell (j * 4 + 3) (by omega)
      rw [d0] at c0
      rw [d1] at c1
      rw [d2] at c2
      rw [d3] at c3
      cases c0
      cases c1
      cases c2
      cases c3
      have HS := Lib.hid (swp_succ m.knots j hjl)
      obtain ⟨⟨⟨k1, k2⟩, k3, k4⟩, hk⟩ : ∃ k, m.knots[j] = k := ⟨_, rfl⟩
      rw [hk] at d0 d1 d2 d3 HS
      dsimp only at d0 d1 d2 d3 HS
      have HVR := Lib.hid hV
      have HKA := Lib.hid hK
      have HBB := Lib.hid hB
      have HJL := Lib.hid hjl
      have hbsz := hB.size
      clear hk hV hK hB hjl
      go_wp2
      go_roundw
      case rel =>
        refine ⟨j + 1, by omega, by rw [Int.natCast_add]; rfl, ?_, ((((HVR.out.set _ _).set _ _).set _ _).set _ _).below ((Below.refl _ _).alloc (Nat.le_refl _) _), ?_⟩
        · repeat (with_reducible first | exact HBB.out | refine Below.setCell ?_ (by dsimp only; omega) _ | refine Below.alloc ?_ (by simp only [World.size_setCell]; omega) _)
        · rw [HS.out]
          exact (KnA.set4 HKA.out (by rw [swp_len]; exact HJL.out) _ _ _ _).below ((Below.refl _ _).alloc (Nat.le_refl _) _)
      case measure => simp [intOf]; omega
    · have p1 : ((j : Int) < (n : Int)) = False := eq_false (by omega)
      have e : swp m.knots j = swapK m.knots := swp_all _ _ (by have := HN.out; omega)
      have hl : (swapK m.knots).length = n := by rw [swapK_len]; exact HN.out
      have MN := Lib.hid (newm_any wr (swapK m.knots) (some ⟨g, 0, none⟩) c (.inr ⟨_, rfl, by rw [← e]; exact hK⟩) (fun k hk => by
        obtain ⟨k', hk', rfl⟩ := List.mem_map.1 hk
        exact ⟨(HKR.out k' hk').2, (HKR.out k' hk').1⟩))
      rw [hl] at MN
      have HBB := Lib.hid hB
      clear hB hV hK e hl
      go_wp2_with fail
      with_reducible refine (MN.out).mono ?_
      rintro e_ w2 ⟨v, rfl, hnr, hb2⟩
      have HB2 := Lib.hid hb2
      have HNR := Lib.hid hnr
      clear hb2 hnr
      go_wp2
      go_ret2
      exact ⟨_, rfl, HNR.out.mono HBB.out.size, Hand.stepB HB2.out HBB.out (Nat.le_refl _)⟩
theorem turnsK_len (m : MapV) : (turnsK m).length = m.knots.length - 2 := by unfold turnsK; rw [List.length_dropLast, List.length_tail]; omega
theorem KnA.turns {w : World} {ad : Addr} {m : MapV} (h : KnA w ad m.knots) : KnA w (ad.add 4) (turnsK m) := by
  intro j hj
  have hj2 := hj
  rw [turnsK_len] at hj2
  have e : (turnsK m)[j] = m.knots[j + 1]'(by omega) := by
    have h1 : (turnsK m)[j]? = m.knots[j + 1]? := by unfold turnsK; rw [List.getElem?_dropLast, if_pos (by rw [List.length_tail]; omega), List.getElem?_tail]
    rw [List.getElem?_eq_getElem hj, List.getElem?_eq_getElem (by omega)] at h1
    exact Option.some.inj h1
  obtain ⟨a, b, c, d⟩ := h (j + 1) (by omega)
  rw [e, add_add, show 4 + j * 4 = (j + 1) * 4 by omega]
  exact ⟨a, b, c, d⟩
set_option maxHeartbeats 4000000 in
set_option maxRecDepth 100000 in
theorem turns_any (p : Nat) (ak as_ : Addr) (ck cs : Nat) (m : MapV) (w : World) (hm : MapA w p ak as_ ck cs m) (hb : m.knots.length = m.bends + 2) (h66 : m.knots.length ≤ 66) (hck : m.knots.length ≤ ck) (hck2 : ck ≤ maxLen) :
    Calls Try.prog 101 #[.pointer (some ⟨p, 0, none⟩)] w fun e w' => ∃ A c, e = .returned (.slice A (turnsK m).length c) ∧ KnS w A (turnsK m) ∧ Below w.heap.size w w' := by
  obtain ⟨c0, f0, c1, f1, c2, f2⟩ := Hand.hc3 hm.blk
  have pz := (Hand.hz hm.blk).1
  have HK := Lib.hid hm.kn.turns
  have HT := Lib.hid (turnsK_len m)
  obtain ⟨n, hn⟩ : ∃ n, m.knots.length = n := ⟨_, rfl⟩
  obtain ⟨b, hbn⟩ : ∃ n, m.bends = n := ⟨_, rfl⟩
  rw [hn] at hb h66 hck c0 HT
  rw [hbn] at hb c2
  clear hm hn hbn
  go_enter Try.func101, Try.ntmps101
  by_cases h0 : b = 0
  · have j0 : ((b : Int) == 0) = true := by simp [h0]
    have HL : (turnsK m).length = 0 := by rw [HT.out]; omega
    go_wp2
    go_ret
    refine ⟨none, 0, by rw [HL]; rfl, .inl (List.length_eq_zero_iff.1 HL), Below.refl _ _⟩
  · have j0 : ((b : Int) == 0) = false := by simp [h0]
    have w2 : IntKind.i64.wrap ((n : Int) - 1) = ((n - 1 : Nat) : Int) := by rw [IntKind.wrap_i64]; omega
    have HL : (turnsK m).length = n - 2 := HT.out
    have p1 : ((1 : Int) ≤ ((n - 1 : Nat) : Int)) = True := eq_true (by omega)
    have p2 : (1 ≤ n - 1) = True := eq_true (by omega)
    have p3 : (n - 1 ≤ ck) = True := eq_true (by omega)
    have p4 : (((n - 1 : Nat) : Int) ≤ (ck : Int)) = True := eq_true (by omega)
    have p5 : ((0 : Int) ≤ ((n - 1 : Nat) : Int)) = True := eq_true (by omega)
    go_wp2_with fail
    go_quiet (fail)
    go_wp2
    go_ret
    exact ⟨some (ak.add 4), ck - 1, by rw [HL, hb]; rfl, .inr ⟨_, rfl, HK.out⟩, by apply pw_below_drewN; exact Below.refl _ _⟩
end Go.Proofs.Ythlpaglldhgmfaa.PA
